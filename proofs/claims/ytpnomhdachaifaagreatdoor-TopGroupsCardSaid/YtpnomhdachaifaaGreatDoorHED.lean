import Derived.Test.YtpnomhdachaifaaGreatDoorHEC
import Derived.RangeFuncLeaves
import Derived.RangeFuncNested
import Derived.Lib.SliceRun
import Derived.ChangeKeysEq
import Derived.Laws.StructEq
set_option maxRecDepth 100000
set_option maxHeartbeats 1000000
namespace Go.AM
open Go Go.RowKit
def nx(n k:Nat)(b:Bool):Nat:=bif b then k+1 else n+1+k
structure KeepsB(n0:Nat)(J:Nat->Hp->(Nat->Prop)->World->Prop):Prop where
 hi:∀ k h G W,J k h G W->∀ i o,h i=some o->W.heap[i]?=some o
 g:∀ k h G W,J k h G W->∀ i,G i->i<W.heap.size∧h i=none
 rest:∀ k h G W h' W',J k h G W->Rest n0 G h W h' W'->J k h' G W'
structure Keeps2(P:Program)(l:Nat)(xs:List (List PV))(n0:Nat)(J:Nat->Hp->(Nat->Prop)->World->Prop):Prop extends KeepsB n0 J where
 give:∀ k h G W x vals,xs[k]?=some x->J k h G W->PReps h x vals->YieldAt (Wd none) 0 P l vals.toArray W fun e W'=>∃ b,e=.returned (.bool b)∧∃ h' G',J (nx xs.length k b) h' G' W'∧Gave G h W G' h' W'
structure Iter2(P:Program)(gf:FuncId)(caps:List (List DV))(xs:List (List PV)):Prop where
 fn:lS P gf
 go:∀ (l:Nat) (lb:Array Value) (J:Nat->Hp->(Nat->Prop)->World->Prop) (h:Hp) (G:Nat->Prop) (W:World) (n0:Nat),n0<=W.heap.size->CapsRep h caps lb.toList->GlOK h->Keeps2 P l xs n0 J->J 0 h G W ->
  CallsIn (Wd none) 0 P gf (#[.func (.yield l) #[] #[]]++lb) W fun e W'=>(∃ v,e=.returned v)∧∃ kf h' G',xs.length<=kf∧J kf h' G' W'
def xY(np':Nat)(Q:Exit->St->Prop)(l:List (Nat×AV))(o1:Own)(I1:Prop):Exit->St->Prop
 |.normal,s'=>GW np' s'.own o1∧I1
 |.ret,s'=>∃ o,GW np' s'.own o∧Q .ret ⟨a7 l,o⟩
 |.exit id,s'=>∃ o,GW np' s'.own o∧Q (.exit id) ⟨a7 l,o⟩
 |_,_=>False
def tF(n:Nat)(own:Nat->Own)(I:Nat->Prop)(Q:Exit->St->Prop)(l:List (Nat×AV))(k:Nat)(o:Own)(st:LoopState)(pe:Option Code):Prop :=
 (k<=n∧o=own k∧st=.ready∧pe=none∧I k)∨(n<k∧st=.done∧((pe=some .ret∧Q .ret ⟨a7 l,o⟩)∨∃ id,pe=some (.exit id)∧Q (.exit id) ⟨a7 l,o⟩))
theorem lX{h:Hp}:∀ (ps:List PV) (vs:List Value),PReps h ps vs->vs.length=ps.length
 | [],[],_=>rfl
 | [],_::_,k=>k.elim
 |_::_,[],k=>k.elim
 |_::ps,_::vs,k=>by simp[lX ps vs k.2]
theorem ND{ro:Option Nat}{P:Program}{l:Nat}{f:FuncId}{tmps:Array Value}{assign body:Code}{w:World}{R:Ending->World->Prop}(h:RoundIn (Wd none) 0 P l f tmps assign body w R):RoundIn (Wd ro) 0 P l f tmps assign body w R:=h
theorem Gave.start{h:Hp}{W:World}{G F:Nat->Prop}(hs:∀ i,F i->False):Gave G h W (fun i=>G i∨F i) h W :=
 ⟨rfl,rfl,.refl _,Iv _,fun _ _ _=>rfl,.refl _,fun _ e=>.inl e,fun i e=>e.elim .inl fun x=>(hs i x).elim⟩
section
variable (P:Program)(l:Nat)(xs:List (List PV))(n0:Nat)(J:Nat->Hp->(Nat->Prop)->World->Prop)(N np:Nat)
structure SK where
 r0:Nat->Value
 h:Hp
 W:World
 F:Nat->Prop
def S0(s:St)(r:Nat->Value)(i:Nat):Prop:=∃ m,s.own m≠none∧aD (r m)=some i
structure CK(S:SK)(k:Nat)(G:Nat->Prop)(h:Hp)(r:Nat->Value)(s:St)(a:Act)(w:World):Prop where
 sz:a.tmps.size=N
 df:a.defers=[]
 rg:RegsOK h r s.regs a
 kj:∃ C:Ctx,WOK C h r s.own w∧J k C.h0 G C.w0∧n0<=C.w0.heap.size∧(∀ i,C.F i->n0<=i∧¬ G i∧C.h0 i=none)∧C.np=np∧C.mar=false∧(∀ m,m<np->C.r0 m=S.r0 m)∧Gave S.F S.h S.W (fun i=>G i∨C.F i) C.h0 C.w0
def AK(c:Code)(Q:Exit->Nat->St->Prop)(k:Nat)(s:St):Prop :=
 ∀ (ro:Option Nat) (S:SK) (h:Hp) (r:Nat->Value) (a:Act) (w:World) (G:Nat->Prop),CK n0 J N np S k G h r s a w ->
  c.wpIn (Wd ro) 0 P (fun e a' w'=>∃ k' s' h' r' G',Q e k' s'∧CK n0 J N np S k' G' h' r' s' a' w') a w
def RY(Q:Exit->Nat->St->Prop)(ops:Array Oper)(os:List Oper)(i:Nat)(k:Nat)(s:St):Prop:=ops.toList.drop i=os ->
 ∀ (ro:Option Nat) (S:SK) (h:Hp) (r:Nat->Value) (a:Act) (w:World) (G:Nat->Prop),CK n0 J N np S k G h r s a w ->
  wpOpsIn (Wd ro) 0 P ops (fun e a' w'=>∃ k' s' h' r' G',Q e k' s'∧CK n0 J N np S k' G' h' r' s' a' w') (List.range' i os.length) a w
end
section
variable {P:Program}{l:Nat}{xs:List (List PV)}{n0:Nat}{J:Nat->Hp->(Nat->Prop)->World->Prop}{N np:Nat} 
variable {Q:Exit->Nat->St->Prop}{k:Nat}{s:St}
theorem CK.now{S:SK}(hK:KeepsB n0 J){G:Nat->Prop}{h:Hp}{r:Nat->Value}{a:Act}{w:World}(c:CK n0 J N np S k G h r s a w):J k h G w:=by
 obtain⟨C,hw,hj,hs,hF,_,_,_,_⟩:=c.kj;have hg:=hK.g _ _ _ _ hj;refine hK.rest _ _ _ _ _ _ hj ⟨hw.os,hw.tape,hw.output,hw.size,fun i hi=>?_,hw.hi,hw.hg,fun i hi=>?_⟩
 ·by_cases e:C.F i
  ·exact .inr (hF i e)
  exact .inl (hw.old i hi e)
 rcases hw.hn i hi with g|g|g
 ·exact .inl g
 ·exact .inr ⟨UA hs g,fun x=>by have:=(hg i x).1;omega⟩
 exact .inr ⟨(hF i g).1,(hF i g).2.1⟩
theorem CK.notG{S:SK}(hK:KeepsB n0 J){G:Nat->Prop}{h:Hp}{r:Nat->Value}{a:Act}{w:World}(c:CK n0 J N np S k G h r s a w){m i:Nat}(hm:s.own m≠none)(e:aD (r m)=some i):n0<=i∧¬ G i∧i<w.heap.size∧h i=none:=by
 obtain⟨C,hw,hj,hs,hF,_,_,_,_⟩:=c.kj;refine⟨?_,?_,hw.lt hm e,hw.ho m i hm e⟩
 ·rcases hw.fo m i hm e with g|g
  ·exact UA hs g
  exact(hF i g).1
 rcases hw.fo m i hm e with g|g
 ·exact fun x=>by have:=(hK.g _ _ _ _ hj i x).1;omega
 exact(hF i g).2.1
theorem CK.bool{S:SK}{G:Nat->Prop}{h:Hp}{r:Nat->Value}{a:Act}{w:World}(hc:CK n0 J N np S k G h r s a w){c:Operand}{b:Bool}(he:ev s.regs c=.p (.c (.v (.bool b)))):a.eval c=.bool b:=by
 have:=eL hc.rg c;rw[he]at this;simp only[AVRep,PRep,DRep]at this;exact this.1
theorem CK.le{S:SK}{t:St}(q:Le s t){G:Nat->Prop}{h:Hp}{r:Nat->Value}{a:Act}{w:World}(c:CK n0 J N np S k G h r s a w):CK n0 J N np S k G h r t a w:=by
 obtain⟨C,hw,rest⟩:=c.kj;exact⟨c.sz,c.df,fun i=>q.regs i h r _ (c.rg i),C,hw.forget q.own,rest⟩
theorem CK.frame{S:SK}{G:Nat->Prop}{h:Hp}{r:Nat->Value}{a:Act}{w:World}(c:CK n0 J N np S k G h r s a w):Gave S.F S.h S.W (fun i=>G i∨S0 s r i) h w:=by
 obtain⟨C,hw,hj,hs,hF,hn,hm,hr0,hfr⟩:=c.kj;refine⟨hw.os.trans hfr.os,hw.tape.trans hfr.tape,hw.output.trans hfr.output,UA hfr.size hw.size,fun i hi hg=>?_,hfr.hg.trans hw.hg,fun i hi=>?_,fun i hi=>?_⟩
 ·rw[hw.old i (Vf hi hfr.size) fun x=>?_]
  ·exact hfr.old i hi hg
  rcases hfr.gg i (.inr x)with g|g
  ·exact hg g
  omega
 ·rcases hw.hn i hi with g|g|g
  ·exact hfr.hn i g
  ·exact .inr (.inl (UA hfr.size g))
  rcases hfr.gg i (.inr g)with g|g
  ·exact .inr (.inr g)
  exact .inr (.inl g)
 rcases hi with g|⟨m,hm,e⟩
 ·exact hfr.gg i (.inl g)
 rcases hw.fo m i hm e with g|g
 ·exact .inr (UA hfr.size g)
 exact hfr.gg i (.inr g)
theorem Gave.trans{A B D:Nat->Prop}{h h' h'':Hp}{W W' W'':World}(p:Gave A h W B h' W')(q:Gave B h' W' D h'' W''):Gave A h W D h'' W'':=by
 refine⟨q.os.trans p.os,q.tape.trans p.tape,q.output.trans p.output,UA p.size q.size,fun i hi hg=>?_,p.hg.trans q.hg,fun i hi=>?_,fun i hi=>?_⟩
 ·rw[q.old i (Vf hi p.size) fun x=>?_]
  ·exact p.old i hi hg
  rcases p.gg i x with g|g
  ·exact hg g
  omega
 ·rcases q.hn i hi with g|g|g
  ·exact p.hn i g
  ·exact .inr (.inl (UA p.size g))
  rcases p.gg i g with g|g
  ·exact .inr (.inr g)
  exact .inr (.inl g)
 rcases q.gg i hi with g|g
 ·exact p.gg i g
 exact .inr (UA p.size g)
theorem Gave.plus{A B X:Nat->Prop}{h h':Hp}{W W':World}(p:Gave A h W B h' W'):Gave (fun i=>A i∨X i) h W (fun i=>B i∨X i) h' W':=by
 refine⟨p.os,p.tape,p.output,p.size,fun i hi hg=>p.old i hi fun x=>hg (.inl x),p.hg,fun i hi=>?_,fun i hi=>?_⟩
 ·rcases p.hn i hi with g|g|g
  ·exact .inl g
  ·exact .inr (.inl g)
  exact .inr (.inr (.inl g))
 rcases hi with g|g
 ·rcases p.gg i g with g|g
  ·exact .inl (.inl g)
  exact .inr g
 exact .inl (.inr g)
theorem AA{c:Code}(h:AWp P true N np c (fun e s'=>Q e k s') s):AK P n0 J N np c Q k s:=by
 intro ro S hh r a w G hc;obtain⟨C,hw,hj,hs,hF,hn,hm,hr0,hfr⟩:=hc.kj;refine wpIn_mono (h ro (fun e=>by cases e) C hh r a w ⟨hn,hm⟩ ⟨hc.sz,by rw[hc.df];trivial,hc.rg,hw⟩) ?_;rintro e a' w' ⟨s',h',r',q,c'⟩;refine⟨k,s',h',r',G,q,c'.sz,?_,c'.rg,C,c'.wk,hj,hs,hF,hn,hm,hr0,hfr⟩;have:=c'.df;cases hd:a'.defers with
 |nil=>rfl
 |cons d ds=>rw[hd]at this;have h1:=this.1;rw[hm]at h1;cases h1
theorem ay(hP:P.follows .mixedOrders=true){id:Nat}{ops:Array Oper}{draw:Bool}(h:RK P N np ops draw ops.toList (bt (dA ops.toList) s) [] (Q .normal k)):AK P n0 J N np (.region id ops draw) Q k s :=
 AA (bp hP h)
theorem aB{x y:Code}(h:AK P n0 J N np x (vm (AK P n0 J N np y Q) Q) k s):AK P n0 J N np (.seq x y) Q k s:=by
 intro ro S hh r a w G hc;refine wpIn_seq (wpIn_mono (h ro S hh r a w G hc) ?_);rintro e a' w' ⟨k',s',h',r',G',q,c⟩;cases e with
 |normal=>exact q ro S h' r' a' w' G' c
 |_=>exact⟨k',s',h',r',G',q,c⟩
theorem bQ(h:Q .normal k s):AK P n0 J N np .skip Q k s:=fun _ _ hh r _ _ G hc=>wpIn_skip ⟨k,s,hh,r,G,h,hc⟩
theorem fH(h:Q .ret k s):AK P n0 J N np .ret Q k s:=fun _ _ hh r _ _ G hc=>wpIn_ret ⟨k,s,hh,r,G,h,hc⟩
theorem hZ{id:Nat}(h:Q (.exit id) k s):AK P n0 J N np (.exit id) Q k s:=fun _ _ hh r _ _ G hc=>wpIn_exit ⟨k,s,hh,r,G,h,hc⟩
theorem dF{id:Nat}{c:Code}(h:AK P n0 J N np c (JIn id Q) k s):AK P n0 J N np (.block id c) Q k s:=by
 intro ro S hh r a w G hc;refine wpIn_block (wpIn_mono (h ro S hh r a w G hc) ?_);rintro e a' w' ⟨k',s',h',r',G',q,c⟩;cases e with
 |exit id' =>
  simp only[Exit.inBlock];simp only[JIn]at q;by_cases hid:id'=id
  ·subst hid;rw[H2 rfl];have:Nat.beq id' id'=true:=by simp
   rw[this]at q;exact⟨k',s',h',r',G',q,c⟩
  rw[G2 hid];have:Nat.beq id' id=false:=by
   cases e:Nat.beq id' id with
   |false=>rfl
   |true=>exact absurd (UT e) hid
  rw[this]at q;exact⟨k',s',h',r',G',q,c⟩
 |_=>exact⟨k',s',h',r',G',q,c⟩
theorem dc{c:Operand}{x y:Code}{b:Bool}(he:ev s.regs c=.p (.c (.v (.bool b))))(ht:b=true->AK P n0 J N np x Q k s)(hf:b=false->AK P n0 J N np y Q k s):AK P n0 J N np (.cond c x y) Q k s:=by
 intro ro S hh r a w G hc;have hb:=hc.bool he;cases b with
 |true=>exact wpIn_cond_true hb (ht rfl ro S hh r a w G hc)
 |false=>exact wpIn_cond_false hb (hf rfl ro S hh r a w G hc)
theorem jO{c:Operand}{x y:Code}{b:Bool}(he:ev s.regs c=.p (.c (.v (.bool b))))(hb:b=true)(ht:AK P n0 J N np x Q k s):AK P n0 J N np (.cond c x y) Q k s :=
 dc he (fun _=>ht) (fun h=>by rw[hb]at h;cases h)
theorem cY{c:Operand}{x y:Code}{b:Bool}(he:ev s.regs c=.p (.c (.v (.bool b))))(hb:b=false)(hf:AK P n0 J N np y Q k s):AK P n0 J N np (.cond c x y) Q k s :=
 dc he (fun h=>by rw[hb]at h;cases h) (fun _=>hf)
theorem Iy{t:St}{c:Code}(q:Le s t)(h:AK P n0 J N np c Q k t):AK P n0 J N np c Q k s :=
 fun ro S hh r a w G hc=>h ro S hh r a w G (hc.le q)
theorem ka{ι:Type}{c:Code}(I:ι->St)(κ:ι->Nat)(F:ι->Prop)(μ:ι->Nat)(i₀:ι)(h₀:F i₀)(hk:κ i₀=k)(hs:Le s (I i₀))(round:∀ i,F i->AK P n0 J N np c (vm (fun k' s'=>∃ j,F j∧μ j<μ i∧κ j=k'∧Le s' (I j)) Q) (κ i) (I i)):AK P n0 J N np (.loop c) Q k s:=by
 intro ro S hh r a w G hc b kk cs hro hfn hroom;have key:∀ n i h r a w G,μ i=n->F i->CK n0 J N np S (κ i) G h r (I i) a w ->
   ∃ e a' w',(∃ k' s' h' r' G',Q e k' s'∧CK n0 J N np S k' G' h' r' s' a' w')∧ArrivesIn (Machine.fenced P (Wd ro)) P (lone (b.atR a (.code c :: .inLoop c::kk)) cs w) b kk cs e a' w':=by
  intro n;induction n using Nat.strongRecOn with
  |_ n ih =>
   intro i h r a w G hμ hF hc;obtain⟨e,a₁,w₁,⟨k₁,s₁,h₁,r₁,G₁,hq,hc₁⟩,harr⟩:=round i hF ro S h r a w G hc b (.inLoop c::kk) cs hro hfn hroom;cases e with
   |normal =>
    obtain⟨j,hFj,hlt,hκ,hle⟩:=hq;subst hκ;obtain⟨e₂,a₂,w₂,hq₂,harr₂⟩:=ih (μ j) (hμ▸hlt) j h₁ r₁ a₁ w₁ G₁ rfl hFj (hc₁.le hle);exact⟨e₂,a₂,w₂,hq₂,.of_steps (StepsIn.trans harr (.one (fenced_calm hfn hroom rfl) stepR_inLoop)) harr₂⟩
   |exit id=>exact⟨_,a₁,w₁,⟨k₁,s₁,h₁,r₁,G₁,hq,hc₁⟩,.pass (x:=.inLoop c) rfl (fun _ _=>.inl (by simp)) harr⟩
   |goto l=>exact⟨_,a₁,w₁,⟨k₁,s₁,h₁,r₁,G₁,hq,hc₁⟩,.pass (x:=.inLoop c) rfl (fun _ _=>.inl (by simp)) harr⟩
   |ret=>exact⟨_,a₁,w₁,⟨k₁,s₁,h₁,r₁,G₁,hq,hc₁⟩,.pass (x:=.inLoop c) rfl (fun _ _=>.inl (by simp)) harr⟩
   |panic ch=>exact⟨_,a₁,w₁,⟨k₁,s₁,h₁,r₁,G₁,hq,hc₁⟩,.pass (x:=.inLoop c) rfl (fun _ _=>.inl (by simp)) harr⟩
   |outgrown=>exact⟨_,a₁,w₁,⟨k₁,s₁,h₁,r₁,G₁,hq,hc₁⟩,.pass (x:=.inLoop c) rfl (fun _ _=>.inl (by simp)) harr⟩
 subst hk;obtain⟨e,a',w',hq,harr⟩:=key _ i₀ hh r a w G rfl h₀ (hc.le hs);exact⟨e,a',w',hq,.of_steps (.one (fenced_calm hfn hroom rfl) stepR_loop) harr⟩
section rj
variable {ops:Array Oper}{os:List Oper}{i:Nat}{op:Op}{ty:TypeId}{pos:String}{af:Array Edge}{gd:Option (Nat×Bool)}{t:Nat}
theorem gZ{id:Nat}(h:RY P n0 J N np Q ops ops.toList 0 k s):AK P n0 J N np (.region id ops false) Q k s:=by
 intro ro S hh r a w G hc;apply wpIn_region;rw[Xs];exact h rfl ro S hh r a w G hc
theorem RY.done(h:Q .normal k s):RY P n0 J N np Q ops [] i k s:=fun _ _ _ hh r _ _ G hc=>⟨k,s,hh,r,G,h,hc⟩
theorem CK.put{S:SK}{G:Nat->Prop}{h h':Hp}{r r':Nat->Value}{a:Act}{w w':World}{C:Ctx}{v:AV}{x:Value}(hc:CK n0 J N np S k G h r s a w)(hle:Hle h h')(hr:∀ m,r' m=r m)(ht:t<N)(hv:AVRep h' r' v x)(q:WOK C h' r' s.own w')(hj:J k C.h0 G C.w0)(hs:n0<=C.w0.heap.size)(hF:∀ i,C.F i->n0<=i∧¬ G i∧C.h0 i=none)(hn:C.np=np)(hm:C.mar=false)(hr0:∀ m,m<np->C.r0 m=S.r0 m)(hfr:Gave S.F S.h S.W (fun i=>G i∨C.F i) C.h0 C.w0):CK n0 J N np S k G h' r' ⟨upd s.regs t v,s.own⟩ (a.put (some t) x) w' :=
 ⟨by simp[Act.put,hc.sz],by simpa[Act.put]using hc.df,(show RegsOK h' r' s.regs a from fun u=>AVRep.rebind _ _ (fun m _=>hr m) (AVRep.mono hle _ _ (hc.rg u))).put (dst:=some t) (fun d e=>by cases e;rw[hc.sz];exact ht) hv,C,q,hj,hs,hF,hn,hm,hr0,hfr⟩
theorem RY.val{v:AV}{rd:List Nat}(hg:cm ops ⟨some t,op,ty,pos,af,gd⟩ s.regs true)(he:Eff P ⟨some t,op,ty,pos,af,gd⟩ t (ev s.regs) s.own v [] none rd)(hr:RY P n0 J N np Q ops os (i+1) k ⟨upd s.regs t v,s.own⟩)(hN:(Nat.blt t N&&jR ⟨some t,op,ty,pos,af,gd⟩)=true:=by rfl):RY P n0 J N np Q ops (⟨some t,op,ty,pos,af,gd⟩::os) i k s:=by
 intro hd ro S hh r a w G hc;obtain⟨h1,h2⟩:=jv hd;rw[Uw,WR]at hN;rw[U5,V8,wpOpsIn_cons];unfold wpOpIn;simp only[h1];rw[eX hc.rg hg,H2 rfl];obtain⟨C,hw,hj,hs,hF,hn,hm,hr0,hfr⟩:=hc.kj;refine nj (jD hN.2) ?_;refine he C hh r s.own a w _ _ (fun x _=>eL hc.rg x) (fun _ _=>rfl) hw (fun e=>absurd rfl e) ?_;intro x h' r' w' hle hrr hv hw';exact⟨hr h2 ro S h' r' _ w' G (hc.put hle (fun m=>hrr m (fun e=>absurd rfl e)) hN.1 hv hw' hj hs hF hn hm hr0 hfr),rfl⟩
theorem RY.skip(hg:cm ops ⟨some t,op,ty,pos,af,gd⟩ s.regs false)(hr:RY P n0 J N np Q ops os (i+1) k ⟨upd s.regs t (.t []),s.own⟩)(hN:Nat.blt t N=true:=by rfl):RY P n0 J N np Q ops (⟨some t,op,ty,pos,af,gd⟩::os) i k s:=by
 intro hd ro S hh r a w G hc;obtain⟨h1,h2⟩:=jv hd;rw[WR]at hN;rw[U5,V8,wpOpsIn_cons];unfold wpOpIn;simp only[h1];rw[eX hc.rg hg,G2 (by simp)];obtain⟨C,hw,hj,hs,hF,hn,hm,hr0,hfr⟩:=hc.kj;exact⟨fun _ _=>trivial,hr h2 ro S hh r _ w G (hc.put (.refl _) (fun _=>rfl) hN ⟨[],rfl,trivial⟩ hw hj hs hF hn hm hr0 hfr)⟩
theorem RY.yield(hK:Keeps2 P l xs n0 J){c:Operand}{args:Array Operand}{tys:Array TypeId}{x:List PV}(hg:cm ops ⟨some t,.call ⟨.value c,args,tys⟩,ty,pos,af,gd⟩ s.regs true)(hy:ev s.regs c=.p (.c (.v (.func (.yield l) #[] #[]))))(ha:args.toList.map (ev s.regs)=x.map .p)(hx:xs[k]?=some x)(hr:∀ b,RY P n0 J N np Q ops os (i+1) (nx xs.length k b) ⟨upd s.regs t (.p (.c (.v (.bool b)))),s.own⟩)(hN:Nat.blt t N=true:=by rfl):RY P n0 J N np Q ops (⟨some t,.call ⟨.value c,args,tys⟩,ty,pos,af,gd⟩::os) i k s:=by
 intro hd ro S hh r a w G hc;obtain⟨h1,h2⟩:=jv hd;rw[WR]at hN;rw[U5,V8,wpOpsIn_cons];unfold wpOpIn;simp only[h1];rw[eX hc.rg hg,H2 rfl];have hyv:a.eval c=.func (.yield l) #[] #[]:=by
  have:=eL hc.rg c;rw[hy]at this;simp only[AVRep,PRep,DRep]at this;exact this.1
 have hra:RepArgs hh r (x.map .p) (args.map a.eval).toList:=by
  rw[<- ha,VU];exact cX _ fun x _=>eL hc.rg x
 obtain⟨fn,tmps,assign,body,hrun,hR⟩:=hK.give k hh G w x _ hx (hc.now hK.toKeepsB) (ns hra);refine⟨fun _ _=>trivial,?_⟩;rw[Oper.semAt_eq _ _ _ (fun c' e=>by cases e)];have hex:(execOp a.eval ⟨some t,.call ⟨.value c,args,tys⟩,ty,pos,af,gd⟩).run P w=.ok (.round l fn tmps assign body) w:=by
  simp only[execOp,resolve,Sem.run_bind,hyv,Deferred.ofValue,Sem.run_pure,Result.andThen_ok,invoke,Array.empty_append];have e:(args.map a.eval).toList.toArray=args.map a.eval:=Array.toArray_toList;rw[<- e];exact hrun
 rw[hex];refine⟨fun e=>by simp[Wd]at e,RoundIn.mono (ND hR) ?_⟩;rintro e w' ⟨b,rfl,h',G',hj,q⟩;obtain⟨C,hw,hj0,hs,hF,hn,hm,hr0,hfr⟩:=hc.kj;have same:∀ m i,s.own m≠none->aD (r m)=some i->w'.heap[i]?=w.heap[i]?:=fun m i hm e=>by
  have:=hc.notG hK.toKeepsB hm e;exact q.old i this.2.2.1 this.2.1
 have hw':WOK ⟨w',h',fun i=>∃ m,s.own m≠none∧aD (r m)=some i,r,np,false⟩ h' r s.own w':=by
  refine⟨fun m b e=>((hw.ow m b e).mono q.hg).world fun i hi=>same m i (by rw[e];simp) hi,hw.inj,hK.hi _ _ _ _ hj,fun m i hm e=>?_,rfl,rfl,.refl _,Iv _,fun _ _ _=>rfl,fun m i hm e=>.inr ⟨m,hm,e⟩,.refl _,fun _ e=>.inl e,hw.gl.mono q.hg,fun _ _=>rfl,fun m b j e hj'=>?_⟩
  ·have hg:=hc.notG hK.toKeepsB hm e;cases hh':h' i with
   |none=>rfl
   |some o =>
    rcases q.hn i (by rw[hh'];simp)with g|g|g
    ·exact absurd hg.2.2.2 g
    ·omega
    exact absurd g hg.2.1
  obtain⟨q1,t',e1,e2⟩:=hw.lk m b j e hj';exact⟨q1,t',e1,by rw[same m q1 (by rw[e];simp) (by rw[e1];rfl)];exact e2⟩
 have n1:n0<=w'.heap.size:=UA (UA hs hw.size) q.size;refine hr b h2 ro S h' r _ w' G' ⟨by simp[Act.put,hc.sz],by simpa[Act.put]using hc.df,(show RegsOK h' r s.regs a from fun u=>AVRep.mono q.hg _ _ (hc.rg u)).put (dst:=some t) (v:=.p (.c (.v (.bool b)))) (x:=.bool b) (fun d e=>by cases e;rw[hc.sz];exact hN) ⟨rfl,rfl⟩,_,hw',hj,n1,?_,rfl,rfl,fun m hm=>?_,hc.frame.trans q.plus⟩
 rotate_left
 ·show r m=_;rw[hw.kp m (by omega)];exact hr0 m hm
 rintro i ⟨m,hm,e⟩;have hg:=hc.notG hK.toKeepsB hm e;refine⟨hg.1,fun x=>?_,?_⟩
 ·rcases q.gg i x with g|g
  ·exact hg.2.1 g
  omega
 exact hw'.ho m i hm e
end rj
end
section
variable (P:Program)(l:Nat)(xs:List (List PV))(n0:Nat)(J:Nat->Hp->(Nat->Prop)->World->Prop)(N np:Nat)
def Ou(D:Nat):Deferred:={ target:=.collected D,args:=#[] }
def SP(e:Exit)(a:Act)(w:World):Prop:=(e=.normal∨e=.ret)∧∃ kf h G,xs.length<=kf∧J kf h G w ∧
 (a.defers=[]∨∃ D,a.defers=[Ou D]∧w.heap[D]?=some (.deferred (some []))∧n0<=D∧¬ G D∧h D=none)
def AE(c:Code)(k:Nat)(s:St):Prop :=
 ∀ (S:SK) (h:Hp) (r:Nat->Value) (a:Act) (w:World) (G:Nat->Prop),CK n0 J N np S k G h r s a w->c.wpIn (Wd none) 0 P (SP xs n0 J) a w
end
section
variable {P:Program}{l:Nat}{xs:List (List PV)}{n0:Nat}{J:Nat->Hp->(Nat->Prop)->World->Prop}{N np:Nat}{k:Nat}{s:St}
theorem Iz{c:Code}(hK:KeepsB n0 J)(h:AK P n0 J N np c (fun e k' _=>(e=.normal∨e=.ret)∧xs.length<=k') k s):AE P xs n0 J N np c k s:=by
 intro S hh r a w G hc;refine wpIn_mono (h none S hh r a w G hc) ?_;rintro e a' w' ⟨k',s',h',r',G',⟨q1,q2⟩,c⟩;exact⟨q1,k',h',G',q2,c.now hK,.inl c.df⟩
theorem vN{n:Nat}{G:Nat->Prop}{h:Hp}{w:World}{L:Nat}{ob:Obj}(hi:∀ i o,h i=some o->w.heap[i]?=some o)(h1:n<=L)(h2:¬ G L)(h3:h L=none):Rest n G h w h (w.putObj L ob) :=
 ⟨rfl,rfl,.refl _,by rw[bb];exact Iv _,fun i _=>by
  by_cases e:i=L
  ·subst e;exact .inr ⟨h1,h2,h3⟩
  ·exact .inl (bO e),fun i o e=>by
  rw[bO fun x=>by subst x;rw[h3]at e;cases e];exact hi i o e,.refl _,fun _ e=>.inl e⟩
end
theorem F9{P:Program}{f:FuncId}{fn:Func}{c:Code}{N:Nat}{caps:List (List DV)}{xs:List (List PV)}(hf:P.funcs[f]?=some fn)(hnm:(fn.name == "runtime.NumGoroutine")=false)(hb:fn.body=some c)(hN:fn.ntmps=N)(hna:caps.length+1<=N)(hres:fn.results=#[])(h:∀ l n0 J,Keeps2 P l xs n0 J->AE P xs n0 J N 0 c 0 ⟨fun t=>((.p (.c (.v (.func (.yield l) #[] #[])))::caps.map .ip:List AV)).getD t .junk,O⟩):Iter2 P f caps xs:=by
 refine⟨⟨fn,hf,hnm,by rw[hb];rfl⟩,?_⟩;intro l lb J hh G W n0 hn0 hcaps hgl hK h0;refine callsIn_of_wp_marks hf hb trivial ?_;have hcl:∀ (cs:List (List DV)) (xs:List Value),CapsRep hh cs xs->xs.length=cs.length:=by
  intro cs;induction cs with
  |nil=>intro xs k;cases xs with
   |nil=>rfl
   |cons _ _=>exact k.elim
  |cons p ps ih=>intro xs k;cases xs with
   |nil=>exact k.elim
   |cons x xs=>simp[ih xs k.2]
 have hlen:lb.size=caps.length:=by simpa using hcl _ _ hcaps
 have hget:∀ (cs:List (List DV)) (xs:List Value),CapsRep hh cs xs->∀ (t:Nat) (x:List DV),cs[t]?=some x->∃ y,xs[t]?=some y∧IpRep hh x y:=by
  intro cs;induction cs with
  |nil=>intro xs _ t x h;simp at h
  |cons p ps ih=>intro xs h t x hx;cases xs with
   |nil=>exact h.elim
   |cons y ys=>cases t with
    |zero=>simp at hx;subst hx;exact⟨y,rfl,h.1⟩
    |succ t=>exact ih ys h.2 t x (by simpa using hx)
 refine wpIn_mono (h l n0 J hK ⟨fun _=>.bool false,hh,W,G⟩ hh (fun _=>.bool false) _ W G ⟨?_,rfl,?_,(⟨W,hh,fun _=>False,fun _=>.bool false,0,false⟩:Ctx),?_,h0,hn0,fun _ e=>e.elim,rfl,rfl,fun _ _=>rfl,Gave.start fun _ e=>e⟩) ?_
 ·simp[hN,hlen];omega
 ·intro t;show AVRep hh _ (((.p (.c (.v (.func (.yield l) #[] #[])))::caps.map .ip:List AV)).getD t .junk) _;rw[As];cases t with
  |zero =>
   simp only[List.getElem?_cons_zero,Option.getD_some];have e0:(#[.func (.yield l) #[] #[]]++lb++Array.replicate (fn.ntmps-(#[.func (.yield l) #[] #[]]++lb:Array Value).size) undef:Array Value).getD 0 undef=.func (.yield l) #[] #[]:=by
    rw[VP,U9 (by simp;omega),U9 (by simp)];rfl
   show AVRep hh _ (.p (.c (.v (.func (.yield l) #[] #[])))) (Array.getD _ 0 undef);rw[e0];simp only[AVRep,PRep,DRep,true_and];rfl
  |succ t =>
   rw[W0,UE];cases ht:caps[t]? with
   |none=>exact trivial
   |some x =>
    obtain⟨y,g1,g2⟩:=hget _ _ hcaps t x ht;have g1':lb[t]?=some y:=by rw[<- UJ];exact g1
    have hlt:t<lb.size:=(K0.1 g1').1;simp only[Option.map_some,Option.getD_some,Array.getD_eq_getD_getElem?];rw[U9 (by simp;omega),Array.getElem?_append_right (by simp)];simp only[List.size_toArray,List.length_cons,List.length_nil,Nat.zero_add,Nat.add_sub_cancel,g1',Option.getD_some];exact g2
 ·exact⟨fun m b e=>(by cases e),fun m n k e=>absurd rfl e,hK.hi _ _ _ _ h0,fun m k e=>absurd rfl e,rfl,rfl,.refl _,Iv _,fun _ _ _=>rfl,fun m k e=>absurd rfl e,Hle.refl _,fun k e=>Or.inl e,hgl,fun _ _=>rfl,fun m b j e=>(by cases e)⟩
 rintro e a' w' ⟨he,kf,h',G',hk,hj,hd⟩;have hr:∀ W',(results fn a'.tmps).run P W'=.ok (.tuple #[]) W':=fun W'=>by rw[eY,hres];simp
 have fin:LeavesInM (Wd none) 0 P fn a'.tmps (fun e W'=>(∃ v,e=.returned v)∧∃ kf h' G',xs.length<=kf∧J kf h' G' W') a'.defers .returning w':=by
  rcases hd with hd|⟨D,hd,d1,d2,d3,d4⟩
  ·rw[hd];exact⟨_,hr _,⟨_,rfl⟩,kf,h',G',hk,hj⟩
  rw[hd];refine⟨by simp,.inl ⟨D,_,rfl,run_takeDeferred d1,?_⟩⟩;exact⟨_,hr _,⟨_,rfl⟩,kf,h',G',hk,hK.rest _ _ _ _ _ _ hj (vN (hK.hi _ _ _ _ hj) d2 d3 d4)⟩
 rcases he with rfl|rfl <;> exact fin
structure CallG(P:Program)(f:FuncId)(args:List AV)(gf:FuncId)(b:Blk):Prop where
 fn:lS P f
 go:∀ (h:Hp) (r:Nat->Value) (w:World) (cargs:Array Value),RepArgs h r args cargs.toList->Before h r O w ->
  Calls P f cargs w fun e w'=>∃ v h' k0,e=.returned (.func (.func gf) #[] #[.pointer (some ⟨k0,0,none⟩)])∧v=.pointer (some ⟨k0,0,none⟩)∧BlkRep h' w' v b∧(∀ k,aD v=some k->w.heap.size<=k∧h' k=none)∧After h r O w h' O w'
theorem Eff.callG{P:Program}{dst:Option Nat}{f:FuncId}{args:Array Operand}{tys:Array TypeId}{ty:TypeId}{pos:String}{af:Array Edge}{gd:Option (Nat×Bool)}{d:Nat}{ρ:Operand->AV}{own:Own}{gf:FuncId}{b:Blk}(hc:CallG P f (args.toList.map ρ) gf b)(hl0:lnk b=[]:=by rfl):Eff P ⟨dst,.call ⟨.value (.func f),args,tys⟩,ty,pos,af,gd⟩ d ρ own (.fnl gf d) [] (some b) []:=by
 intro C h r own' a w K Q hrep hrd hw hnew hK;unfold Oper.wp;have hrun:(execOp a.eval ⟨dst,.call ⟨.value (.func f),args,tys⟩,ty,pos,af,gd⟩).run P w=.ok (.enter f (args.map a.eval)) w:=by
  simp only[execOp,resolve,Sem.run_bind,Act.eval,Deferred.ofValue,Sem.run_pure,Result.andThen_ok,invoke,Array.empty_append,Array.append_empty];exact bU hc.fn _ w
 rw[hrun];refine Calls.mono (hc.go h r w (args.map a.eval) ?_ (hw.before fun m hm=>absurd rfl hm)) ?_
 ·rw[VU];exact cX _ fun x hx=>hrep x (by simp only[Op.operands,Call.operands];exact Wa.2 (.inr (VN.1 hx)))
 rintro e w' ⟨v,h',k0,rfl,hv0,hv,hfr,hq⟩;obtain⟨hd,hp,hnl⟩:=hnew (by simp);have hw':WOK C h' r own' w':=hw.after (fun m hm=>absurd rfl hm) hq (fun m=>by simp) (fun m b hm=>absurd rfl hm);refine hK _ h' (upd r d v) w' hq.hg (fun m hm=>aj _ _ _ _ (hm (by simp))) ⟨k0,by rw[upd_same,hv0];rfl,rfl⟩ ?_;show WOK C h' (upd r d v) (upd own' d (some b)) w';have live:∀ m,m≠d->upd own' d (some b) m≠none->own' m≠none:=fun m h1 hm=>by rwa [aj _ _ _ _ h1]at hm
 have below:∀ m k,own' m≠none->aD (r m)=some k->k<w.heap.size:=fun m k hm hk=>hw.lt hm hk
 refine⟨?_,?_,hw'.hi,?_,hw'.os,hw'.tape,hw'.output,hw'.size,hw'.old,?_,hw'.hg,hw'.hn,hw'.gl,?_,?_⟩
 ·intro m b' e;by_cases h1:m=d
  ·subst h1;rw[upd_same]at e ⊢;cases e;exact hv
  rw[aj _ _ _ _ h1]at e ⊢;exact hw'.ow m b' e
 ·intro m n k hm hn e f';by_cases h1:m=d <;> by_cases h2:n=d
  ·rw[h1,h2]
  ·subst h1;rw[upd_same]at e;rw[aj _ _ _ _ h2]at f';have:=below n k (live n h2 hn) f';have:=(hfr k e).1;omega
  ·subst h2;rw[upd_same]at f';rw[aj _ _ _ _ h1]at e;have:=below m k (live m h1 hm) e;have:=(hfr k f').1;omega
  rw[aj _ _ _ _ h1]at e;rw[aj _ _ _ _ h2]at f';exact hw'.inj m n k (live m h1 hm) (live n h2 hn) e f'
 ·intro m k hm e;by_cases h1:m=d
  ·subst h1;rw[upd_same]at e;exact(hfr k e).2
  rw[aj _ _ _ _ h1]at e;exact hw'.ho m k (live m h1 hm) e
 ·intro m k hm e;by_cases h1:m=d
  ·subst h1;rw[upd_same]at e;exact .inl (UA hw.size (hfr k e).1)
  rw[aj _ _ _ _ h1]at e;exact hw'.fo m k (live m h1 hm) e
 ·intro m hm;rw[aj _ _ _ _ (by omega)];exact hw'.kp m hm
 intro m b' j e hj;by_cases h1:m=d
 ·subst h1;rw[upd_same]at e;cases e;rw[hl0]at hj;cases hj
 rw[aj _ _ _ _ h1]at e;have hjd:j≠d:=fun x=>hnl m b' e (x▸hj)
 rw[aj _ _ _ _ h1,aj _ _ _ _ hjd];exact hw'.lk m b' j e hj
def SQ(fn:Func)(gf:FuncId)(b:Blk)(e:Exit)(s:St):Prop:=(e=.normal∨e=.ret)∧∃ t m,fn.results=#[.tmp t]∧s.regs t=.fnl gf m∧s.own m=some b
theorem GV{P:Program}{f:FuncId}{fn:Func}{c:Code}{N:Nat}{args:List AV}{gf:FuncId}{b:Blk}(hf:P.funcs[f]?=some fn)(hnm:(fn.name == "runtime.NumGoroutine")=false)(hb:fn.body=some c)(hN:fn.ntmps=N)(hna:args.length<=N)(h:AWp P false N 0 c (SQ fn gf b) ⟨fun t=>args.getD t .junk,O⟩)(hbv:b.vec=false:=by rfl):CallG P f args gf b:=by
 refine⟨⟨fn,hf,hnm,by rw[hb];rfl⟩,?_⟩;intro hh r w cargs hra hbf;have hlen:cargs.size=args.length:=by
  have:∀ (as0:List AV) (xs:List Value),RepArgs hh r as0 xs->xs.length=as0.length:=by
   intro as0;induction as0 with
   |nil=>intro xs h;cases xs with
    |nil=>rfl
    |cons _ _=>exact h.elim
   |cons p ps ih=>intro xs h;cases xs with
    |nil=>exact h.elim
    |cons x xs=>simp[ih xs h.2]
  simpa using this _ _ hra
 have hget:∀ (as0:List AV) (xs:List Value),RepArgs hh r as0 xs->∀ (t:Nat) (x:AV),as0[t]?=some x->∃ y,xs[t]?=some y∧AVRep hh r x y:=by
  intro as0;induction as0 with
  |nil=>intro xs _ t x h;simp at h
  |cons p ps ih=>intro xs h t x hx;cases xs with
   |nil=>exact h.elim
   |cons y ys=>cases t with
    |zero=>simp at hx;subst hx;exact⟨y,rfl,h.1⟩
    |succ t=>exact ih ys h.2 t x (by simpa using hx)
 refine mZ (n:=0) (callsIn_of_wp_marks hf hb trivial ?_)
 let C:Ctx:=⟨w,hh,fun _=>False,r,0,true⟩
 refine wpIn_mono (h none (fun _=>rfl) C hh r _ w ⟨rfl,rfl⟩ ⟨?_,trivial,?_,⟨hbf.ow,hbf.inj,hbf.hi,hbf.ho,rfl,rfl,.refl _,Iv _,fun _ _ _=>rfl,fun m k hm=>absurd rfl hm,.refl _,fun k hk=>.inl hk,hbf.gl,fun _ _=>rfl,fun m b j hb=>by cases hb⟩⟩) ?_
 ·simp[hN];omega
 ·intro t;show AVRep hh r (args.getD t .junk) _;rw[As];cases ht:args[t]? with
  |none=>exact trivial
  |some x =>
   obtain⟨y,h1,h2⟩:=hget _ _ hra t x ht;have h1':cargs[t]?=some y:=by rw[<- UJ];exact h1
   have hlt:t<cargs.size:=(K0.1 h1').1;simp only[Array.getD_eq_getD_getElem?,Array.getElem?_append_left hlt,h1',Option.getD_some];exact h2
 rintro e a' w' ⟨s',h',r',⟨he,t,m,hres,hreg,hown⟩,hc⟩;have fin:LeavesInM (Wd none) 0 P fn a'.tmps (fun e w'=>∃ v h' k0,e=.returned (.func (.func gf) #[] #[.pointer (some ⟨k0,0,none⟩)])∧v=.pointer (some ⟨k0,0,none⟩)∧BlkRep h' w' v b∧(∀ k,aD v=some k->w.heap.size<=k∧h' k=none)∧After hh r O w h' O w') a'.defers .returning w':=by
  refine iM hc ?_;intro h' w' hc;have hx:=hc.rg t;rw[hreg]at hx;obtain⟨k0,hk0,hx⟩:=hx;have hv1:(results fn a'.tmps).run P w'=.ok (.func (.func gf) #[] #[.pointer (some ⟨k0,0,none⟩)]) w':=by
   rw[eY,hres];have hx':a'.tmps.getD t undef=.func (.func gf) #[] #[.pointer (some ⟨k0,0,none⟩)]:=hx;simp[iG,hx']
  have hk:=hc.wk;have hlow:s'.own m≠none:=by rw[hown];simp
  have hrm:r' m=.pointer (some ⟨k0,0,none⟩):=by
   have hb:=hk.ow m b hown;unfold BlkRep at hb;rw[hbv]at hb;obtain⟨k,c,h1,_⟩:=hb;rw[h1]at hk0 ⊢;have:k=k0:=by simpa[aD]using hk0
   rw[this]
  refine⟨_,hv1,r' m,h',k0,rfl,hrm,hk.ow m b hown,fun k e=>⟨?_,hk.ho m k hlow e⟩,?_⟩
  ·rcases hk.fo m k hlow e with g|g
   ·exact g
   exact g.elim
  refine⟨fun m b e=>(by cases e),fun m hm=>absurd rfl hm,hk.hi,fun m k hm=>absurd rfl hm,hk.os,hk.tape,hk.output,hk.size,fun k h1 _=>hk.old k h1 (fun x=>x),hk.hg,fun k e=>?_⟩;rcases hk.hn k e with g|g|g
  ·exact .inl g
  ·exact .inr (.inl g)
  exact g.elim
 rcases he with rfl|rfl <;> exact fin
section
variable {P:Program}{dst:Option Nat}{ty:TypeId}{pos:String}{af:Array Edge}{gd:Option (Nat×Bool)}{d:Nat}{ρ:Operand->AV}{own:Own}
theorem wj{f:FuncId}{c:Operand}{m:Nat}(hx:ρ c=.loc m 0):Eff P ⟨dst,.makeFunc (.func f) #[] #[c],ty,pos,af,gd⟩ d ρ own (.fnl f m) [] none [] :=
 aP fun C h r own' a w hrep hrd hw=>by
  have e1:=hrep c (by simp[Op.operands]);rw[hx]at e1;obtain⟨k,h1,h2⟩:=e1;refine⟨.func (.func f) #[] #[a.eval c],?_,k,h1.1,by rw[h2]⟩;simp[execOp,Instr.makeFunc]
end
structure Iter3(P:Program)(gf:FuncId)(b0:Blk)(xs:List (List PV)):Prop where
 fn:lS P gf
 go:∀ (l k0:Nat) (J:Nat->Hp->(Nat->Prop)->World->Prop) (h:Hp) (G:Nat->Prop) (W:World) (n0:Nat),n0<=W.heap.size->n0<=k0->¬ G k0->h k0=none->BlkRep h W (.pointer (some ⟨k0,0,none⟩)) b0->GlOK h->Keeps2 P l xs n0 J->J 0 h G W ->
  CallsIn (Wd none) 0 P gf #[.func (.yield l) #[] #[],.pointer (some ⟨k0,0,none⟩)] W fun e W'=>(∃ v,e=.returned v)∧∃ kf h' G',xs.length<=kf∧J kf h' G' W'
theorem WOK.rest3{C:Ctx}{h h':Hp}{r:Nat->Value}{own:Own}{w w':World}(k:WOK C h r own w){n0:Nat}{G:Nat->Prop}(q:Rest n0 G h w h' w')(hG:∀ m i,own m≠none->aD (r m)=some i->G i)(hb:∀ i,h i=none->¬ G i->C.w0.heap.size<=i∨C.F i):WOK C h' r own w':=by
 have same:∀ m i,own m≠none->aD (r m)=some i->w'.heap[i]?=w.heap[i]?:=fun m i hm e=>by
  rcases q.old i (k.lt hm e)with g|⟨_,g,_⟩
  ·exact g
  exact absurd (hG m i hm e) g
 refine⟨fun m b e=>((k.ow m b e).mono q.hg).world fun i hi=>same m i (by rw[e];simp) hi,k.inj,q.hi,fun m i hm e=>?_,q.os.trans k.os,q.tape.trans k.tape,q.output.trans k.output,UA k.size q.size,fun i hi hf=>?_,k.fo,k.hg.trans q.hg,fun i hi=>?_,k.gl.mono q.hg,k.kp,fun m b j e hj=>?_⟩
 ·cases hh:h' i with
  |none=>rfl
  |some o =>
   rcases q.hn i (by rw[hh];simp)with g|g
   ·exact absurd (k.ho m i hm e) g
   exact absurd (hG m i hm e) g.2
 ·rcases q.old i (Vf hi k.size)with g|⟨_,g1,g2⟩
  ·rw[g];exact k.old i hi hf
  rcases hb i g2 g1 with x|x
  ·omega
  exact absurd x hf
 ·rcases q.hn i hi with g|g
  ·exact k.hn i g
  by_cases x:h i=none
  ·exact .inr (hb i x g.2)
  exact k.hn i x
 obtain⟨q1,t,h1,h2⟩:=k.lk m b j e hj;exact⟨q1,t,h1,by rw[same m q1 (by rw[e];simp) (by rw[h1];rfl)];exact h2⟩
theorem F8{P:Program}{f:FuncId}{fn:Func}{c:Code}{N:Nat}{b0:Blk}{xs:List (List PV)}(hf:P.funcs[f]?=some fn)(hnm:(fn.name == "runtime.NumGoroutine")=false)(hb:fn.body=some c)(hN:fn.ntmps=N)(hna:2<=N)(hres:fn.results=#[])(hlk:lnk b0=[])(h:∀ l n0 J,Keeps2 P l xs n0 J->AE P xs n0 J N 2 c 0 ⟨fun t=>([.p (.c (.v (.func (.yield l) #[] #[]))),.loc 1 0]:List AV).getD t .junk,upd O 1 (some b0)⟩):Iter3 P f b0 xs:=by
 refine⟨⟨fn,hf,hnm,by rw[hb];rfl⟩,?_⟩;intro l k0 J hh G W n0 hn0 hk0 hG hhk hbr hgl hK h0;refine callsIn_of_wp_marks hf hb trivial ?_;have gG:∀ m,(upd O 1 (some b0)) m≠none->m=1:=fun m hm=>by
  by_cases e:m=1
  ·exact e
  rw[aj _ _ _ _ e]at hm;exact absurd rfl hm
 refine wpIn_mono (h l n0 J hK ⟨fun _=>.pointer (some ⟨k0,0,none⟩),hh,W,fun i=>G i∨i=k0⟩ hh (fun _=>.pointer (some ⟨k0,0,none⟩)) _ W G ⟨?_,rfl,?_,(⟨W,hh,fun i=>i=k0,fun _=>.pointer (some ⟨k0,0,none⟩),2,false⟩:Ctx),?_,h0,hn0,fun i e=>?_,rfl,rfl,fun _ _=>rfl,⟨rfl,rfl,.refl _,Iv _,fun _ _ _=>rfl,.refl _,fun _ e=>.inl e,fun _ e=>.inl e⟩⟩) ?_
 ·simp[hN];omega
 ·intro t;show AVRep hh _ (([.p (.c (.v (.func (.yield l) #[] #[]))),.loc 1 0]:List AV).getD t .junk) _
  match t with
  |0 =>
   show AVRep hh _ (.p (.c (.v (.func (.yield l) #[] #[])))) (Array.getD _ 0 undef);have e0:(#[.func (.yield l) #[] #[],.pointer (some ⟨k0,0,none⟩)]++Array.replicate (fn.ntmps-(#[.func (.yield l) #[] #[],.pointer (some ⟨k0,0,none⟩)]:Array Value).size) undef:Array Value).getD 0 undef=.func (.yield l) #[] #[]:=by
    rw[VP,U9 (by simp)];rfl
   rw[e0];simp only[AVRep,PRep,DRep,true_and];rfl
  |1 =>
   show AVRep hh _ (.loc 1 0) (Array.getD _ 1 undef);have e0:(#[.func (.yield l) #[] #[],.pointer (some ⟨k0,0,none⟩)]++Array.replicate (fn.ntmps-(#[.func (.yield l) #[] #[],.pointer (some ⟨k0,0,none⟩)]:Array Value).size) undef:Array Value).getD 1 undef=.pointer (some ⟨k0,0,none⟩):=by
    rw[VP,U9 (by simp)];rfl
   rw[e0];exact⟨k0,⟨rfl,rfl⟩,rfl⟩
  |t+2=>exact trivial
 ·show WOK _ hh _ (upd O 1 (some b0)) W;refine⟨fun m b e=>?_,fun m n k hm hn _ _=>(gG m hm).trans (gG n hn).symm,hK.hi _ _ _ _ h0,fun m k hm e=>?_,rfl,rfl,.refl _,Iv _,fun _ _ _=>rfl,fun m k hm e=>.inr ?_,Hle.refl _,fun k e=>Or.inl e,hgl,fun _ _=>rfl,fun m b j e hj=>?_⟩
  ·have:m=1:=gG m (by rw[e];simp);subst this;rw[upd_same]at e;cases e;exact hbr
  ·have:k=k0:=by simpa[aD]using e.symm
   rw[this];exact hhk
  ·simpa[aD]using e.symm
  have:m=1:=gG m (by rw[e];simp);subst this;rw[upd_same]at e;cases e;rw[hlk]at hj;cases hj
 ·have e:i=k0:=e;subst e;exact⟨hk0,hG,hhk⟩
 rintro e a' w' ⟨he,kf,h',G',hk,hj,hd⟩;have hr:∀ W',(results fn a'.tmps).run P W'=.ok (.tuple #[]) W':=fun W'=>by rw[eY,hres];simp
 have fin:LeavesInM (Wd none) 0 P fn a'.tmps (fun e W'=>(∃ v,e=.returned v)∧∃ kf h' G',xs.length<=kf∧J kf h' G' W') a'.defers .returning w':=by
  rcases hd with hd|⟨D,hd,d1,d2,d3,d4⟩
  ·rw[hd];exact⟨_,hr _,⟨_,rfl⟩,kf,h',G',hk,hj⟩
  rw[hd];refine⟨by simp,.inl ⟨D,_,rfl,run_takeDeferred d1,?_⟩⟩;exact⟨_,hr _,⟨_,rfl⟩,kf,h',G',hk,hK.rest _ _ _ _ _ _ hj (vN (hK.hi _ _ _ _ hj) d2 d3 d4)⟩
 rcases he with rfl|rfl <;> exact fin
def AL(P:Program)(N np:Nat)(c:Code)(Q:Exit->St->Prop)(s:St):Prop :=
 ∀ (L:Nat) (rc:Loop) (C:Ctx) (h:Hp) (r:Nat->Value) (a:Act) (w:World),C.np=np∧C.mar=false->C.w0.heap[L]?=some (.loop rc)->¬ C.F L->Conc C N h r s a w ->
  c.wpIn (Wd (some L)) 0 P (fun e a' w'=>∃ s' h' r',Q e s'∧Conc C N h' r' s' a' w') a w
section
variable {P:Program}{N np:Nat}{Q:Exit->St->Prop}{s:St}
theorem Ml{c:Code}(h:AWp P true N np c Q s):AL P N np c Q s:=fun L _ C hh r a w hn _ _ hc=>h (some L) (fun e=>by cases e) C hh r a w hn hc
theorem Qj{x y:Code}(h:AL P N np x (kn (AL P N np y Q) Q) s):AL P N np (.seq x y) Q s:=by
 intro L rc C hh r a w hn h1 h2 hc;refine wpIn_seq (wpIn_mono (h L rc C hh r a w hn h1 h2 hc) ?_);rintro e a' w' ⟨s',h',r',q,k⟩;cases e with
 |normal=>exact q L rc C h' r' a' w' hn h1 h2 k
 |_=>exact⟨s',h',r',q,k⟩
theorem D9(hP:P.follows .mixedOrders=true){id:Nat}{ops:Array Oper}{draw:Bool}(h:RK P N np ops draw ops.toList (bt (dA ops.toList) s) [] (Q .normal)):AL P N np (.region id ops draw) Q s:=Ml (bp hP h)
theorem SU{t:St}{c:Code}(q:Le s t)(h:AL P N np c Q t):AL P N np c Q s:=fun L rc C hh r a w hn h1 h2 hc=>h L rc C hh r a w hn h1 h2 (q.conc hc)
theorem x6{id:Nat}{c:Code}(h:AL P N np c (AIn id Q) s):AL P N np (.block id c) Q s:=by
 intro L rc C hh r a w hn h1 h2 hc;refine wpIn_block (wpIn_mono (h L rc C hh r a w hn h1 h2 hc) ?_);rintro e a' w' ⟨s',h',r',q,k⟩;cases e with
 |exit id' =>
  simp only[Exit.inBlock];simp only[AIn]at q;by_cases hid:id'=id
  ·subst hid;rw[H2 rfl];have:Nat.beq id' id'=true:=by simp
   rw[this]at q;exact⟨s',h',r',q,k⟩
  rw[G2 hid];have:Nat.beq id' id=false:=by
   cases e:Nat.beq id' id with
   |false=>rfl
   |true=>exact absurd (UT e) hid
  rw[this]at q;exact⟨s',h',r',q,k⟩
 |_=>exact⟨s',h',r',q,k⟩
end
theorem Ea{P:Program}{N np:Nat}{Q:Exit->St->Prop}{l:List (Nat×AV)}{g:Operand}{ps:Array Tmp}{assign body:Code}{gf:FuncId}{caps:List (List DV)}{xs:List (List PV)}(np':Nat)(own:Nat->Own)(I:Nat->Prop)(hg:ev (a7 l) g=.fn gf caps)(hit:Iter2 P gf caps xs)(hps:∀ x∈xs,x.length=ps.toList.length)(hfix:ta np' l=true)(hnp:Nat.ble np np'=true)(hpN:(ps.toList.all fun p=>Nat.blt p N)=true)(hI:I 0)(hround:∀ (k:Nat) (x:List PV),xs[k]?=some x->I k->AWp P true N np' assign (kn (AWp P true N np' body (xY np' Q l (own (k+1)) (I (k+1)))) (fun _ _=>False)) ⟨nl (a7 l) ps.toList x,own k⟩)(hdone:I xs.length->Q .normal ⟨a7 l,own xs.length⟩):AL P N np (.rangeFunc g ps assign body) Q ⟨a7 l,own 0⟩:=by
 intro L0 rc C hh r a w hn hrc hFL hc;have hnp':=bL0 hnp;refine wpIn_rangeFunc ?_;intro fn _;have hgv:=eL hc.rg g;rw[hg]at hgv;obtain⟨lb,hval,hcaps⟩:=hgv;obtain⟨rec,hrec⟩:∃ rec:LoopState->Option Code->Loop,rec=fun st pe=>{ state:=st,pending:=pe,fn,tmps:=a.tmps,params:=ps,assign,body,defers:=rc.defers }:=⟨_,rfl⟩
 have hL0:w.heap[L0]?=some (.loop rc):=by
  rw[hc.wk.old L0 (K0.1 hrc).1 hFL];exact hrc
 obtain⟨W1,hW1⟩:∃ W1,w.alloc (.loop (rec .ready none))=W1:=⟨_,rfl⟩
 have hs1:W1.heap.size=w.heap.size+1:=by rw[<- hW1];simp
 have hold1:∀ i,i<w.heap.size->W1.heap[i]?=w.heap[i]?:=fun i hi=>by
  rw[<- hW1,heap_alloc,G2 (by omega)]
 have hw2:WOK C hh r (own 0) W1:=hc.wk.beside (by rw[<- hW1];rfl) (by rw[<- hW1];rfl) (by rw[<- hW1];exact⟨rfl,trivial⟩) (by rw[hs1];simp) hold1;have hL1:W1.heap[w.heap.size]?=some (.loop (rec .ready none)):=by
  rw[<- hW1,heap_alloc,H2 rfl]
 have hhL:hh w.heap.size=none:=by
  cases e:hh w.heap.size with
  |none=>rfl
  |some o=>have:=hc.wk.hlt e;omega
 have hnoL:∀ m,own 0 m≠none->aD (r m)≠some w.heap.size:=fun m hm e=>by
  have:=hc.wk.lt hm e;omega
 generalize hLL:w.heap.size=L at *;have hCL:C.w0.heap.size<=L:=by have:=hc.wk.size;omega
 refine⟨L,[],W1,{ target:=.fn (.func gf) lb,args:=#[.func (.yield L) #[] #[]] },W1,gf,#[.func (.yield L) #[] #[]]++lb,W1,?_,?_,fun _ _=>trivial,?_,fun e=>by simp[Wd]at e,?_⟩
 ·rw[<- hW1,hrec,<- hLL];exact run_enterLoop_inner hL0 _ _ _ _ _
 ·simp only[resolve,hval];simp[go_sem]
 ·have eg:∀ args w,(callFunc gf args).run P w=.ok (.enter gf args) w:=fun args w=>bU hit.fn args w
  simp[invoke,go_sem,eg]
 have hmen:=lD hfix;obtain⟨J,hJ⟩:∃ J:Nat->Hp->(Nat->Prop)->World->Prop,J=fun k h G W=>∃ r' o st pe,(∀ m,m<np'->r' m=r m)∧WOK C h r' o W∧W.heap[L]?=some (.loop (rec st pe))∧h L=none∧(∀ m,o m≠none->aD (r' m)≠some L)∧Hle hh h ∧
   (G=fun i=>i=L∨∃ m,o m≠none∧aD (r' m)=some i)∧tF xs.length own I Q l k o st pe:=⟨_,rfl⟩
 have hrg:∀ h r',Hle hh h->(∀ m,m<np'->r' m=r m)->RegsOK h r' (a7 l) a:=fun h r' hl hr t =>
  AVRep.rebind _ _ (fun m hm=>hr m (hmen t m hm)) (AVRep.mono hl _ _ (hc.rg t))
 refine CallsIn.mono (hit.go L lb J hh (fun i=>i=L∨∃ m,own 0 m≠none∧aD (r m)=some i) W1 C.w0.heap.size hw2.size hcaps hw2.gl ⟨⟨?_,?_,?_⟩,?_⟩ ?_) ?_
 ·intro k h G W hk;rw[hJ]at hk;obtain⟨r',o,st,pe,_,q,_⟩:=hk;exact q.hi
 ·intro k h G W hk i hi;rw[hJ]at hk;obtain⟨r',o,st,pe,e1,e2,e3,e4,e5,e6,rfl,e8⟩:=hk;rcases hi with rfl|⟨m,hm,e⟩
  ·exact⟨(K0.1 e3).1,e4⟩
  exact⟨e2.lt hm e,e2.ho m i hm e⟩
 ·intro k h G W h' W' hk q;rw[hJ]at hk ⊢;obtain⟨r',o,st,pe,e1,e2,e3,e4,e5,e6,rfl,e8⟩:=hk;have hlt:L<W.heap.size:=(K0.1 e3).1;refine⟨r',o,st,pe,e1,e2.rest q (fun m i hm e=>.inr ⟨m,hm,e⟩) (Iv _),?_,?_,e5,e6.trans q.hg,rfl,e8⟩
  ·rcases q.old L hlt with g|⟨_,g,_⟩
   ·rw[g];exact e3
   exact absurd (.inl rfl) g
  cases e:h' L with
  |none=>rfl
  |some o' =>
   rcases q.hn L (by rw[e];simp)with g|g
   ·exact absurd e4 g
   exact absurd (.inl rfl) g.2
 ·intro k h G W x vals hx hk hv;rw[hJ]at hk;obtain⟨r',o,st,pe,e1,e2,e3,e4,e5,e6,rfl,e8⟩:=hk;have hkl:k<xs.length:=(Uu.1 hx).1;obtain⟨_,rfl,rfl,rfl,hIk⟩:k<=xs.length∧o=own k∧st=.ready∧pe=none∧I k:=by
   rcases e8 with e8|e8
   ·exact e8
   omega
  have hlen:x.length=ps.toList.length:=hps x (U8 hx);have hvl:vals.length=x.length:=lX _ _ hv;have hsz:vals.toArray.size=(rec .ready none).params.size:=by
   rw[hrec];show vals.length=ps.size;rw[hvl,hlen];simp
  refine⟨_,_,_,_,run_yield e3 hsz,roundIn_of_wpIn trivial ?_⟩;rw[hrec];show assign.wpIn (Wd (some L)) 0 P _ { tmps:=(ps.zip vals.toArray).foldl (fun t (p,v)=>t.setIfInBounds p v) a.tmps,defers:=[] } W;have hzip:(ps.zip vals.toArray).foldl (fun t (p,v)=>t.setIfInBounds p v) a.tmps=(ps.toList.zip vals).foldl (fun t (p,v)=>t.setIfInBounds p v) a.tmps:=by
   rw[<- Xe,XX]
  rw[hzip];obtain⟨f1,f2⟩:=gj (r:=r') ps.toList x vals (a7 l) a.tmps hv hlen (fun p hp=>by
   have:=Uo.1 hpN p hp;rw[hc.sz];simpa using this) (fun t=>hrg h r' e6 e1 t)
  refine wpIn_mono (hround k x hx hIk (some L) (fun e=>by cases e) (Ctx.round h r' (own k) W np') h r' _ W ⟨rfl,rfl⟩ ⟨f2.trans hc.sz,trivial,f1,e2.enter⟩) ?_;rintro e a1 w1 ⟨s1,h2,r2,q1,c1⟩;cases e with
  |normal =>
   have hwk1:=e2.leave c1.wk (UA (V1 hn.1) hnp');obtain⟨g1,g2,g3⟩:=WOK.rec_left e5 c1.wk e3 e4;have hd1:a1.defers=[]:=by
    have:=c1.df;cases hd:a1.defers with
    |nil=>rfl
    |cons d ds=>rw[hd]at this;cases this.1
   have hw3:=hwk1.putL (o:=.loop { rec .ready none with state:=.busy }) g3 g2 hCL;have hLw:L<w1.heap.size:=(K0.1 g1).1;have hLb:(w1.putObj L (.loop { rec .ready none with state:=.busy })).heap[L]?=some (.loop { rec .ready none with state:=.busy }):=World.putObj_heap_same hLw;refine⟨_,run_beginRound g1 (by rw[hrec]),?_⟩;refine wpIn_mono (q1 (some L) (fun e=>by cases e) (Ctx.round h2 r2 s1.own _ np') h2 r2 a1 _ ⟨rfl,rfl⟩ ⟨c1.sz,by rw[hd1];trivial,c1.rg,hw3.enter⟩) ?_;rintro e a2 w2 ⟨s2,h3,r3,q2,c2⟩;have fin:∀ (jump:Option Code) (o2:Own),GW np' s2.own o2->tF xs.length own I Q l (nx xs.length k jump.isNone) o2 (if jump.isNone then .ready else .done) jump->∃ v w',(Instr.endRound L jump).run P w2=.ok v w'∧∃ b,Ending.returned v=.returned (.bool b)∧∃ h' G',J (nx xs.length k b) h' G' w'∧Gave (fun i=>i=L∨∃ m,own k m≠none∧aD (r' m)=some i) h W G' h' w':=by
    intro jump o2 q2 hleft;have hwk2:=hw3.leave c2.wk (UA (V1 hn.1) hnp');obtain⟨k1,k2,k3⟩:=WOK.rec_left g3 c2.wk hLb g2;obtain⟨r4,q3,hwk3,q4⟩:=q2 C h3 r3 w2 (UA (V1 hn.1) hnp') hwk2;have k3':∀ m,o2 m≠none->aD (r4 m)≠some L:=fun m hm e=>by
     obtain⟨m2,g1,g2⟩:=q4 m L hm e;exact k3 m2 g1 g2
    have F2:∀ i,(Ctx.round h2 r2 s1.own (w1.putObj L (.loop { rec .ready none with state:=.busy })) np').F i->W.heap.size<=i∨∃ m,own k m≠none∧aD (r' m)=some i:=by
     rintro i ⟨m,hm,e⟩;exact c1.wk.fo m i hm e
    have sz1:W.heap.size<=w1.heap.size:=c1.wk.size;have sz2:w1.heap.size<=w2.heap.size:=by have:(w1.putObj L _).heap.size<=w2.heap.size:=c2.wk.size;rwa [bb]at this
    refine⟨_,_,run_endRound jump k1,_,rfl,h3,fun i=>i=L∨∃ m,o2 m≠none∧aD (r4 m)=some i,?_,?_⟩
    ·rw[hJ];refine⟨r4,o2,if jump.isNone then .ready else .done,jump,fun m hm=>?_,hwk3.putL k3' k2 hCL,?_,k2,k3',e6.trans (c1.wk.hg.trans c2.wk.hg),rfl,hleft⟩
     ·rw[q3 m hm,c2.wk.kp m hm];show r2 m=r m;rw[c1.wk.kp m hm];exact e1 m hm
     rw[World.putObj_heap_same (K0.1 k1).1,hrec]
    refine⟨c2.wk.os.trans c1.wk.os,c2.wk.tape.trans c1.wk.tape,c2.wk.output.trans c1.wk.output,by rw[bb];omega,fun i hi hg=>?_,c1.wk.hg.trans c2.wk.hg,fun i hi=>?_,fun i hi=>?_⟩
    ·have hiL:i≠L:=fun x=>hg (.inl x)
     rw[bO hiL,c2.wk.old i (by rw[show(Ctx.round h2 r2 s1.own (w1.putObj L (.loop { rec .ready none with state:=.busy })) np').w0.heap.size=w1.heap.size from bb _ _ _];omega) (fun x=>by
      rcases F2 i x with g|g
      ·omega
      exact hg (.inr g))]
     show(w1.putObj L _).heap[i]?=_;rw[bO hiL];exact c1.wk.old i hi (fun x=>hg (.inr x))
    ·rcases c2.wk.hn i hi with g|g|g
     ·rcases c1.wk.hn i g with g|g|g
      ·exact .inl g
      ·exact .inr (.inl g)
      exact .inr (.inr (.inr g))
     ·have g':(w1.putObj L (.loop { rec .ready none with state:=.busy })).heap.size<=i:=g;rw[bb]at g';exact .inr (.inl (by omega))
     rcases F2 i g with g|g
     ·exact .inr (.inl g)
     exact .inr (.inr (.inr g))
    rcases hi with rfl|⟨m,hm,e⟩
    ·exact .inl (.inl rfl)
    obtain⟨m2,g1,g2⟩:=q4 m i hm e;rcases c2.wk.fo m2 i g1 g2 with g|g
    ·have g':(w1.putObj L (.loop { rec .ready none with state:=.busy })).heap.size<=i:=g;rw[bb]at g';exact .inr (by omega)
    rcases F2 i g with g|g
    ·exact .inr g
    exact .inl (.inr g)
   cases e with
   |normal=>exact fin none _ q2.1 (.inl ⟨hkl,rfl,rfl,rfl,q2.2⟩)
   |ret =>
    obtain⟨o2,g1,g2⟩:=q2;exact fin (some .ret) o2 g1 (.inr ⟨(by show xs.length<xs.length+1+k;omega),rfl,.inl ⟨rfl,g2⟩⟩)
   |exit id =>
    obtain⟨o2,g1,g2⟩:=q2;exact fin (some (.exit id)) o2 g1 (.inr ⟨(by show xs.length<xs.length+1+k;omega),rfl,.inr ⟨id,rfl,g2⟩⟩)
   |_=>exact q2.elim
  |_=>exact q1.elim
 ·rw[hJ];exact⟨r,own 0,.ready,none,fun _ _=>rfl,hw2,hL1,hhL,hnoL,.refl _,rfl,.inl ⟨Uv _,rfl,rfl,rfl,hI⟩⟩
 rintro e W3 ⟨⟨v,rfl⟩,kf,h',G',hkf,hk⟩;rw[hJ]at hk;obtain⟨r',o,st,pe,e1,e2,e3,e4,e5,e6,_,e8⟩:=hk;have fin:∀ (ob:Obj) (q:Exit),Q q ⟨a7 l,o⟩->∃ s' h' r',Q q s'∧Conc C N h' r' s' { a with defers:=[]++a.defers } (W3.putObj L ob):=fun ob q hq=>by
  refine⟨⟨a7 l,o⟩,h',r',hq,hc.sz,?_,fun t=>hrg h' r' e6 e1 t,e2.putL e5 e4 hCL⟩;exact hc.df.mono e6
 have hbusy:(rec st pe).state≠.busy:=by
  rw[hrec];rcases e8 with⟨_,_,h3,_⟩|⟨_,h3,_⟩ <;> (show st≠_;rw[h3];simp)
 have hpe:(rec st pe).pending=pe:=by rw[hrec]
 refine⟨pe,_,by have:=run_endLoop (P:=P) e3 hbusy;rw[hpe]at this;exact this,?_⟩;rcases e8 with⟨h1,rfl,_,rfl,hIk⟩|⟨_,_,⟨rfl,h4⟩|⟨id,rfl,h4⟩⟩
 ·have:kf=xs.length:=by omega
  subst this;exact fin _ .normal (hdone hIk)
 ·exact wpIn_ret (fin _ .ret h4)
 exact wpIn_exit (fin _ (.exit id) h4)
theorem AWp_range2L{P:Program}{N np:Nat}{Q:Exit->St->Prop}{l:List (Nat×AV)}{g:Operand}{ps:Array Tmp}{assign body:Code}{gf:FuncId}{caps:List (List DV)}{xs:List (List PV)}(np':Nat)(own:Nat->Own)(I:Nat->Prop)(hg:ev (a7 l) g=.fn gf caps)(hit:Iter2 P gf caps xs)(hps:∀ x∈xs,x.length=ps.toList.length)(hfix:ta np' l=true)(hnp:Nat.ble np np'=true)(hpN:(ps.toList.all fun p=>Nat.blt p N)=true)(hI:I 0)(hround:∀ (k:Nat) (x:List PV),xs[k]?=some x->I k->AWp P true N np' assign (kn (AL P N np' body (xY np' Q l (own (k+1)) (I (k+1)))) (fun _ _=>False)) ⟨nl (a7 l) ps.toList x,own k⟩)(hdone:I xs.length->Q .normal ⟨a7 l,own xs.length⟩):AWp P false N np (.rangeFunc g ps assign body) Q ⟨a7 l,own 0⟩:=by
 intro ro hB C hh r a w hn hc;have hro:ro=none:=hB rfl;subst hro;have hnp':=bL0 hnp;have hmar:C.mar=true:=hn.2;refine wpIn_rangeFunc ?_;intro fn _;have hgv:=eL hc.rg g;rw[hg]at hgv;obtain⟨lb,hval,hcaps⟩:=hgv;obtain⟨rec,hrec⟩:∃ rec:LoopState->Option Code->Loop,rec=fun st pe=>{ state:=st,pending:=pe,fn,tmps:=a.tmps,params:=ps,assign,body,defers:=w.heap.size }:=⟨_,rfl⟩
 obtain⟨W1,hW1⟩:∃ W1,(w.alloc (.deferred (some []))).alloc (.loop (rec .ready none))=W1:=⟨_,rfl⟩
 obtain⟨hw1,hle1⟩:=hc.wk.imm (.deferred (some []));obtain⟨h1,hh1⟩:∃ h1:Hp,h1=fun i=>if i=w.heap.size then some (.deferred (some []))else hh i:=⟨_,rfl⟩
 rw[<- hh1]at hw1 hle1;have hs1:W1.heap.size=w.heap.size+2:=by rw[<- hW1];simp
 have hold1:∀ i,i<(w.alloc (.deferred (some []))).heap.size->W1.heap[i]?=(w.alloc (.deferred (some []))).heap[i]?:=fun i hi=>by
  rw[<- hW1,heap_alloc,G2 (by omega)]
 have hw2:WOK C h1 r (own 0) W1:=hw1.beside (by rw[<- hW1];rfl) (by rw[<- hW1];rfl) (by rw[<- hW1];exact⟨rfl,trivial⟩) (by rw[hs1];simp) hold1;have hL1:W1.heap[w.heap.size+1]?=some (.loop (rec .ready none)):=by
  rw[<- hW1,heap_alloc,H2 (by simp)]
 have hD0:hh w.heap.size=none:=by
  cases e:hh w.heap.size with
  |none=>rfl
  |some o=>have:=hc.wk.hlt e;omega
 have hhL:h1 (w.heap.size+1)=none:=by
  rw[hh1];show(if w.heap.size+1=w.heap.size then _ else hh (w.heap.size+1))=none;rw[G2 (by omega)];cases e:hh (w.heap.size+1)with
  |none=>rfl
  |some o=>have:=hc.wk.hlt e;omega
 have hnoL:∀ m,own 0 m≠none->aD (r m)≠some (w.heap.size+1):=fun m hm e=>by
  have:=hc.wk.lt hm e;omega
 have hD1:h1 w.heap.size=some (.deferred (some [])):=by rw[hh1];exact H2 rfl
 generalize hLL:w.heap.size+1=L at *;have hCL:C.w0.heap.size<=L:=by have:=hc.wk.size;omega
 refine⟨L,[{ target:=.collected w.heap.size,args:=#[] }],W1,{ target:=.fn (.func gf) lb,args:=#[.func (.yield L) #[] #[]] },W1,gf,#[.func (.yield L) #[] #[]]++lb,W1,?_,?_,fun _ _=>trivial,?_,fun e=>by simp[Wd]at e,?_⟩
 ·rw[<- hW1,hrec,<- hLL];exact run_enterLoop_outer _ _ _ _ _
 ·simp only[resolve,hval];simp[go_sem]
 ·have eg:∀ args w,(callFunc gf args).run P w=.ok (.enter gf args) w:=fun args w=>bU hit.fn args w
  simp[invoke,go_sem,eg]
 have hmen:=lD hfix;obtain⟨J,hJ⟩:∃ J:Nat->Hp->(Nat->Prop)->World->Prop,J=fun k h G W=>∃ r' o st pe,(∀ m,m<np'->r' m=r m)∧WOK C h r' o W∧W.heap[L]?=some (.loop (rec st pe))∧h L=none∧(∀ m,o m≠none->aD (r' m)≠some L)∧Hle h1 h ∧
   (G=fun i=>i=L∨∃ m,o m≠none∧aD (r' m)=some i)∧tF xs.length own I Q l k o st pe:=⟨_,rfl⟩
 have hrg:∀ h r',Hle h1 h->(∀ m,m<np'->r' m=r m)->RegsOK h r' (a7 l) a:=fun h r' hl hr t =>
  AVRep.rebind _ _ (fun m hm=>hr m (hmen t m hm)) (AVRep.mono (hle1.trans hl) _ _ (hc.rg t))
 refine CallsIn.mono (hit.go L lb J h1 (fun i=>i=L∨∃ m,own 0 m≠none∧aD (r m)=some i) W1 C.w0.heap.size hw2.size (hcaps.mono hle1) hw2.gl ⟨⟨?_,?_,?_⟩,?_⟩ ?_) ?_
 ·intro k h G W hk;rw[hJ]at hk;obtain⟨r',o,st,pe,_,q,_⟩:=hk;exact q.hi
 ·intro k h G W hk i hi;rw[hJ]at hk;obtain⟨r',o,st,pe,e1,e2,e3,e4,e5,e6,rfl,e8⟩:=hk;rcases hi with rfl|⟨m,hm,e⟩
  ·exact⟨(K0.1 e3).1,e4⟩
  exact⟨e2.lt hm e,e2.ho m i hm e⟩
 ·intro k h G W h' W' hk q;rw[hJ]at hk ⊢;obtain⟨r',o,st,pe,e1,e2,e3,e4,e5,e6,rfl,e8⟩:=hk;have hlt:L<W.heap.size:=(K0.1 e3).1;refine⟨r',o,st,pe,e1,e2.rest q (fun m i hm e=>.inr ⟨m,hm,e⟩) (Iv _),?_,?_,e5,e6.trans q.hg,rfl,e8⟩
  ·rcases q.old L hlt with g|⟨_,g,_⟩
   ·rw[g];exact e3
   exact absurd (.inl rfl) g
  cases e:h' L with
  |none=>rfl
  |some o' =>
   rcases q.hn L (by rw[e];simp)with g|g
   ·exact absurd e4 g
   exact absurd (.inl rfl) g.2
 ·intro k h G W x vals hx hk hv;rw[hJ]at hk;obtain⟨r',o,st,pe,e1,e2,e3,e4,e5,e6,rfl,e8⟩:=hk;have hkl:k<xs.length:=(Uu.1 hx).1;obtain⟨_,rfl,rfl,rfl,hIk⟩:k<=xs.length∧o=own k∧st=.ready∧pe=none∧I k:=by
   rcases e8 with e8|e8
   ·exact e8
   omega
  have hlen:x.length=ps.toList.length:=hps x (U8 hx);have hvl:vals.length=x.length:=lX _ _ hv;have hsz:vals.toArray.size=(rec .ready none).params.size:=by
   rw[hrec];show vals.length=ps.size;rw[hvl,hlen];simp
  refine⟨_,_,_,_,run_yield e3 hsz,roundIn_of_wpIn trivial ?_⟩;rw[hrec];show assign.wpIn (Wd (some L)) 0 P _ { tmps:=(ps.zip vals.toArray).foldl (fun t (p,v)=>t.setIfInBounds p v) a.tmps,defers:=[] } W;have hzip:(ps.zip vals.toArray).foldl (fun t (p,v)=>t.setIfInBounds p v) a.tmps=(ps.toList.zip vals).foldl (fun t (p,v)=>t.setIfInBounds p v) a.tmps:=by
   rw[<- Xe,XX]
  rw[hzip];obtain⟨f1,f2⟩:=gj (r:=r') ps.toList x vals (a7 l) a.tmps hv hlen (fun p hp=>by
   have:=Uo.1 hpN p hp;rw[hc.sz];simpa using this) (fun t=>hrg h r' e6 e1 t)
  refine wpIn_mono (hround k x hx hIk (some L) (fun e=>by cases e) (Ctx.round h r' (own k) W np') h r' _ W ⟨rfl,rfl⟩ ⟨f2.trans hc.sz,trivial,f1,e2.enter⟩) ?_;rintro e a1 w1 ⟨s1,h2,r2,q1,c1⟩;cases e with
  |normal =>
   have hwk1:=e2.leave c1.wk (UA (V1 hn.1) hnp');obtain⟨g1,g2,g3⟩:=WOK.rec_left e5 c1.wk e3 e4;have hd1:a1.defers=[]:=by
    have:=c1.df;cases hd:a1.defers with
    |nil=>rfl
    |cons d ds=>rw[hd]at this;cases this.1
   have hw3:=hwk1.putL (o:=.loop { rec .ready none with state:=.busy }) g3 g2 hCL;have hLw:L<w1.heap.size:=(K0.1 g1).1;have hLb:(w1.putObj L (.loop { rec .ready none with state:=.busy })).heap[L]?=some (.loop { rec .ready none with state:=.busy }):=World.putObj_heap_same hLw;refine⟨_,run_beginRound g1 (by rw[hrec]),?_⟩;refine wpIn_mono (q1 L _ (Ctx.round h2 r2 s1.own _ np') h2 r2 a1 _ ⟨rfl,rfl⟩ (by exact hLb) (fun⟨m,hm,e⟩=>g3 m hm e) ⟨c1.sz,by rw[hd1];trivial,c1.rg,hw3.enter⟩) ?_;rintro e a2 w2 ⟨s2,h3,r3,q2,c2⟩;have fin:∀ (jump:Option Code) (o2:Own),GW np' s2.own o2->tF xs.length own I Q l (nx xs.length k jump.isNone) o2 (if jump.isNone then .ready else .done) jump->∃ v w',(Instr.endRound L jump).run P w2=.ok v w'∧∃ b,Ending.returned v=.returned (.bool b)∧∃ h' G',J (nx xs.length k b) h' G' w'∧Gave (fun i=>i=L∨∃ m,own k m≠none∧aD (r' m)=some i) h W G' h' w':=by
    intro jump o2 q2 hleft;have hwk2:=hw3.leave c2.wk (UA (V1 hn.1) hnp');obtain⟨k1,k2,k3⟩:=WOK.rec_left g3 c2.wk hLb g2;obtain⟨r4,q3,hwk3,q4⟩:=q2 C h3 r3 w2 (UA (V1 hn.1) hnp') hwk2;have k3':∀ m,o2 m≠none->aD (r4 m)≠some L:=fun m hm e=>by
     obtain⟨m2,g1,g2⟩:=q4 m L hm e;exact k3 m2 g1 g2
    have F2:∀ i,(Ctx.round h2 r2 s1.own (w1.putObj L (.loop { rec .ready none with state:=.busy })) np').F i->W.heap.size<=i∨∃ m,own k m≠none∧aD (r' m)=some i:=by
     rintro i ⟨m,hm,e⟩;exact c1.wk.fo m i hm e
    have sz1:W.heap.size<=w1.heap.size:=c1.wk.size;have sz2:w1.heap.size<=w2.heap.size:=by have:(w1.putObj L _).heap.size<=w2.heap.size:=c2.wk.size;rwa [bb]at this
    refine⟨_,_,run_endRound jump k1,_,rfl,h3,fun i=>i=L∨∃ m,o2 m≠none∧aD (r4 m)=some i,?_,?_⟩
    ·rw[hJ];refine⟨r4,o2,if jump.isNone then .ready else .done,jump,fun m hm=>?_,hwk3.putL k3' k2 hCL,?_,k2,k3',e6.trans (c1.wk.hg.trans c2.wk.hg),rfl,hleft⟩
     ·rw[q3 m hm,c2.wk.kp m hm];show r2 m=r m;rw[c1.wk.kp m hm];exact e1 m hm
     rw[World.putObj_heap_same (K0.1 k1).1,hrec]
    refine⟨c2.wk.os.trans c1.wk.os,c2.wk.tape.trans c1.wk.tape,c2.wk.output.trans c1.wk.output,by rw[bb];omega,fun i hi hg=>?_,c1.wk.hg.trans c2.wk.hg,fun i hi=>?_,fun i hi=>?_⟩
    ·have hiL:i≠L:=fun x=>hg (.inl x)
     rw[bO hiL,c2.wk.old i (by rw[show(Ctx.round h2 r2 s1.own (w1.putObj L (.loop { rec .ready none with state:=.busy })) np').w0.heap.size=w1.heap.size from bb _ _ _];omega) (fun x=>by
      rcases F2 i x with g|g
      ·omega
      exact hg (.inr g))]
     show(w1.putObj L _).heap[i]?=_;rw[bO hiL];exact c1.wk.old i hi (fun x=>hg (.inr x))
    ·rcases c2.wk.hn i hi with g|g|g
     ·rcases c1.wk.hn i g with g|g|g
      ·exact .inl g
      ·exact .inr (.inl g)
      exact .inr (.inr (.inr g))
     ·have g':(w1.putObj L (.loop { rec .ready none with state:=.busy })).heap.size<=i:=g;rw[bb]at g';exact .inr (.inl (by omega))
     rcases F2 i g with g|g
     ·exact .inr (.inl g)
     exact .inr (.inr (.inr g))
    rcases hi with rfl|⟨m,hm,e⟩
    ·exact .inl (.inl rfl)
    obtain⟨m2,g1,g2⟩:=q4 m i hm e;rcases c2.wk.fo m2 i g1 g2 with g|g
    ·have g':(w1.putObj L (.loop { rec .ready none with state:=.busy })).heap.size<=i:=g;rw[bb]at g';exact .inr (by omega)
    rcases F2 i g with g|g
    ·exact .inr g
    exact .inl (.inr g)
   cases e with
   |normal=>exact fin none _ q2.1 (.inl ⟨hkl,rfl,rfl,rfl,q2.2⟩)
   |ret =>
    obtain⟨o2,g1,g2⟩:=q2;exact fin (some .ret) o2 g1 (.inr ⟨(by show xs.length<xs.length+1+k;omega),rfl,.inl ⟨rfl,g2⟩⟩)
   |exit id =>
    obtain⟨o2,g1,g2⟩:=q2;exact fin (some (.exit id)) o2 g1 (.inr ⟨(by show xs.length<xs.length+1+k;omega),rfl,.inr ⟨id,rfl,g2⟩⟩)
   |_=>exact q2.elim
  |_=>exact q1.elim
 ·rw[hJ];exact⟨r,own 0,.ready,none,fun _ _=>rfl,hw2,hL1,hhL,hnoL,.refl _,rfl,.inl ⟨Uv _,rfl,rfl,rfl,hI⟩⟩
 rintro e W3 ⟨⟨v,rfl⟩,kf,h',G',hkf,hk⟩;rw[hJ]at hk;obtain⟨r',o,st,pe,e1,e2,e3,e4,e5,e6,_,e8⟩:=hk;have fin:∀ (ob:Obj) (q:Exit),Q q ⟨a7 l,o⟩->∃ s' h' r',Q q s'∧Conc C N h' r' s' { a with defers:=[{ target:=.collected w.heap.size,args:=#[] }]++a.defers } (W3.putObj L ob):=fun ob q hq=>by
  refine⟨⟨a7 l,o⟩,h',r',hq,hc.sz,?_,fun t=>hrg h' r' e6 e1 t,e2.putL e5 e4 hCL⟩;refine⟨hmar,⟨w.heap.size,rfl,hc.wk.size,?_,e6 _ _ hD1,ny hD0 hc.df⟩,hc.df.mono (hle1.trans e6)⟩;cases e:C.h0 w.heap.size with
  |none=>rfl
  |some o=>have:=hc.wk.hg _ _ e;rw[hD0]at this;cases this
 have hbusy:(rec st pe).state≠.busy:=by
  rw[hrec];rcases e8 with⟨_,_,h3,_⟩|⟨_,h3,_⟩ <;> (show st≠_;rw[h3];simp)
 have hpe:(rec st pe).pending=pe:=by rw[hrec]
 refine⟨pe,_,by have:=run_endLoop (P:=P) e3 hbusy;rw[hpe]at this;exact this,?_⟩;rcases e8 with⟨h1,rfl,_,rfl,hIk⟩|⟨_,_,⟨rfl,h4⟩|⟨id,rfl,h4⟩⟩
 ·have:kf=xs.length:=by omega
  subst this;exact fin _ .normal (hdone hIk)
 ·exact wpIn_ret (fin _ .ret h4)
 exact wpIn_exit (fin _ (.exit id) h4)
theorem yx{P:Program}{N np:Nat}{Q:Exit->St->Prop}{l:List (Nat×AV)}{ps:Array Tmp}{assign body:Code}{gf:FuncId}{xs:List (List PV)}{t0 m0:Nat}{o:Own}{b0:Blk}(np':Nat)(own:Nat->Own)(I:Nat->Prop)(hit:Iter3 P gf b0 xs)(hj:a7 l t0=.junk)(ho:o m0=some b0)(hbv:b0.vec=false)(h0:∀ m,own 0 m=(upd o m0 none) m)(hps:∀ x∈xs,x.length=ps.toList.length)(hfix:ta np' l=true)(hnp:Nat.ble np np'=true)(hpN:(ps.toList.all fun p=>Nat.blt p N)=true)(hI:I 0)(hround:∀ (k:Nat) (x:List PV),xs[k]?=some x->I k->AWp P true N np' assign (kn (AL P N np' body (xY np' Q l (own (k+1)) (I (k+1)))) (fun _ _=>False)) ⟨nl (a7 l) ps.toList x,own k⟩)(hdone:I xs.length->Q .normal ⟨a7 l,own xs.length⟩):AWp P false N np (.rangeFunc (.tmp t0) ps assign body) Q ⟨upd (a7 l) t0 (.fnl gf m0),o⟩:=by
 intro ro hB C hh r a w hn hc;have hro:ro=none:=hB rfl;subst hro;have hnp':=bL0 hnp;have hmar:C.mar=true:=hn.2;refine wpIn_rangeFunc ?_;intro fn _;have hgv:AVRep hh r (upd (a7 l) t0 (.fnl gf m0) t0) (a.tmps.getD t0 undef):=hc.rg t0;rw[show upd (a7 l) t0 (.fnl gf m0) t0=.fnl gf m0 from upd_same _ _ _]at hgv;obtain⟨bk,hbk,hval⟩:=hgv;have hval:a.eval (.tmp t0)=.func (.func gf) #[] #[.pointer (some ⟨bk,0,none⟩)]:=hval;have hone:(⟨upd (a7 l) t0 (.fnl gf m0),o⟩:St).own m0≠none:=by show o m0≠none;rw[ho];simp
 have hbr:=hc.wk.ow m0 b0 ho;have hrm:r m0=.pointer (some ⟨bk,0,none⟩):=by
  unfold BlkRep at hbr;rw[hbv]at hbr;obtain⟨k,c,h1,_⟩:=hbr;rw[h1]at hbk ⊢;have:k=bk:=by simpa[aD]using hbk
  rw[this]
 rw[hrm]at hbr;have hbfo:=hc.wk.fo m0 bk hone hbk;have hbho:=hc.wk.ho m0 bk hone hbk;have hblt:=hc.wk.lt (m:=m0) hone hbk;have hbne:∀ m,own 0 m≠none->aD (r m)≠some bk:=fun m hm e=>by
  rw[h0 m]at hm;by_cases x:m=m0
  ·subst x;rw[upd_same]at hm;exact hm rfl
  rw[aj _ _ _ _ x]at hm;exact x (hc.wk.inj m m0 bk hm hone e hbk)
 have hrg0:RegsOK hh r (a7 l) a:=fun t=>by
  by_cases e:t=t0
  ·subst e;rw[hj];exact trivial
  have:AVRep hh r (upd (a7 l) t0 (.fnl gf m0) t) (a.tmps.getD t undef):=hc.rg t
  rwa [show upd (a7 l) t0 (.fnl gf m0) t=a7 l t from aj _ _ _ _ e]at this
 replace hc:Conc C N hh r ⟨a7 l,own 0⟩ a w:=⟨hc.sz,hc.df,hrg0,hc.wk.forget fun m=>by
  show own 0 m=o m∨own 0 m=none;rw[h0 m];by_cases x:m=m0
  ·subst x;exact .inr (upd_same _ _ _)
  exact .inl (aj _ _ _ _ x)⟩
 obtain⟨rec,hrec⟩:∃ rec:LoopState->Option Code->Loop,rec=fun st pe=>{ state:=st,pending:=pe,fn,tmps:=a.tmps,params:=ps,assign,body,defers:=w.heap.size }:=⟨_,rfl⟩
 obtain⟨W1,hW1⟩:∃ W1,(w.alloc (.deferred (some []))).alloc (.loop (rec .ready none))=W1:=⟨_,rfl⟩
 obtain⟨hw1,hle1⟩:=hc.wk.imm (.deferred (some []));obtain⟨h1,hh1⟩:∃ h1:Hp,h1=fun i=>if i=w.heap.size then some (.deferred (some []))else hh i:=⟨_,rfl⟩
 rw[<- hh1]at hw1 hle1;have hs1:W1.heap.size=w.heap.size+2:=by rw[<- hW1];simp
 have hold1:∀ i,i<(w.alloc (.deferred (some []))).heap.size->W1.heap[i]?=(w.alloc (.deferred (some []))).heap[i]?:=fun i hi=>by
  rw[<- hW1,heap_alloc,G2 (by omega)]
 have hw2:WOK C h1 r (own 0) W1:=hw1.beside (by rw[<- hW1];rfl) (by rw[<- hW1];rfl) (by rw[<- hW1];exact⟨rfl,trivial⟩) (by rw[hs1];simp) hold1;have hL1:W1.heap[w.heap.size+1]?=some (.loop (rec .ready none)):=by
  rw[<- hW1,heap_alloc,H2 (by simp)]
 have hD0:hh w.heap.size=none:=by
  cases e:hh w.heap.size with
  |none=>rfl
  |some o=>have:=hc.wk.hlt e;omega
 have hhL:h1 (w.heap.size+1)=none:=by
  rw[hh1];show(if w.heap.size+1=w.heap.size then _ else hh (w.heap.size+1))=none;rw[G2 (by omega)];cases e:hh (w.heap.size+1)with
  |none=>rfl
  |some o=>have:=hc.wk.hlt e;omega
 have hnoL:∀ m,own 0 m≠none->aD (r m)≠some (w.heap.size+1):=fun m hm e=>by
  have:=hc.wk.lt hm e;omega
 have hD1:h1 w.heap.size=some (.deferred (some [])):=by rw[hh1];exact H2 rfl
 generalize hLL:w.heap.size+1=L at *;have hCL:C.w0.heap.size<=L:=by have:=hc.wk.size;omega
 refine⟨L,[{ target:=.collected w.heap.size,args:=#[] }],W1,{ target:=.fn (.func gf) #[.pointer (some ⟨bk,0,none⟩)],args:=#[.func (.yield L) #[] #[]] },W1,gf,#[.func (.yield L) #[] #[],.pointer (some ⟨bk,0,none⟩)],W1,?_,?_,fun _ _=>trivial,?_,fun e=>by simp[Wd]at e,?_⟩
 ·rw[<- hW1,hrec,<- hLL];exact run_enterLoop_outer _ _ _ _ _
 ·simp only[resolve,hval];simp[go_sem]
 ·have eg:∀ args w,(callFunc gf args).run P w=.ok (.enter gf args) w:=fun args w=>bU hit.fn args w
  simp[invoke,go_sem,eg]
 have hmen:=lD hfix;obtain⟨J,hJ⟩:∃ J:Nat->Hp->(Nat->Prop)->World->Prop,J=fun k h G W=>∃ r' o st pe,(∀ m,m<np'->r' m=r m)∧WOK C h r' o W∧W.heap[L]?=some (.loop (rec st pe))∧h L=none∧(∀ m,o m≠none->aD (r' m)≠some L)∧Hle h1 h ∧
   (G=fun i=>(i=L∨∃ m,o m≠none∧aD (r' m)=some i)∨(i<W1.heap.size∧h i=none∧i≠bk))∧W1.heap.size<=W.heap.size∧tF xs.length own I Q l k o st pe:=⟨_,rfl⟩
 have hrg:∀ h r',Hle h1 h->(∀ m,m<np'->r' m=r m)->RegsOK h r' (a7 l) a:=fun h r' hl hr t =>
  AVRep.rebind _ _ (fun m hm=>hr m (hmen t m hm)) (AVRep.mono (hle1.trans hl) _ _ (hc.rg t))
 refine CallsIn.mono (hit.go L bk J h1 (fun i=>(i=L∨∃ m,own 0 m≠none∧aD (r m)=some i)∨(i<W1.heap.size∧h1 i=none∧i≠bk)) W1 0 (Uv _) (Uv _) ?_ ?_ ((hbr.mono hle1).world fun i hi=>?_) hw2.gl ⟨⟨?_,?_,?_⟩,?_⟩ ?_) ?_
 ·rintro((x|⟨m,hm,e⟩)|x)
  ·omega
  ·exact hbne m hm e
  exact x.2.2 rfl
 ·rw[hh1];show(if bk=w.heap.size then _ else hh bk)=none;rw[G2 (by omega)];exact hbho
 ·have:i=bk:=by simpa[aD]using hi.symm
  subst this;rw[<- hW1,heap_alloc,G2 (by simp;omega),heap_alloc,G2 (by omega)]
 ·intro k h G W hk;rw[hJ]at hk;obtain⟨r',o,st,pe,_,q,_⟩:=hk;exact q.hi
 ·intro k h G W hk i hi;rw[hJ]at hk;obtain⟨r',o,st,pe,e1,e2,e3,e4,e5,e6,rfl,e7,e8⟩:=hk;rcases hi with(rfl|⟨m,hm,e⟩)|⟨h8,h9,_⟩
  ·exact⟨(K0.1 e3).1,e4⟩
  ·exact⟨e2.lt hm e,e2.ho m i hm e⟩
  exact⟨by omega,h9⟩
 ·intro k h G W h' W' hk q;rw[hJ]at hk ⊢;obtain⟨r',o,st,pe,e1,e2,e3,e4,e5,e6,rfl,e7,e8⟩:=hk;have hlt:L<W.heap.size:=(K0.1 e3).1;refine⟨r',o,st,pe,e1,e2.rest3 q (fun m i hm e=>.inl (.inr ⟨m,hm,e⟩)) (fun i h9 hg=>?_),?_,?_,e5,e6.trans q.hg,?_,UA e7 q.size,e8⟩
  ·by_cases y:C.F i
   ·exact .inr y
   by_cases x:i<C.w0.heap.size
   ·exfalso;refine hg (.inr ⟨Vf x hw2.size,h9,fun z=>?_⟩);subst z;rcases hbfo with z|z
    ·omega
    exact y z
   exact .inl (by omega)
  ·rcases q.old L hlt with g|⟨_,g,_⟩
   ·rw[g];exact e3
   exact absurd (.inl (.inl rfl)) g
  ·cases e:h' L with
   |none=>rfl
   |some o' =>
    rcases q.hn L (by rw[e];simp)with g|g
    ·exact absurd e4 g
    exact absurd (.inl (.inl rfl)) g.2
  funext i
  refine propext ⟨fun x=>x.imp id fun⟨a1,a2,a3⟩=>⟨a1,?_,a3⟩,fun x=>x.imp id fun⟨a1,a2,a3⟩=>⟨a1,?_,a3⟩⟩
  ·cases e:h' i with
   |none=>rfl
   |some o' =>
    rcases q.hn i (by rw[e];simp)with g|g
    ·exact absurd a2 g
    exact absurd (.inr ⟨a1,a2,a3⟩) g.2
  cases e:h i with
  |none=>rfl
  |some o'=>rw[q.hg i o' e]at a2;cases a2
 ·intro k h G W x vals hx hk hv;rw[hJ]at hk;obtain⟨r',o,st,pe,e1,e2,e3,e4,e5,e6,rfl,e7,e8⟩:=hk;have hkl:k<xs.length:=(Uu.1 hx).1;obtain⟨_,rfl,rfl,rfl,hIk⟩:k<=xs.length∧o=own k∧st=.ready∧pe=none∧I k:=by
   rcases e8 with e8|e8
   ·exact e8
   omega
  have hlen:x.length=ps.toList.length:=hps x (U8 hx);have hvl:vals.length=x.length:=lX _ _ hv;have hsz:vals.toArray.size=(rec .ready none).params.size:=by
   rw[hrec];show vals.length=ps.size;rw[hvl,hlen];simp
  refine⟨_,_,_,_,run_yield e3 hsz,roundIn_of_wpIn trivial ?_⟩;rw[hrec];show assign.wpIn (Wd (some L)) 0 P _ { tmps:=(ps.zip vals.toArray).foldl (fun t (p,v)=>t.setIfInBounds p v) a.tmps,defers:=[] } W;have hzip:(ps.zip vals.toArray).foldl (fun t (p,v)=>t.setIfInBounds p v) a.tmps=(ps.toList.zip vals).foldl (fun t (p,v)=>t.setIfInBounds p v) a.tmps:=by
   rw[<- Xe,XX]
  rw[hzip];obtain⟨f1,f2⟩:=gj (r:=r') ps.toList x vals (a7 l) a.tmps hv hlen (fun p hp=>by
   have:=Uo.1 hpN p hp;rw[hc.sz];simpa using this) (fun t=>hrg h r' e6 e1 t)
  refine wpIn_mono (hround k x hx hIk (some L) (fun e=>by cases e) (Ctx.round h r' (own k) W np') h r' _ W ⟨rfl,rfl⟩ ⟨f2.trans hc.sz,trivial,f1,e2.enter⟩) ?_;rintro e a1 w1 ⟨s1,h2,r2,q1,c1⟩;cases e with
  |normal =>
   have hwk1:=e2.leave c1.wk (UA (V1 hn.1) hnp');obtain⟨g1,g2,g3⟩:=WOK.rec_left e5 c1.wk e3 e4;have hd1:a1.defers=[]:=by
    have:=c1.df;cases hd:a1.defers with
    |nil=>rfl
    |cons d ds=>rw[hd]at this;cases this.1
   have hw3:=hwk1.putL (o:=.loop { rec .ready none with state:=.busy }) g3 g2 hCL;have hLw:L<w1.heap.size:=(K0.1 g1).1;have hLb:(w1.putObj L (.loop { rec .ready none with state:=.busy })).heap[L]?=some (.loop { rec .ready none with state:=.busy }):=World.putObj_heap_same hLw;refine⟨_,run_beginRound g1 (by rw[hrec]),?_⟩;refine wpIn_mono (q1 L _ (Ctx.round h2 r2 s1.own _ np') h2 r2 a1 _ ⟨rfl,rfl⟩ (by exact hLb) (fun⟨m,hm,e⟩=>g3 m hm e) ⟨c1.sz,by rw[hd1];trivial,c1.rg,hw3.enter⟩) ?_;rintro e a2 w2 ⟨s2,h3,r3,q2,c2⟩;have fin:∀ (jump:Option Code) (o2:Own),GW np' s2.own o2->tF xs.length own I Q l (nx xs.length k jump.isNone) o2 (if jump.isNone then .ready else .done) jump->∃ v w',(Instr.endRound L jump).run P w2=.ok v w'∧∃ b,Ending.returned v=.returned (.bool b)∧∃ h' G',J (nx xs.length k b) h' G' w'∧Gave (fun i=>(i=L∨∃ m,own k m≠none∧aD (r' m)=some i)∨(i<W1.heap.size∧h i=none∧i≠bk)) h W G' h' w':=by
    intro jump o2 q2 hleft;have hwk2:=hw3.leave c2.wk (UA (V1 hn.1) hnp');obtain⟨k1,k2,k3⟩:=WOK.rec_left g3 c2.wk hLb g2;obtain⟨r4,q3,hwk3,q4⟩:=q2 C h3 r3 w2 (UA (V1 hn.1) hnp') hwk2;have k3':∀ m,o2 m≠none->aD (r4 m)≠some L:=fun m hm e=>by
     obtain⟨m2,g1,g2⟩:=q4 m L hm e;exact k3 m2 g1 g2
    have F2:∀ i,(Ctx.round h2 r2 s1.own (w1.putObj L (.loop { rec .ready none with state:=.busy })) np').F i->W.heap.size<=i∨∃ m,own k m≠none∧aD (r' m)=some i:=by
     rintro i ⟨m,hm,e⟩;exact c1.wk.fo m i hm e
    have sz1:W.heap.size<=w1.heap.size:=c1.wk.size;have sz2:w1.heap.size<=w2.heap.size:=by have:(w1.putObj L _).heap.size<=w2.heap.size:=c2.wk.size;rwa [bb]at this
    refine⟨_,_,run_endRound jump k1,_,rfl,h3,fun i=>(i=L∨∃ m,o2 m≠none∧aD (r4 m)=some i)∨(i<W1.heap.size∧h3 i=none∧i≠bk),?_,?_⟩
    ·rw[hJ];refine⟨r4,o2,if jump.isNone then .ready else .done,jump,fun m hm=>?_,hwk3.putL k3' k2 hCL,?_,k2,k3',e6.trans (c1.wk.hg.trans c2.wk.hg),rfl,by rw[bb];omega,hleft⟩
     ·rw[q3 m hm,c2.wk.kp m hm];show r2 m=r m;rw[c1.wk.kp m hm];exact e1 m hm
     rw[World.putObj_heap_same (K0.1 k1).1,hrec]
    refine⟨c2.wk.os.trans c1.wk.os,c2.wk.tape.trans c1.wk.tape,c2.wk.output.trans c1.wk.output,by rw[bb];omega,fun i hi hg=>?_,c1.wk.hg.trans c2.wk.hg,fun i hi=>?_,fun i hi=>?_⟩
    ·have hiL:i≠L:=fun x=>hg (.inl (.inl x))
     rw[bO hiL,c2.wk.old i (by rw[show(Ctx.round h2 r2 s1.own (w1.putObj L (.loop { rec .ready none with state:=.busy })) np').w0.heap.size=w1.heap.size from bb _ _ _];omega) (fun x=>by
      rcases F2 i x with g|g
      ·omega
      exact hg (.inl (.inr g)))]
     show(w1.putObj L _).heap[i]?=_;rw[bO hiL];exact c1.wk.old i hi (fun x=>hg (.inl (.inr x)))
    ·rcases c2.wk.hn i hi with g|g|g
     ·rcases c1.wk.hn i g with g|g|g
      ·exact .inl g
      ·exact .inr (.inl g)
      exact .inr (.inr (.inl (.inr g)))
     ·have g':(w1.putObj L (.loop { rec .ready none with state:=.busy })).heap.size<=i:=g;rw[bb]at g';exact .inr (.inl (by omega))
     rcases F2 i g with g|g
     ·exact .inr (.inl g)
     exact .inr (.inr (.inl (.inr g)))
    rcases hi with(rfl|⟨m,hm,e⟩)|⟨x1,x2,x3⟩
    ·exact .inl (.inl (.inl rfl))
    ·obtain⟨m2,g1,g2⟩:=q4 m i hm e;rcases c2.wk.fo m2 i g1 g2 with g|g
     ·have g':(w1.putObj L (.loop { rec .ready none with state:=.busy })).heap.size<=i:=g;rw[bb]at g';exact .inr (by omega)
     rcases F2 i g with g|g
     ·exact .inr g
     exact .inl (.inl (.inr g))
    refine .inl (.inr ⟨x1,?_,x3⟩);cases e:h i with
    |none=>rfl
    |some o'=>rw[(c1.wk.hg.trans c2.wk.hg) i o' e]at x2;cases x2
   cases e with
   |normal=>exact fin none _ q2.1 (.inl ⟨hkl,rfl,rfl,rfl,q2.2⟩)
   |ret =>
    obtain⟨o2,g1,g2⟩:=q2;exact fin (some .ret) o2 g1 (.inr ⟨(by show xs.length<xs.length+1+k;omega),rfl,.inl ⟨rfl,g2⟩⟩)
   |exit id =>
    obtain⟨o2,g1,g2⟩:=q2;exact fin (some (.exit id)) o2 g1 (.inr ⟨(by show xs.length<xs.length+1+k;omega),rfl,.inr ⟨id,rfl,g2⟩⟩)
   |_=>exact q2.elim
  |_=>exact q1.elim
 ·rw[hJ];exact⟨r,own 0,.ready,none,fun _ _=>rfl,hw2,hL1,hhL,hnoL,.refl _,rfl,Iv _,.inl ⟨Uv _,rfl,rfl,rfl,hI⟩⟩
 rintro e W3 ⟨⟨v,rfl⟩,kf,h',G',hkf,hk⟩;rw[hJ]at hk;obtain⟨r',o,st,pe,e1,e2,e3,e4,e5,e6,_,_,e8⟩:=hk;have fin:∀ (ob:Obj) (q:Exit),Q q ⟨a7 l,o⟩->∃ s' h' r',Q q s'∧Conc C N h' r' s' { a with defers:=[{ target:=.collected w.heap.size,args:=#[] }]++a.defers } (W3.putObj L ob):=fun ob q hq=>by
  refine⟨⟨a7 l,o⟩,h',r',hq,hc.sz,?_,fun t=>hrg h' r' e6 e1 t,e2.putL e5 e4 hCL⟩;refine⟨hmar,⟨w.heap.size,rfl,hc.wk.size,?_,e6 _ _ hD1,ny hD0 hc.df⟩,hc.df.mono (hle1.trans e6)⟩;cases e:C.h0 w.heap.size with
  |none=>rfl
  |some o=>have:=hc.wk.hg _ _ e;rw[hD0]at this;cases this
 have hbusy:(rec st pe).state≠.busy:=by
  rw[hrec];rcases e8 with⟨_,_,h3,_⟩|⟨_,h3,_⟩ <;> (show st≠_;rw[h3];simp)
 have hpe:(rec st pe).pending=pe:=by rw[hrec]
 refine⟨pe,_,by have:=run_endLoop (P:=P) e3 hbusy;rw[hpe]at this;exact this,?_⟩;rcases e8 with⟨h1,rfl,_,rfl,hIk⟩|⟨_,_,⟨rfl,h4⟩|⟨id,rfl,h4⟩⟩
 ·have:kf=xs.length:=by omega
  subst this;exact fin _ .normal (hdone hIk)
 ·exact wpIn_ret (fin _ .ret h4)
 exact wpIn_exit (fin _ (.exit id) h4)
theorem WOK.nilV{C:Ctx}{h:Hp}{r:Nat->Value}{own:Own}{w:World}(k:WOK C h r own w){d sz:Nat}{e:TypeId}(hs0:0<sz)(hd:own d=none)(hp:C.np<=d)(hl:∀ m b,own m=some b->d ∉ lnk b) :
  WOK C h (upd r d (.slice none 0 0)) (upd own d (some ⟨true,sz,e,[]⟩)) w:=by
 have live:∀ n,n≠d->upd own d (some (⟨true,sz,e,[]⟩:Blk)) n=own n:=fun n h1=>aj _ _ _ _ h1
 refine⟨?_,?_,k.hi,?_,k.os,k.tape,k.output,k.size,k.old,?_,k.hg,k.hn,k.gl,?_,?_⟩
 ·intro n b' hn;by_cases h1:n=d
  ·subst h1;rw[upd_same]at hn ⊢;cases hn;rw[BlkRep.slE rfl hs0];exact⟨none,0,0,rfl,by simp,Iv _,by omega,.inl rfl⟩
  rw[live n h1]at hn;rw[aj _ _ _ _ h1];exact k.ow n b' hn
 ·intro n p i hn hpp e1 e2;by_cases h1:n=d
  ·subst h1;rw[upd_same]at e1;cases e1
  by_cases h2:p=d
  ·subst h2;rw[upd_same]at e2;cases e2
  rw[aj _ _ _ _ h1]at e1;rw[aj _ _ _ _ h2]at e2;rw[live n h1]at hn;rw[live p h2]at hpp;exact k.inj n p i hn hpp e1 e2
 ·intro n i hn e1;by_cases h1:n=d
  ·subst h1;rw[upd_same]at e1;cases e1
  rw[aj _ _ _ _ h1]at e1;rw[live n h1]at hn;exact k.ho n i hn e1
 ·intro n i hn e1;by_cases h1:n=d
  ·subst h1;rw[upd_same]at e1;cases e1
  rw[aj _ _ _ _ h1]at e1;rw[live n h1]at hn;exact k.fo n i hn e1
 ·intro n hn;rw[aj _ _ _ _ (by omega)];exact k.kp n hn
 intro n b' j hn hj;by_cases h1:n=d
 ·subst h1;rw[upd_same]at hn;cases hn;cases hj
 rw[live n h1]at hn;have hjd:j≠d:=fun x=>hl n b' hn (x▸hj)
 rw[aj _ _ _ _ h1,aj _ _ _ _ hjd];exact k.lk n b' j hn hj
theorem fv{P:Program}{B:Bool}{N np:Nat}{Q:Exit->St->Prop}{s:St}{c:Code}(t d sz:Nat)(e:TypeId)(ht:s.regs t=.p (.c (.v (.slice none 0 0))))(hp:Nat.ble np d=true)(h:AWp P B N np c Q ⟨upd (bt [d] s).regs t (.vec d),upd (bt [d] s).own d (some ⟨true,sz,e,[]⟩)⟩)(hs0:Nat.blt 0 sz=true:=by rfl):AWp P B N np c Q s:=by
 intro ro hB C hh r a w hn hc;have hk:=e9 [d] hc;have hown:(bt [d] s).own d=none:=fp [d] s d (by simp);have hmen:=fU [d] s d (by simp);have hx:=hc.rg t;rw[ht]at hx;have hv:a.tmps.getD t undef=.slice none 0 0:=by
  simp only[AVRep,PRep,DRep]at hx;exact hx.1
 refine h ro hB C hh (upd r d (.slice none 0 0)) a w hn ⟨hk.sz,hk.df,fun t'=>?_,hk.wk.nilV (show 0<sz by simpa using hs0) hown (by rw[hn.1];exact bL0 hp) (fq [d] s d (by simp))⟩;show AVRep hh _ (upd (bt [d] s).regs t (.vec d) t') _;by_cases e1:t'=t
 ·subst e1;rw[upd_same];show _=upd r d _ d;rw[upd_same,hv]
 rw[aj _ _ _ _ e1];have hr:=hk.rg t';have hmt:=hmen t';exact AVRep.rebind _ _ (fun m hm=>aj _ _ _ _ (fun x=>hmt (x▸hm))) hr
section ops
variable {P:Program}
variable {dst:Option Nat}{ty:TypeId}{pos:String}{af:Array Edge}{gd:Option (Nat×Bool)}{d:Nat}{ρ:Operand->AV}{own:Own}
theorem ol{f:FuncId}{c:Operand}{xs:List DV}(hx:ρ c=.ip xs):Eff P ⟨dst,.makeFunc (.func f) #[] #[c],ty,pos,af,gd⟩ d ρ own (.p (.c (.fn f [.ip xs]))) [] none [] :=
 aP fun C h r own' a w hrep hrd hw=>by
  have e1:=hrep c (by simp[Op.operands]);rw[hx]at e1;refine⟨.func (.func f) #[] #[a.eval c],?_,?_⟩
  ·simp[execOp,Instr.makeFunc]
  simp only[AVRep,PRep,DRep];refine⟨#[a.eval c],rfl,rfl,?_⟩;refine DReps.of_get fun i dv hi=>?_
  cases i with
  |zero =>
   simp only[List.getElem?_cons_zero,Option.some.injEq]at hi;subst hi;exact⟨a.eval c,rfl,by simp only[DRep];exact e1⟩
  |succ i=>simp at hi
theorem su{h:Hp}{r:Nat->Value}:∀ {cs:List (List DV)} {g:Nat->Option Value} {xs:List Value},DReps h (cs.map .ip) g->xs.length=cs.length->(∀ i,g i=xs[i]?)->RepArgs h r (cs.map .ip) xs
 | [],_,[],_,_,_=>trivial
 | [],_,_::_,_,e,_=>by simp at e
 |_::_,_,[],_,e,_=>by simp at e
 |c::cs,g,x::xs,k,e,hg=>by
  simp only[List.map_cons,DReps]at k;obtain⟨⟨y,e1,e2⟩,k⟩:=k;rw[hg 0]at e1;simp only[List.getElem?_cons_zero,Option.some.injEq]at e1;subst e1;refine⟨?_,su k (by simpa using e) (fun i=>by rw[hg (i+1)];simp)⟩;simp only[DRep]at e2;exact e2
theorem Eff.callD{f:FuncId}{caps:List (List DV)}{c:Operand}{args:Array Operand}{tys:Array TypeId}{res:AV}(hx:ρ c=.p (.c (.fn f (caps.map .ip))))(hc:ak P f (args.toList.map ρ++caps.map .ip) res) :
  Eff P ⟨dst,.call ⟨.value c,args,tys⟩,ty,pos,af,gd⟩ d ρ own res [] none []:=by
 intro C h r own' a w K Q hrep hrd hw _ hK;have e1:=hrep c (by simp[Op.operands,Call.operands]);rw[hx]at e1;simp only[AVRep,PRep,DRep]at e1;obtain⟨lb,e2,e3,e4⟩:=e1;unfold Oper.wp;have hrun:(execOp a.eval ⟨dst,.call ⟨.value c,args,tys⟩,ty,pos,af,gd⟩).run P w=.ok (.enter f (args.map a.eval++lb)) w:=by
  simp only[execOp,resolve,Sem.run_bind,e2,Deferred.ofValue,Sem.run_pure,Result.andThen_ok,invoke,Array.empty_append];exact bU hc.fn _ w
 rw[hrun];refine Calls.mono (hc.go h r w (args.map a.eval++lb) ?_ (hw.before fun m hm=>absurd rfl hm)) ?_
 ·rw[W5,VU];refine RepArgs.app (cX _ fun x hx=>hrep x (by simp only[Op.operands,Call.operands];exact Wa.2 (.inr (VN.1 hx)))) ?_;exact su e4 (by simpa using e3) (fun i=>by simp)
 rintro e w' ⟨v,h',rfl,hv,hq⟩;exact hK v h' r w' hq.hg (fun _ _=>rfl) hv (hw.after (fun m hm=>absurd rfl hm) hq (fun m=>by simp[gJ,cw]) (fun m b hm=>absurd rfl hm))
end ops
def IC(z:Int):DV:=.v (.int .i64 z)
def IS(l:List Int):DV:=.sl l.length (l.map IC)
def IB(e:TypeId)(l:List Int):Blk:=⟨true,1,e,l.map IC⟩
def spR(c:Int):List Int:=if c=-4 then[1,5]else if c=8 then[1,7]else[1,3]
def chF(fo fs:FuncId)(c:Int):DV:=if c=-4∨c=8∨c=-8 then .fn fs [.ip [IS (spR c)]]else .fn fo [.ip [IC c]]
def chC(fo fs:FuncId)(c:Int):List DV:=[IC c,chF fo fs c]
def CS(fo fs:FuncId)(l:List Int):DV:=.sl l.length (l.flatMap (chC fo fs))
def CB(fo fs:FuncId)(e:TypeId)(l:List Int):Blk:=⟨true,2,e,l.flatMap (chC fo fs)⟩
section
variable {fo fs:FuncId}
theorem sB(l:List Int):(l.flatMap (chC fo fs)).length=l.length*2:=by
 induction l with
 |nil=>rfl
 |cons x l ih=>rw[UP,UB,ih,U5];show 2+_=_;omega
theorem Aw:∀ (l:List Int) (i:Nat) (h:i<l.length),(l.flatMap (chC fo fs)).drop (i*2)=chC fo fs l[i]++(l.drop (i+1)).flatMap (chC fo fs)
 |x::l,0,_=>by simp
 |x::l,i+1,h=>by
  have ih:=Aw l i (by simpa using h);have e:(i+1)*2=i*2+2:=by omega
  rw[e,UP];show(IC x::chF fo fs x::l.flatMap (chC fo fs)).drop (i*2+2)=_;rw[W6,W6,ih];simp
variable {P:Program}{tt:TT}(hT:bM P tt)
variable {dst:Option Nat}{ty:TypeId}{pos:String}{af:Array Edge}{gd:Option (Nat×Bool)}{d:Nat}{ρ:Operand->AV}{own:Own}
variable {T e:TypeId}{i j:TyI}{x y:Operand}
include hT
theorem ue{k:IntKind}{n:Int}{l:List Int}(ht:tt T=some i)(hs:i.sh=.sl e)(he:tt e=some j)(hj:j.size=1)(hx:ρ x=.p (.c (IS l)))(hy:ρ y=.p (.c (.v (.int k n))))(hn:0<=n∧n<l.length) :
  Eff P ⟨dst,.indexAddr T x y,ty,pos,af,gd⟩ d ρ own (.ip (IC (l.getD n.toNat 0)::(l.drop (n.toNat+1)).map IC)) [] none []:=by
 have hi:n.toNat<l.length:=by omega
 have h:=b8 (dst:=dst) (ty:=ty) (pos:=pos) (af:=af) (gd:=gd) (d:=d) (own:=own) hT ht hs he hx (l:=l.length) (xs:=l.map IC) (by rfl) hy hn (by
  intro h0;have:(l.map IC).length=0:=by rw[h0];rfl
  rw[Uq]at this;omega)
 rw[hj,VK,Vn (by rw[Uq];exact hi),List.getElem_map,<- List.map_drop]at h;have e1:l.getD n.toNat 0=l[n.toNat]:=by simp[List.getD,hi]
 rw[e1];exact h
theorem uf{k:IntKind}{n:Int}{l:List Int}(ht:tt T=some i)(hs:i.sh=.sl e)(he:tt e=some j)(hj:j.size=2)(hx:ρ x=.p (.c (CS fo fs l)))(hy:ρ y=.p (.c (.v (.int k n))))(hn:0<=n∧n<l.length) :
  Eff P ⟨dst,.indexAddr T x y,ty,pos,af,gd⟩ d ρ own (.ip (chC fo fs (l.getD n.toNat 0)++(l.drop (n.toNat+1)).flatMap (chC fo fs))) [] none []:=by
 have hi:n.toNat<l.length:=by omega
 have h:=b8 (dst:=dst) (ty:=ty) (pos:=pos) (af:=af) (gd:=gd) (d:=d) (own:=own) hT ht hs he hx (l:=l.length) (xs:=l.flatMap (chC fo fs)) (by rfl) hy hn (by
  intro h0;have:=sB (fo:=fo) (fs:=fs) l;rw[h0]at this;simp at this;omega)
 rw[hj,Aw l n.toNat hi]at h;have e1:l.getD n.toNat 0=l[n.toNat]:=by simp[List.getD,hi]
 rw[e1];exact h
theorem rO{m:Nat}{l:List Int}{z:Int}(ht:tt T=some i)(hs:i.sh=.sl e)(he:tt e=some j)(hj:j.size=1)(hjb:Nat.ble j.bytes 32=true)(hx:ρ x=.vec m)(hb:own m=some (IB e l))(hy:ρ y=.p (.c (.sl 1 [IC z])))(hfit:l.length<=100000000)(hmd:m≠d) :
  Eff P ⟨dst,.call ⟨.builtin .append,#[x,y],#[T,T]⟩,ty,pos,af,gd⟩ d ρ own (.vec d) [(m,none)] (some (IB e (l++[z]))) [m]:=by
 have hl:(IB e l).cs.length=l.length:=by simp[IB]
 have h:=gI (dst:=dst) (ty:=ty) (pos:=pos) (af:=af) (gd:=gd) hT ht hs he hx hb rfl hj.symm rfl hy (by rfl) (by rw[hj];rfl) (by rw[hj];exact hjb) (by rw[hl,hj];omega) (by rw[hj];rfl) hmd;rw[hj]at h;unfold IB;rw[Vj];exact h
theorem fR{m k:Nat}{l c:List Int}(ht:tt T=some i)(hs:i.sh=.sl e)(he:tt e=some j)(hj:j.size=2)(hjb:Nat.ble j.bytes 64=true)(hx:ρ x=.vec m)(hb:own m=some (CB fo fs e l))(hy:ρ y=.p (.c (.sl k (c.flatMap (chC fo fs)))))(hk:k=c.length)(hfit:l.length+c.length<=100000000)(hmd:m≠d) :
  Eff P ⟨dst,.call ⟨.builtin .append,#[x,y],#[T,T]⟩,ty,pos,af,gd⟩ d ρ own (.vec d) [(m,none)] (some (CB fo fs e (l++c))) [m]:=by
 subst hk;have hl:(CB fo fs e l).cs.length=l.length*2:=sB l;have h:=gI (dst:=dst) (ty:=ty) (pos:=pos) (af:=af) (gd:=gd) hT ht hs he hx hb rfl hj.symm rfl hy (by rfl) (by rw[hj];exact sB c) (by rw[hj];exact hjb) (by rw[hl,hj];omega) (by rw[hj];rfl) hmd;rw[hj]at h;unfold CB;rw[VF];exact h
end
section
variable {P:Program}{B:Bool}{N np:Nat}{Q:Exit->St->Prop}{s:St}{c:Code}
theorem qE{t m:Nat}{l:List Int}{e:TypeId}(ht:s.regs t=.vec m)(hb:s.own m=some (IB e l))(h:AWp P B N np c Q ⟨upd s.regs t (.p (.c (IS l))),upd s.own m none⟩):AWp P B N np c Q s:=by
 refine fe (n:=l.length) ht hb rfl (by simp[IB]) (by show 0<1;omega) ?_;exact h
theorem eI{fo fs:FuncId}{t m:Nat}{l:List Int}{e:TypeId}(ht:s.regs t=.vec m)(hb:s.own m=some (CB fo fs e l))(h:AWp P B N np c Q ⟨upd s.regs t (.p (.c (CS fo fs l))),upd s.own m none⟩):AWp P B N np c Q s:=by
 refine fe (n:=l.length) ht hb rfl (sB l).symm (by show 0<2;omega) ?_;exact h
end
def rmv(p:Int):Nat->Int->Int
 |0,n=>n
 |f+1,n=>if n%p=0 then rmv p f (n/p)else n
def rmp(n p:Int):Int:=rmv p n.toNat n
theorem j6{n p:Int}(hn:0<n)(hp:2<=p)(h:n%p=0):0<n/p∧n/p<n:=by
 have h1:=UC n p;rw[h,Int.add_zero]at h1;have h2:0<n/p:=by
  rcases UY 0 (n/p)with g|g
  ·exact g
  have:p*(n/p)<=p*0:=Up g (by omega);omega
 refine⟨h2,?_⟩;have h3:2*(n/p)<=p*(n/p):=UM hp (by omega);omega
theorem vL{p:Int}(hp:2<=p):∀ (f g:Nat) (n:Int),0<n->n.toNat<=f->n.toNat<=g->rmv p f n=rmv p g n
 |0,_,n,h,h1,_=>by omega
 |f+1,0,n,h,_,h2=>by omega
 |f+1,g+1,n,h,h1,h2=>by
  unfold rmv;split
  ·next e =>
   have hd:=j6 h hp e;exact vL hp f g (n/p) hd.1 (by omega) (by omega)
  rfl
theorem kZ{n p:Int}(hp:2<=p)(hn:0<n)(h:n%p=0):rmp (n/p) p=rmp n p:=by
 have hd:=j6 hn hp h;unfold rmp;obtain⟨k,hk⟩:∃ k,n.toNat=k+1:=⟨n.toNat-1,by omega⟩
 rw[hk];show _=(if n%p=0 then rmv p k (n/p)else n);rw[H2 h];exact vL hp _ _ _ hd.1 (Iv _) (by omega)
theorem mM{n p:Int}(h:n%p≠0):rmp n p=n:=by
 unfold rmp;cases n.toNat with
 |zero=>rfl
 |succ k=>unfold rmv;rw[G2 h]
theorem ji{p:Int}(hp:2<=p):∀ (f:Nat) (n:Int),n.toNat<=f->0<n->0<rmp n p∧rmp n p<=n∧rmp n p%p≠0∧∃ k:Nat,n=rmp n p*p^k
 |0,n,h,h0=>by omega
 |f+1,n,h,h0=>by
  by_cases e:n%p=0
  ·have hd:=j6 h0 hp e;obtain⟨h1,h2,h3,k,h4⟩:=ji hp f (n/p) (by omega) hd.1;rw[kZ hp h0 e]at h1 h2 h3 h4;refine⟨h1,by omega,h3,k+1,?_⟩;have h5:=UC n p;rw[e,Int.add_zero,h4]at h5;rw[<- h5,Int.pow_succ];grind
  rw[mM e];exact⟨h0,XZ _,e,0,by simp⟩
def gGo:Nat->Int->Int->List Int
 |0,_,_=>[]
 |f+1,p,n=>if p*p<=n then(if n%p=0 then p::gGo f (p+2) (rmp n p)else gGo f (p+2) n)else if 1<n then[n]else[]
def mg(n:Int):List Int:=gGo 1200 3 n
def spC(d:Int):List Int:=if d%4≠0 then[]else
 if(-d/4)%8=0 then[-4,8]else if(-d/4)%8=1∨(-d/4)%8=4∨(-d/4)%8=5 then[-4]else if(-d/4)%8=2 then[-8]else if(-d/4)%8=6 then[8]else[]
def chs(d:Int):List Int:=mg (rmp (-d) 2)++spC d
theorem Ds{f:Nat}{p n:Int}(hn:n<=1)(hp:2<=p):gGo f p n=[]:=by
 cases f with
 |zero=>rfl
 |succ f =>
  unfold gGo;have:¬ p*p<=n:=fun h=>by
   have:=Ve hp hp (by omega) (by omega);omega
  rw[G2 this,G2 (by omega)]
structure OcI(n0 n p:Int)(out:List Int):Prop where
 n1:1<=n
 p3:3<=p
 nb:n<=4194304
 nn:n%2=1
 po:p%2=1
 pb:1<n->p<=2051
 eq:∃ f:Nat,(1<n->(f:Int)=1200-(p-3)/2)∧out++gGo f p n=mg n0
 len:out.length<=1200∧(1<n->(out.length:Int)<=(p-3)/2)
theorem OcI.start{n:Int}(h1:1<=n)(hb:n<=4194304)(ho:n%2=1):OcI n n 3 [] :=
 ⟨h1,by omega,hb,ho,by omega,fun _=>by omega,⟨1200,fun _=>by omega,rfl⟩,by simp,fun _=>by simp⟩
section
variable {n0 n p:Int}{out:List Int}
theorem OcI.fin(i:OcI n0 n p out)(h:¬ n>1):out=mg n0:=by
 obtain⟨f,_,e⟩:=i.eq;rw[Ds (by omega) (by have:=i.p3;omega),VD]at e;exact e
theorem OcI.sq(i:OcI n0 n p out)(hn:n>1)(h:p*p<=n):p<=2048:=by
 have:=i.nb;rcases UY 2048 p with g|g
 ·have:=Ve g g (by omega) (by omega);omega
 exact g
theorem OcI.f1(i:OcI n0 n p out)(hn:n>1):∃ f:Nat,((f:Int)+1=1200-(p-3)/2)∧out++gGo (f+1) p n=mg n0:=by
 obtain⟨f,h1,e⟩:=i.eq;have h2:=h1 hn;have hp:=i.pb hn;cases f with
 |zero=>omega
 |succ f=>exact⟨f,by omega,e⟩
theorem OcI.next(i:OcI n0 n p out)(hn:n>1)(h:¬ p*p>n)(hd:n%p≠0):OcI n0 n (p+2) out:=by
 have h':p*p<=n:=by omega
 have hs:=i.sq hn h';obtain⟨f,h1,e⟩:=i.f1 hn;unfold gGo at e;rw[H2 h',G2 hd]at e;have hl:=i.len;have p3:=i.p3;have hl2:=hl.2 hn;exact⟨i.n1,by omega,i.nb,i.nn,by have:=i.po;omega,fun _=>by omega,⟨f,fun _=>by omega,e⟩,hl.1,fun _=>by omega⟩
theorem sO{n p:Int}(hp:3<=p)(hn:0<n)(ho:n%2=1):rmp n p%2=1:=by
 obtain⟨h1,h2,h3,k,h4⟩:=ji (p:=p) (by omega) n.toNat n (Iv _) hn;rcases(show rmp n p%2=0∨rmp n p%2=1 by omega)with g|g
 ·have:n%2=0:=by rw[h4,Int.mul_emod,g];simp
  omega
 exact g
theorem OcI.take(i:OcI n0 n p out)(hn:n>1)(h:¬ p*p>n)(hd:n%p=0):OcI n0 (rmp n p) (p+2) (out++[p]):=by
 have h':p*p<=n:=by omega
 have hs:=i.sq hn h';obtain⟨f,h1,e⟩:=i.f1 hn;unfold gGo at e;rw[H2 h',H2 hd]at e;have hl:=i.len;have p3:=i.p3;have hl2:=hl.2 hn;obtain⟨r1,r2,r3,_⟩:=ji (p:=p) (by omega) n.toNat n (Iv _) (by omega);have nb:=i.nb;refine⟨by omega,by omega,by omega,sO p3 (by omega) i.nn,by have:=i.po;omega,fun _=>by omega,⟨f,fun _=>by omega,?_⟩,?_,fun _=>?_⟩
 ·rw[Wt];exact e
 ·rw[UB,XU];omega
 rw[UB,XU];omega
theorem OcI.last(i:OcI n0 n p out)(hn:n>1)(h:p*p>n):OcI n0 1 (n+2) (out++[n]):=by
 obtain⟨f,h1,e⟩:=i.f1 hn;unfold gGo at e;rw[G2 (by omega),H2 hn]at e;have hl:=i.len;have hl2:=hl.2 hn;have hp:=i.pb hn;refine⟨by omega,by omega,by omega,by omega,by have:=i.nn;omega,fun x=>by omega,⟨0,fun x=>by omega,?_⟩,?_,fun x=>by omega⟩
 ·show out++[n]++[]=_;rw[VD];exact e
 rw[UB,XU];omega
end
theorem Fc{n:Int}(hn:1<n):rmp n n=1:=by
 have e:n%n=0:=Int.emod_self;have h:=kZ (p:=n) (by omega) (by omega) e;rw[Int.ediv_self (by omega)]at h;rw[<- h];exact mM (by rw[Int.emod_eq_of_lt (by omega) hn];omega)
def sgB(b:Bool):Int:=if b then 1 else -1
def ixV(l:List Int)(x:Int):Int:=if l.findIdx (· == x)<l.length then(l.findIdx (· == x):Nat)else -1
def mq(l:List Int)(x:Int):Bool:=decide (0<=ixV l x)
theorem si{l:List Int}{x:Int}{k:Nat}(h:k<=l.findIdx (· == x))(hk:(k:Int)<l.length)(hne:x≠l.getD k 0):k+1<=l.findIdx (· == x):=by
 rcases Nat.lt_or_eq_of_le h with g|g
 ·exact g
 exfalso;have h1:l.findIdx (· == x)<l.length:=by omega
 have h2:=Xw (w:=h1);simp only[beq_iff_eq]at h2;apply hne;rw[<- h2];simp[List.getD,<- g,show k<l.length by omega]
theorem Dc{l:List Int}{x:Int}{k:Nat}(h:k<=l.findIdx (· == x))(hk:(k:Int)<l.length)(he:x=l.getD k 0):ixV l x=(k:Int):=by
 have hk':k<l.length:=by omega
 have hp:l[k]=x:=by rw[he];simp[List.getD,hk']
 have h1:l.findIdx (· == x)<=k:=by
  rcases Ut k (l.findIdx (· == x))with g|g
  ·have:=Xc g;simp[hp]at this
  exact g
 have e:l.findIdx (· == x)=k:=by omega
 unfold ixV;rw[e,H2 hk']
theorem Dd{l:List Int}{x:Int}{k:Nat}(h:k<=l.findIdx (· == x))(hk:¬ (k:Int)<l.length):ixV l x=-1:=by
 unfold ixV;rw[G2 (by omega)]
theorem Gk{l:List Int}{x:Int}:mq l x=true↔x∈l:=by
 unfold mq ixV;rw[decide_eq_true_iff];have:=Xd (p:=fun y=>y==x) (xs:=l);constructor
 ·intro h;split at h
  ·next g =>
   obtain⟨y,hy,e⟩:=this.1 g;simp only[beq_iff_eq]at e;exact e▸hy
  omega
 intro h;rw[H2 (this.2 ⟨x,h,by simp⟩)];omega
def cv(c n:Int):Int:=if c=-4∨c=8∨c=-8 then sgB (mq (spR c) (n%8))else kr n c
theorem Ic{c n:Int}(h:c=-4∨c=8∨c=-8):sgB (mq (spR c) (n%8))=cv c n:=by unfold cv;rw[H2 h]
theorem mY{c n:Int}(h:¬ (c=-4∨c=8∨c=-8)):kr n c=cv c n:=by unfold cv;rw[G2 h]
theorem QD{b:Bool}(h:b=true):(1:Int)=sgB b:=by rw[h];rfl
theorem QE{b:Bool}(h:b=false):(-1:Int)=sgB b:=by rw[h];rfl
theorem Ka{fo fs:FuncId}{p:Int}(h:3<=p)(ho:p%2=1):[IC p,DV.fn fo [.ip [IC p]]]=chC fo fs p:=by
 unfold chC chF;rw[G2 (by omega)]
theorem TL(a b:Int):Int.gcd b (a.tmod b)=Int.gcd a b:=by
 have h1:(a.tmod b).natAbs=a.natAbs%b.natAbs:=Xk a b;unfold Int.gcd;rw[h1,X7 b.natAbs,<- Nat.gcd_rec,X7]
def ocM(n p:Int):Nat:=if 1<n then(5000-p).toNat else 0
def RI(n p q:Int)(out out':List Int):Prop:=(q=n∧p*p>n∧out'=out++[n])∨(q=p∧¬ p*p>n∧n%p=0∧out'=out++[p])∨(q=p∧¬ p*p>n∧n%p≠0∧out'=out)
def QI(n p q:Int):Prop:=(q=n∧p*p>n)∨(q=p∧¬ p*p>n)
section
variable {n0 n p q:Int}{out out':List Int}
theorem OcI.q3(i:OcI n0 n p out)(hn:n>1)(h:QI n p q):3<=q∧q%2=1∧q<=4194304:=by
 have h1:=i.nn;have h2:=i.po;have h3:=i.p3;have h4:=i.nb;have h5:=i.pb hn;rcases h with⟨rfl,_⟩|⟨rfl,_⟩
 ·omega
 omega
theorem QI.yes(h:QI n p q)(hd:n%q=0):RI n p q out (out++[q]):=by
 rcases h with⟨rfl,g⟩|⟨rfl,g⟩
 ·exact .inl ⟨rfl,g,rfl⟩
 exact .inr (.inl ⟨rfl,g,hd,rfl⟩)
theorem QI.no(h:QI n p q)(hn:n>1)(hd:n%q≠0):RI n p q out out:=by
 rcases h with⟨rfl,g⟩|⟨rfl,g⟩
 ·exact absurd Int.emod_self hd
 exact .inr (.inr ⟨rfl,g,hd,rfl⟩)
theorem OcI.close(i:OcI n0 n p out)(hn:n>1)(h:RI n p q out out'):OcI n0 (rmp n q) (q+2) out'∧ocM (rmp n q) (q+2)<ocM n p:=by
 have hp:=i.pb hn;have e1:ocM n p=(5000-p).toNat:=by unfold ocM;rw[H2 (by omega)]
 rcases h with⟨rfl,g,rfl⟩|⟨rfl,g,hd,rfl⟩|⟨rfl,g,hd,rfl⟩
 ·rw[Fc (by omega)];refine⟨i.last hn g,?_⟩;rw[e1];unfold ocM;rw[G2 (by omega)];omega
 ·refine⟨i.take hn g hd,?_⟩;rw[e1];unfold ocM;split <;> omega
 rw[mM hd];refine⟨i.next hn g hd,?_⟩;rw[e1];unfold ocM;rw[H2 (by omega)];omega
end
theorem Qu{d:Int}(h:d.tmod 4≠0):spC d=[]:=by
 unfold spC;rw[H2];intro e;exact h (by rw[Int.tmod_eq_emod];split <;> omega)
theorem rz{d:Int}(h:d.tmod 4=0):¬ d%4≠0:=fun e=>by
 have:=Int.mul_tdiv_add_tmod d 4;omega
theorem Sr{d:Int}(h:d.tmod 4≠0):mg (rmp (-d) 2)=chs d:=by unfold chs;rw[Qu h,VD]
theorem qg{d:Int}{l:List Int}(_h:d.tmod 4=0)(e:l=spC d):mg (rmp (-d) 2)++l=chs d:=by unfold chs;rw[e]
section
variable {d:Int}(h:d.tmod 4=0)
include h
theorem Qy(h1:-d/4%8=0):[-4,8]=spC d:=by unfold spC;rw[G2 (rz h),H2 h1]
theorem AQ(h0:¬ -d/4%8=0)(h1:-d/4%8=1∨-d/4%8=4∨-d/4%8=5):[-4]=spC d:=by unfold spC;rw[G2 (rz h),G2 h0,H2 h1]
theorem Qx(h1:-d/4%8=2):[-8]=spC d:=by unfold spC;rw[G2 (rz h),G2 (by omega),G2 (by omega),H2 h1]
theorem Qw(h1:-d/4%8=6):[8]=spC d:=by unfold spC;rw[G2 (rz h),G2 (by omega),G2 (by omega),G2 (by omega),H2 h1]
theorem Qv(h0:¬ -d/4%8=0)(h1:¬ -d/4%8=1)(h4:¬ -d/4%8=4)(h5:¬ -d/4%8=5)(h2:¬ -d/4%8=2)(h6:¬ -d/4%8=6):mg (rmp (-d) 2)=chs d:=by
 have:spC d=[]:=by
  unfold spC;rw[G2 (rz h),G2 h0,G2 (by omega),G2 h2,G2 h6]
 unfold chs;rw[this,VD]
end
theorem JN{n p:Int}(hp:3<=p)(hn:0<n)(h:n%p=0):3*rmp n p<=n:=by
 have hd:=j6 hn (by omega) h;obtain⟨h1,h2,_,_⟩:=ji (p:=p) (by omega) (n/p).toNat (n/p) (Iv _) hd.1;rw[kZ (by omega) hn h]at h1 h2;have h3:=UC n p;rw[h,Int.add_zero]at h3;have h4:3*(n/p)<=p*(n/p):=UM hp (by omega);omega
theorem Bs:∀ (f:Nat) (p n:Int),3<=p->1<=n->n%2=1->(3:Int)^(gGo f p n).length<=n
 |0,p,n,_,hn,_=>by simpa[gGo]using hn
 |f+1,p,n,hp,hn,ho=>by
  unfold gGo;split
  ·split
   ·next h =>
    obtain⟨r1,_,_,_⟩:=ji (p:=p) (by omega) n.toNat n (Iv _) (by omega);have ih:=Bs f (p+2) (rmp n p) (by omega) (by omega) (sO hp (by omega) ho);have h3:=JN hp (by omega) h;rw[U5,Int.pow_succ];omega
   exact Bs f (p+2) n (by omega) hn ho
  split
  ·show(3:Int)^1<=n;omega
  show(3:Int)^0<=n;omega
theorem SY{n:Int}(h:0<n):0<rmp n 2∧rmp n 2<=n∧rmp n 2%2=1:=by
 obtain⟨h1,h2,h3,_⟩:=ji (p:=2) (by omega) n.toNat n (Iv _) h;exact⟨h1,h2,by omega⟩
theorem qh{d:Int}(h0:d<0)(h1:-4194304<=d):(chs d).length<=16:=by
 obtain⟨r1,r2,r3⟩:=SY (n:=-d) (by omega);have h3:=Bs 1200 3 (rmp (-d) 2) (by omega) (by omega) r3;have hl:(mg (rmp (-d) 2)).length<=14:=by
  have e:(mg (rmp (-d) 2))=gGo 1200 3 (rmp (-d) 2):=rfl;rw[e];rcases Ut 14 (gGo 1200 3 (rmp (-d) 2)).length with g|g
  ·have h4:(3:Nat)^15<=3^(gGo 1200 3 (rmp (-d) 2)).length:=UZ (by omega) g;have h5:((3^(gGo 1200 3 (rmp (-d) 2)).length:Nat):Int)<=rmp (-d) 2:=by rw[Int.natCast_pow];exact h3
   omega
  exact g
 have hs:(spC d).length<=2:=by
  unfold spC;split
  ·simp
  split
  ·simp
  split
  ·simp
  split
  ·simp
  split <;> simp
 unfold chs;rw[UB];omega
def gnV(d:Int):Int:=if szE d=0 then d else 0
theorem OZ{d:Int}(h:0<=d∨d%4>1):AV.t [PE 0,PE 5]=.t [PE (gnV d),PE (szE d)]:=by
 have e:szE d=5:=by unfold szE;rw[H2 h]
 unfold gnV;rw[e];rfl
theorem O0{d:Int}(h:¬ (0<=d∨d%4>1))(h1:-d>4194304):AV.t [PE 0,PE 2]=.t [PE (gnV d),PE (szE d)]:=by
 have e:szE d=2:=by unfold szE;rw[G2 h,H2 h1]
 unfold gnV;rw[e];rfl
theorem Tk{d:Int}(h:¬ (0<=d∨d%4>1))(h1:¬ -d>4194304):AV.t [PE d,PE 0]=.t [PE (gnV d),PE (szE d)]:=by
 have e:szE d=0:=by unfold szE;rw[G2 h,G2 h1]
 unfold gnV;rw[e];rfl
theorem nF{d:Int}(h:szE d=0):gnV d=d∧d<0∧-4194304<=d:=by
 have:=u5 h;exact⟨by unfold gnV;rw[H2 h],by omega,by omega⟩
def chE(d:Int):List Int:=if szE d=0 then chs d else[]
theorem Ie{d:Int}(h:szE d=0):chE d=chs d:=by unfold chE;rw[H2 h]
theorem Su{d:Int}(h:¬ szE d=0):chE d=[]:=by unfold chE;rw[G2 h]
theorem tK{l:List Int}{k:Nat}(h:(k:Int)<l.length):l.take k++[l.getD k 0]=l.take (k+1):=by
 have hk:k<l.length:=by omega
 rw[VI,Fl hk];simp[List.getD,hk]
theorem vx{l:List Int}{k:Nat}(h:¬ (k:Int)<l.length):l.take k=l:=VA (by omega)
def gnN(d:Int):Int:=if szE d=0 then 2^((chs d).length-1)else 0
theorem RV{d:Int}(h:¬ szE d=0):AV.t [PE 0,PE (szE d)]=.t [PE (gnN d),PE (szE d)]:=by unfold gnN;rw[G2 h]
theorem RW{d:Int}(h:szE d=0):AV.t [PE (2^((chs d).length-1)),PE 0]=.t [PE (gnN d),PE (szE d)]:=by unfold gnN;rw[H2 h,h]
theorem QB{l:Nat}(h:l<=16):(.i64:IntKind).wrap (1*2^(min (if(l:Int)-1>0 then(l:Int)-1 else(0:Int)).toNat (IntKind.i64.bits)))=2^(l-1):=by
 have key:∀ k:Fin 17,(.i64:IntKind).wrap (1*2^(min (if((k.val:Nat):Int)-1>0 then((k.val:Nat):Int)-1 else(0:Int)).toNat (IntKind.i64.bits)))=2^(k.val-1):=by decide +kernel
 exact key ⟨l,by omega⟩
def ggV:Nat->Int->Int->Int
 |0,a,_=>a
 |f+1,a,b=>if b=0 then a else ggV f b (a.tmod b)
def gg(a b:Int):Int:=ggV (b.natAbs+1) a b
theorem zQ:∀ (f:Nat) (a b:Int),b.natAbs<f->(ggV f a b).natAbs=Int.gcd a b
 |0,_,_,h=>by omega
 |f+1,a,b,h=>by
  unfold ggV;split
  ·next e=>subst e;simp
  next e =>
  have h1:(a.tmod b).natAbs=a.natAbs%b.natAbs:=Xk a b;have h2:a.natAbs%b.natAbs<b.natAbs:=Vc _ (by omega);rw[zQ f b (a.tmod b) (by omega),TL]
theorem xh:∀ (f g:Nat) (a b:Int),b.natAbs<f->b.natAbs<g->ggV f a b=ggV g a b
 |0,_,_,_,h,_=>by omega
 |_+1,0,_,_,_,h=>by omega
 |f+1,g+1,a,b,h,h'=>by
  unfold ggV;split
  ·rfl
  next e =>
  have h1:(a.tmod b).natAbs=a.natAbs%b.natAbs:=Xk a b;have h2:a.natAbs%b.natAbs<b.natAbs:=Vc _ (by omega);exact xh f g b (a.tmod b) (by omega) (by omega)
theorem lJ(a b:Int):(gg a b).natAbs=Int.gcd a b:=zQ _ a b (by omega)
theorem Tx{a b:Int}(h:b=0):gg a b=a:=by unfold gg ggV;rw[H2 h]
theorem Lg{a b:Int}(h:b≠0):gg b (a.tmod b)=gg a b:=by
 have h1:(a.tmod b).natAbs=a.natAbs%b.natAbs:=Xk a b;have h2:a.natAbs%b.natAbs<b.natAbs:=Vc _ (by omega);unfold gg;rw[xh _ b.natAbs b (a.tmod b) (by omega) (by omega)];show _=(if b=0 then a else ggV b.natAbs b (a.tmod b));rw[G2 h]
theorem gg_one{a b:Int}:Int.gcd a b=1↔gg a b=1∨gg a b=-1:=by have:=lJ a b;omega
theorem Nq{a b:Int}(_ha:aH a)(hb:aH b)(h:b≠0):aH (a.tmod b)∧(a.tmod b).natAbs<b.natAbs:=by
 have h1:(a.tmod b).natAbs=a.natAbs%b.natAbs:=Xk a b;have h2:a.natAbs%b.natAbs<b.natAbs:=Vc _ (by omega);unfold aH at *;omega
def gpE(f:Fm):Int:=if ck f.a f.b f.c≠0 then ck f.a f.b f.c else if szE (dsc f.a f.b f.c)≠0 then szE (dsc f.a f.b f.c)else if prim f.a f.b f.c=true then 0 else 80
theorem Dp{f:Fm}(h:gpE f=0):Cl (dsc f.a f.b f.c) f∧szE (dsc f.a f.b f.c)=0:=by
 unfold gpE at h;split at h
 ·next g=>exact absurd h g
 next g1 =>
 split at h
 ·next g=>exact absurd h g
 next g2 =>
 split at h
 ·next g3 =>
  have e1:ck f.a f.b f.c=0:=Classical.not_not.1 g1;have e2:szE (dsc f.a f.b f.c)=0:=Classical.not_not.1 g2;refine⟨lx ?_,e2⟩;unfold rfE;have:=(u5 e2)
  rw[G2 (fun x=>x e1),G2 (by omega),H2 g3]
 cases h
def gpV(f:Fm):Int:=if gpE f=0 then dsc f.a f.b f.c else 0
theorem xL{d:Int}{f:Fm}(h:Cl d f)(_hd:-4194304<=d)(hE:szE d=0):gpE f=0:=by
 have h1:=lN h;unfold rfE at h1;unfold gpE;rw[h.disc,hE];split at h1
 ·next g=>exact absurd h1 g
 next g=>rw[G2 g,G2 (by simp),H2 h.prim]
theorem gb{a b c x y:Int}(ha:0<=a∧a<=2000)(hb:-2000<=b∧b<=2000)(hc:0<=c∧c<=1400000)(hx:0<=x∧x<=1400001)(hy:0<=y∧y<=1400001) :
  (0<=a*x∧a*x<=2800002000)∧(0<=a*x*x∧a*x*x<=3920005600002000)∧(-2800002000<=b*x∧b*x<=2800002000)∧(-3920005600002000<=b*x*y∧b*x*y<=3920005600002000)∧(0<=c*y∧c*y<=1960001400000)∧(0<=c*y*y∧c*y*y<=2744003920001400000):=by
 have m1:∀ {u v A B:Int},0<=u->u<=A->0<=v->v<=B->0<=u*v∧u*v<=A*B:=fun h1 h2 h3 h4=>⟨Vd h1 h3,Ve h2 h4 h3 (by omega)⟩
 have a1:=m1 ha.1 ha.2 hx.1 hx.2;have a2:=m1 a1.1 a1.2 hx.1 hx.2;have c1:=m1 hc.1 hc.2 hy.1 hy.2;have c2:=m1 c1.1 c1.2 hy.1 hy.2;have nb:∀ {u v A B:Int},-A<=u->u<=A->0<=v->v<=B->0<=A->-(A*B)<=u*v∧u*v<=A*B:=fun{u v A B} h1 h2 h3 h4 h5=>by
  rcases UY u 0 with g|g
  ·have:=m1 (show 0<=-u by omega) (show -u<=A by omega) h3 h4;rw[Ww]at this;have:=Vd h5 (show 0<=B by omega);omega
  have:=m1 g h2 h3 h4;have:=Vd h5 (show 0<=B by omega);omega
 have b1:=nb (u:=b) (v:=x) (A:=2000) (B:=1400001) (by omega) hb.2 hx.1 hx.2 (by omega);have b2:=nb (u:=b*x) (v:=y) (A:=2800002000) (B:=1400001) (by omega) (by omega) hy.1 hy.2 (by omega);refine⟨by omega,by omega,by omega,by omega,by omega,by omega⟩
theorem qJ{d:Int}{g:Fm}(hg:Cl d g)(e:g.rd=g)(hd:-4194304<=d):(0<g.a∧g.a<=2000)∧(-2000<=g.b∧g.b<=2000)∧0<g.c∧g.c<=1400000:=by
 have hr:Rd g:=e▸hg.rd_Rd;have h1:=hr.a;have h2:=hr.b;have h3:=hr.c;have hdd:g.b*g.b-4*g.a*g.c=d:=hg.disc;rw[UG]at hdd;have hb:g.b*g.b<=g.a*g.a:=fx (by omega);have hac:g.a*g.a<=g.a*g.c:=Up h3 (by omega);have ha:g.a<=2000:=by
  rcases UY 2000 g.a with g0|g0
  ·have:=Ve g0 g0 (by omega) (by omega);omega
  exact g0
 have hc1:1*g.c<=g.a*g.c:=UM (by omega) (by omega);exact⟨⟨h1,ha⟩,by omega,by omega,by omega⟩
def NoP(g:Fm)(d:Int)(y:Int):Prop:=∀ u v:Int,0<=u->0<=v->u<y->v<y->Int.gcd (vl g.a g.b g.c u v) (2*d)≠1
def NoX(g:Fm)(d:Int)(y x:Int):Prop:=∀ u:Int,0<=u->u<x->Int.gcd (vl g.a g.b g.c u y) (2*d)≠1∧Int.gcd (vl g.a g.b g.c y u) (2*d)≠1
def RpN(g:Fm)(N:Int):Prop:=∃ u v:Int,N=vl g.a g.b g.c u v
theorem NoP.start{g:Fm}{d:Int}(hd:d<0):NoP g d 1:=fun u v h1 h2 h3 h4=>by
 have e1:u=0:=by omega
 have e2:v=0:=by omega
 subst e1 e2;have:vl g.a g.b g.c 0 0=0:=by unfold vl;simp
 rw[this];show Nat.gcd 0 (2*d).natAbs≠1;rw[Nat.gcd_zero_left];omega
theorem NoX.start{g:Fm}{d y:Int}:NoX g d y 0:=fun u h1 h2=>by omega
theorem NoX.next{g:Fm}{d y x:Int}(h:NoX g d y x)(h1:Int.gcd (vl g.a g.b g.c x y) (2*d)≠1)(h2:Int.gcd (vl g.a g.b g.c y x) (2*d)≠1):NoX g d y (x+1):=fun u g1 g2=>by
 rcases Xf (show u<=x by omega)with q|q
 ·exact h u g1 q
 rw[q];exact⟨h1,h2⟩
theorem NoP.next{g:Fm}{d y:Int}(h:NoP g d y)(h1:NoX g d y (y+1)):NoP g d (y+1):=fun u v g1 g2 g3 g4=>by
 rcases Xf (show u<=y by omega)with q|q
 ·rcases Xf (show v<=y by omega)with q2|q2
  ·exact h u v g1 g2 q q2
  rw[q2];exact(h1 u g1 (by omega)).1
 rw[q];exact(h1 v g2 (by omega)).2
theorem NoP.le{g:Fm}{d y:Int}(h:NoP g d y){B:Int}(hx:∃ x y:Int,0<=x∧x<=B∧0<=y∧y<=B∧Int.gcd (vl g.a g.b g.c x y) (2*d)=1):y<=B:=by
 obtain⟨u,v,h1,h2,h3,h4,h5⟩:=hx;rcases UY B y with q|q
 ·exact absurd h5 (h u v h1 h3 (by omega) (by omega))
 exact q
def fiV(p:Fm->Bool)(l:List Fm):Int:=if l.findIdx p<l.length then(l.findIdx p:Nat)else -1
theorem R2{p:Fm->Bool}:∀ {l:List Fm} {k:Nat},k<=l.findIdx p->(k:Int)<l.length->p (l.getD k ⟨0,0,0⟩)=false->k+1<=l.findIdx p:=by
 intro l k h1 h2 h3;rcases Ut k (l.findIdx p)with h|h
 ·exact h
 have e:l.findIdx p=k:=by omega
 have hk:k<l.length:=by omega
 have hlt:l.findIdx p<l.length:=by omega
 have:=Xw (w:=hlt);have e2:l.getD k ⟨0,0,0⟩=l[l.findIdx p]:=by
  rw[List.getD,Fl hk];simp[e]
 rw[e2,this]at h3;cases h3
theorem Pe{p:Fm->Bool}{l:List Fm}{k:Nat}(h1:k<=l.findIdx p)(h2:(k:Int)<l.length)(h3:p (l.getD k ⟨0,0,0⟩)=true):fiV p l=k:=by
 have hk:k<l.length:=by omega
 have e:l.getD k ⟨0,0,0⟩=l[k]:=by rw[List.getD,Fl hk];rfl
 rw[e]at h3;have h4:l.findIdx p<=k:=by
  rcases Ut k (l.findIdx p)with h|h
  ·have:=Xc h;rw[h3]at this;cases this
  exact h
 have h5:l.findIdx p=k:=by omega
 unfold fiV;rw[h5,H2 hk]
theorem Pf{p:Fm->Bool}{l:List Fm}{k:Nat}(h1:k<=l.findIdx p)(h2:¬ (k:Int)<l.length):fiV p l=-1:=by
 unfold fiV;rw[G2 (by omega)]
theorem Ln{p:Fm->Bool}{l:List Fm}(h:fiV p l=-1):l.filter (fun g=>!p g)=l:=by
 unfold fiV at h;split at h
 ·omega
 next hk =>
 rw[WW];intro g hg;have:=List.findIdx_lt_length_of_exists (xs:=l) (p:=p);cases hp:p g with
 |false=>rfl
 |true=>exact absurd (this ⟨g,hg,hp⟩) hk
theorem Lm{p:Fm->Bool}{l:List Fm}(h:¬ fiV p l=-1):∃ k:Nat,fiV p l=k∧k<l.length∧p (l.getD k ⟨0,0,0⟩)=true∧(l.take k).filter (fun g=>!p g)=l.take k:=by
 unfold fiV at h ⊢;split at h
 ·next hk =>
  refine⟨l.findIdx p,by rw[H2 hk],hk,?_,?_⟩
  ·rw[List.getD,Fl hk];exact Xw
  rw[WW];intro g hg;obtain⟨i,hi,rfl⟩:=List.mem_iff_getElem.1 hg;rw[Us]at hi;rw[List.getElem_take];have:=Xc (p:=p) (xs:=l) (i:=i) (by omega);rw[this];rfl
 exact absurd rfl h
structure DlI(p:Fm->Bool)(l:List Fm)(i j:Nat)(s:List Fm):Prop where
 jl:j<=l.length
 ij:i<j
 sl:s.length=l.length
 tk:s.take i=(l.take j).filter fun g=>!p g
 dr:s.drop j=l.drop j
theorem DlI.start{p:Fm->Bool}{l:List Fm}{k:Nat}(h1:k<l.length)(h2:p (l.getD k ⟨0,0,0⟩)=true)(h3:(l.take k).filter (fun g=>!p g)=l.take k):DlI p l k (k+1) l:=by
 refine⟨h1,by omega,rfl,?_,rfl⟩;rw[lV h1,WM,h3,V9,G2 (by rw[h2];decide)];simp
theorem DlI.get{p:Fm->Bool}{l s:List Fm}{i j:Nat}(h:DlI p l i j s):s.getD j ⟨0,0,0⟩=l.getD j ⟨0,0,0⟩:=by
 have h1:=Ur (fun x=>x.getD 0 ⟨0,0,0⟩) h.dr;simpa[List.getD]using h1
theorem DlI.no{p:Fm->Bool}{l s:List Fm}{i j:Nat}(h:DlI p l i j s)(hj:(j:Int)<l.length)(hp:p (l.getD j ⟨0,0,0⟩)=true):DlI p l i (j+1) s:=by
 have hj':j<l.length:=by omega
 refine⟨hj',by have:=h.ij;omega,h.sl,?_,?_⟩
 ·rw[lV hj',WM,V9,G2 (by rw[hp];decide),h.tk];simp
 have:=Ur (List.drop 1) h.dr;simpa[List.drop_drop]using this
theorem DlI.yes{p:Fm->Bool}{l s:List Fm}{i j:Nat}(h:DlI p l i j s)(hj:(j:Int)<l.length)(hp:p (l.getD j ⟨0,0,0⟩)=false):DlI p l (i+1) (j+1) (s.set i (l.getD j ⟨0,0,0⟩)):=by
 have hj':j<l.length:=by omega
 have hij:=h.ij;have hsl:=h.sl;refine⟨hj',by omega,by rw[UL];exact hsl,?_,?_⟩
 ·rw[lV hj',WM,V9,H2 (by rw[hp];decide),<- h.tk];rw[lV (by rw[UL];omega)]
  congr 1
  ·rw[List.take_set_of_le (Iv i)]
  simp[List.getD,show i<s.length by omega]
 rw[XF (by omega)];have:=Ur (List.drop 1) h.dr;simpa[List.drop_drop]using this
theorem DlI.fin{p:Fm->Bool}{l s:List Fm}{i j:Nat}(h:DlI p l i j s)(hj:¬ (j:Int)<l.length):s.take i=l.filter (fun g=>!p g)∧i<s.length:=by
 have h1:=h.tk;rw[VA (l:=l) (by omega)]at h1;exact⟨h1,by have:=h.ij;have:=h.jl;have:=h.sl;omega⟩
section ops
variable {P:Program}{tt:TT}(hT:bM P tt)
variable {dst:Option Nat}{ty:TypeId}{pos:String}{af:Array Edge}{gd:Option (Nat×Bool)}{d:Nat}{ρ:Operand->AV}{own:Own}
variable {T yT:TypeId}{i:TyI}{x y:Operand}{e:TypeId}{j:TyI}
include hT
theorem CI{l:List Fm}(ht:tt T=some i)(hs:i.sh=.sl e)(hx:ρ x=.p (.c (FsL l)))(hl:0<l.length) :
  Eff P ⟨dst,.binOp .eql T x (.const (.slice none 0 0)) yT,ty,pos,af,gd⟩ d ρ own (.p (.c (.v (.bool false)))) [] none [] :=
 aP fun C h r own' a w hrep _ hw=>by
  have e1:=hrep x (by simp[Op.operands]);rw[hx]at e1;obtain⟨ad,cap,h1,h2,h3⟩:=fZ hw (show DRep h (.sl l.length (l.flatMap FC)) _ from e1);rcases h3 with h3|⟨A,rfl,_⟩
  ·have:=eS l;rw[h3]at this;simp at this;omega
  refine⟨.bool false,?_,jp _ _ _⟩;have e2:a.eval (.const (.slice none 0 0))=.slice none 0 0:=rfl;simp only[execOp,h1,e2,eqGuard_at_slice,Sem.run_bind,Sem.run_pure,Result.andThen_ok,Lib.run_eql_slice_nil w T e _ _ _ 0 0 ((hT T i ht).slice hs),Option.isNone_some]
theorem qp{m:Nat}{fs:List Fm}{be:TypeId}(ht:tt T=some i)(hs:i.sh=.sl e)(hx:ρ x=.vec m)(hb:own m=some (FB be fs)):Eff P ⟨dst,.call ⟨.builtin .len,#[x],#[T]⟩,ty,pos,af,gd⟩ d ρ own (.p (.c (.v (.int .i64 (fs.length:Nat))))) [] none [m] :=
 nu hT ht hs hx hb rfl rfl (eS fs).symm
theorem yf{m:Nat}{l:List Fm}(ht:tt T=some i)(hs:i.sh=.sl e)(he:tt e=some j)(hj:j.size=6)(hjb:Nat.ble j.bytes 192=true)(hx:ρ x=.vec m)(hb:own m=some (FB e []))(hy:ρ y=.p (.c (FsL l)))(hfit:l.length<=100000000)(hmd:m≠d) :
  Eff P ⟨dst,.call ⟨.builtin .append,#[x,y],#[T,T]⟩,ty,pos,af,gd⟩ d ρ own (.vec d) [(m,none)] (some (FB e l)) [m]:=by
 have h:=gI (dst:=dst) (ty:=ty) (pos:=pos) (af:=af) (gd:=gd) (d:=d) hT ht hs he hx hb rfl hj.symm rfl hy (by rfl) (by rw[hj];exact eS l) (by rw[hj];exact hjb) (by rw[hj];show 32*(0+_)<=_;omega) (by rw[hj];rfl) hmd;rw[hj]at h;exact h
end ops
theorem CallM.ren1O{P:Program}{f:FuncId}{args iV:List AV}{b:Blk}{res:AV}(m:Nat)(hc:CallM P f args (upd O 0 (some b)) res O)(hres:men res=[])(ha:iV=args.map (mc fun _=>m)) :
  CallM P f iV (upd O m (some b)) res O:=by
 have z:∀ (b:Blk) (k n:Nat),upd O k (some b) n≠none->n=k:=fun b k n hn=>by
  by_cases e:n=k
  ·exact e
  rw[aj _ _ _ _ e]at hn;exact absurd rfl hn
 exact hc.ren (fun _=>m) hres ha (fun p q hp hq _=>by rw[z _ _ _ hp,z _ _ _ hq]) (fun p hp=>by rw[z _ _ _ hp];simp) (fun n hn=>⟨0,by simp,(z _ _ _ hn).symm⟩) (fun _ _=>rfl) (fun n hn=>absurd rfl hn)
theorem BL{fs:List Fm}{n:Nat}{zs:List DV}(h:zs.length=(fs.length-n)*6)(hn:n<fs.length):fs.length*6=((fs.take n).flatMap FC++zs).length:=by
 rw[UB,eS,Us,h];omega
theorem IA{fs:List Fm}{n:Nat}{zs:List DV}(hn:n<fs.length):((fs.take n).flatMap FC++zs).take (((n:Nat):Int).toNat*6)=(fs.take n).flatMap FC:=by
 rw[Vq];have e:((fs.take n).flatMap FC).length=n*6:=by rw[eS,Us];congr 1;omega
 rw[<- e,List.take_left'];rfl
theorem Pk{fs l:List Fm}{n:Nat}(hn:n<fs.length)(h:fs.take n=l):AV.p (.c (.sl (((n:Nat):Int).toNat) ((fs.take n).flatMap FC)))=.p (.c (FsL l)):=by
 subst h;unfold FsL;rw[Vq,Us,Vu (by omega)]
theorem QN{f g:Fm}(h:rfE g≠0):true = !rtB f g:=by unfold rtB;rw[Ix h];rfl
theorem QM{f g:Fm}{d:Int}(hd:d=dsc f.a f.b f.c)(h:aX (dsc g.a g.b g.c) d≠0):true = !rtB f g:=by
 have h1:¬ dsc g.a g.b g.c=dsc f.a f.b f.c:=fun e=>h (cmpI_eq_zero.2 (by rw[e,hd]))
 unfold rtB;rw[Ix h1,Bool.false_and,X9];rfl
theorem QL{f g w:Fm}{d:Int}(hd:d=dsc f.a f.b f.c)(hw:w=f.rd)(h0:rfE g=0)(h:aX (dsc g.a g.b g.c) d=0):(!decide ((mlt g g).a=w.a∧(mlt g g).b=w.b∧(mlt g g).c=w.c)) = !rtB f g:=by
 have h1:dsc g.a g.b g.c=dsc f.a f.b f.c:=by rw[cmpI_eq_zero.1 h,hd]
 subst hw;unfold rtB;rw[G6 h0,G6 h1,Bool.true_and,Bool.true_and]
 congr 1
 rw[Vg,decide_eq_true_iff,decide_eq_true_iff];exact H9
theorem y9{f:Fm}{l:List Fm}{e:Int}(h:ii f l=e∧kF f l=[]):Sub (.t [.c (.v (.slice none 0 0)),PE e]) (.t [.c (FsL (kF f l)),PE (ii f l)]):=by
 rw[h.1,h.2];exact Sub.tup ⟨DSub.nil_sl,DSub.refl _,trivial⟩
theorem JJ{f:Fm}{l:List Fm}(h:ii f l=0∧kF f l=l.filter (rtB f)):AV.t [.c (FsL (l.filter fun g=>!!rtB f g)),PE 0]=.t [.c (FsL (kF f l)),PE (ii f l)]:=by
 rw[h.1,h.2];simp only[Bool.not_not]
section scope
end scope
theorem bm{x y:Int}{M N:Nat}(hx:x.natAbs<=M)(hy:y.natAbs<=N):(x*y).natAbs<=M*N:=by rw[VZ];exact VJ hx hy
theorem Oo(D i m:Nat):Cl (-szz D) (mkF D i m):=by
 refine⟨Kt D i m,?_,Ku D i m⟩;have h:=(oj D i).2.2.2.2.2.2;unfold mkF;split
 ·exact h
 rw[<- v6 (pik D i) (m:=gO m) (by rw[qZ];rfl)];exact h
theorem Qr(D:Nat):-1000000000000000000<=-szz D∧-szz D<0:=by have:=dj D;omega
theorem to{c:Int}:∀ (f:Nat) (p n:Int),3<=p->p%2=1->1<=n->n%2=1->c∈gGo f p n->3<=c∧c%2=1∧c∣n
 |0,_,_,_,_,_,_,h=>by simp[gGo]at h
 |f+1,p,n,hp,hpo,hn,ho,h=>by
  unfold gGo at h;split at h
  ·split at h
   ·next e =>
    obtain⟨r1,r2,r3,k,r4⟩:=ji (p:=p) (by omega) n.toNat n (Iv _) (by omega);rcases Vh.1 h with h|h
    ·subst h;exact⟨hp,hpo,Wr e⟩
    obtain⟨g1,g2,g3⟩:=to f (p+2) (rmp n p) (by omega) (by omega) (by omega) (sO hp (by omega) ho) h;exact⟨g1,g2,Vr g3 ⟨_,r4⟩⟩
   exact to f (p+2) n (by omega) (by omega) hn ho h
  split at h
  ·next e =>
   rw[U3]at h;subst h;exact⟨by omega,ho,Int.dvd_refl _⟩
  simp at h
theorem nv{d c:Int}(h0:d<0)(h:c∈mg (rmp (-d) 2)):3<=c∧c%2=1∧c∣d:=by
 obtain⟨r1,r2,r3,k,r4⟩:=ji (p:=2) (by omega) (-d).toNat (-d) (Iv _) (by omega);obtain⟨g1,g2,g3⟩:=to 1200 3 (rmp (-d) 2) (by omega) (by omega) (by omega) (by omega) h;refine⟨g1,g2,?_⟩;have:c ∣ -d:=Vr g3 ⟨_,r4⟩;exact Int.dvd_neg.1 this
theorem pn{d c:Int}(h:c∈spC d):d%4=0∧((c=-4∧((-d/4)%8=0∨(-d/4)%8=1∨(-d/4)%8=4∨(-d/4)%8=5))∨(c=8∧((-d/4)%8=0∨(-d/4)%8=6))∨(c=-8∧(-d/4)%8=2)):=by
 unfold spC at h;split at h
 ·simp at h
 next h4 =>
 refine⟨Classical.not_not.1 h4,?_⟩;split at h
 ·next e=>simp only[List.mem_cons,List.not_mem_nil,or_false]at h;rcases h with rfl|rfl <;> simp[e]
 split at h
 ·next e=>simp only[List.mem_cons,List.not_mem_nil,or_false]at h;subst h;left;exact⟨rfl,.inr e⟩
 split at h
 ·next e=>simp only[List.mem_cons,List.not_mem_nil,or_false]at h;subst h;right;right;exact⟨rfl,e⟩
 split at h
 ·next e=>simp only[List.mem_cons,List.not_mem_nil,or_false]at h;subst h;right;left;exact⟨rfl,.inr e⟩
 simp at h
def spv(c r:Int):Int:=sgB (mq (spR c) r)
theorem jH{c n:Int}(h:c=-4∨c=8∨c=-8):cv c n=spv c (n%8):=(Ic h).symm
theorem Jr:∀ (r s:Fin 8),r.val%2=1->s.val%2=1 ->
  (spv (-4) (r.val*s.val%8)=spv (-4) r.val*spv (-4) s.val)∧(spv 8 (r.val*s.val%8)=spv 8 r.val*spv 8 s.val)∧(spv (-8) (r.val*s.val%8)=spv (-8) r.val*spv (-8) s.val):=by decide +kernel
theorem nK(n:Int):∃ r:Fin 8,n%8=(r.val:Int):=⟨⟨(n%8).toNat,by omega⟩,by show n%8=(((n%8).toNat:Nat):Int);omega⟩
theorem Pn{c m n:Int}(hc:(c=-4∨c=8∨c=-8)∨(3<=c∧c%2=1))(hm:m%2=1)(hn:n%2=1):cv c (m*n)=cv c m*cv c n:=by
 rcases hc with h|⟨h1,h2⟩
 ·rw[jH h,jH h,jH h];obtain⟨r,er⟩:=nK m;obtain⟨s,es⟩:=nK n;rw[Int.mul_emod,er,es];have k:=Jr r s (by omega) (by omega);rcases h with rfl|rfl|rfl
  ·exact k.1
  ·exact k.2.1
  exact k.2.2
 rw[<- mY (by omega),<- mY (by omega),<- mY (by omega)];exact pP (by omega) h2
theorem Mp(a b c x1 y1 x2 y2:Int):4*(vl a b c x1 y1*vl a b c x2 y2)=(2*a*x1*x2+b*(x1*y2+x2*y1)+2*c*y1*y2)*(2*a*x1*x2+b*(x1*y2+x2*y1)+2*c*y1*y2)-(b*b-4*a*c)*((x1*y2-x2*y1)*(x1*y2-x2*y1)):=by
 unfold vl;grind
theorem pW{N d:Int}(h:Int.gcd N (2*d)=1):N%2=1:=by
 have h1:Cop N (2*d):=h;have h2:Cop (2*d) N:=h1.symm;have h3:Cop 2 N:=h2.left;have h4:Cop N 2:=h3.symm;rcases(show N%2=0∨N%2=1 by omega)with g|g
 ·exfalso;have hd:(2:Int)∣N:=Wr g;have h5:Int.gcd N 2=1:=h4;have h6:=Ya hd (Int.dvd_refl 2);rw[h5]at h6;exact absurd h6 (by decide)
 exact g
theorem tj{N d c:Int}(h:Int.gcd N (2*d)=1)(hc:c∣d):Cop N c:=by
 obtain⟨k,hk⟩:=hc;have h1:Cop N (2*d):=h;have h2:Cop (2*d) N:=h1.symm;have h3:Cop d N:=h2.right;rw[hk]at h3;exact h3.left.symm
theorem Bk{N c:Int}(hc:0<c)(ho:c%2=1)(h:Cop N c):kr N c=1∨kr N c=-1:=by
 rw[nD hc ho,H2 h];exact Ir N
theorem Nx:∀ (r s u v m:Fin 8),r.val%2=1->s.val%2=1->(r.val*s.val%8=(u.val*u.val+m.val*(v.val*v.val))%8) ->
  ((m.val=0∨m.val=1∨m.val=4∨m.val=5)->spv (-4) r.val=spv (-4) s.val)∧((m.val=0∨m.val=6)->spv 8 r.val=spv 8 s.val)∧(m.val=2->spv (-8) r.val=spv (-8) s.val):=by decide +kernel
theorem Po{d:Int}{g:Fm}{c M N:Int}(hd:d<0)(hg:dsc g.a g.b g.c=d)(hM:RpN g M)(hN:RpN g N)(cM:Int.gcd M (2*d)=1)(cN:Int.gcd N (2*d)=1)(hc:c∈chs d):cv c M=cv c N:=by
 obtain⟨x1,y1,rfl⟩:=hM;obtain⟨x2,y2,rfl⟩:=hN;have oM:=pW cM;have oN:=pW cN;have two:=Mp g.a g.b g.c x1 y1 x2 y2;have hdd:g.b*g.b-4*g.a*g.c=d:=hg;rw[hdd]at two;unfold chs at hc;rcases Vi.1 hc with h|h
 ·obtain⟨c3,co,cd⟩:=nv hd h;have cpM:=tj cM cd;have cpN:=tj cN cd;generalize vl g.a g.b g.c x1 y1=M at *;generalize vl g.a g.b g.c x2 y2=N at *;generalize (2*g.a*x1*x2+g.b*(x1*y2+x2*y1)+2*g.c*y1*y2)=U at two;generalize (x1*y2-x2*y1)*(x1*y2-x2*y1)=V at two;have hUU:c∣U*U-4*(M*N):=by
   have e:U*U-4*(M*N)=d*V:=by omega
   rw[e];exact Vr cd ⟨V,rfl⟩
  have c2:Cop 2 c:=tv co;have c4:Cop (2*2) c:=c2.mul c2;have c4MN:Cop (4*(M*N)) c:=c4.mul (cpM.mul cpN);have cUU:Cop (U*U) c:=gL (n:=c) (a:=4*(M*N)) (b:=U*U) (by
   have e:4*(M*N)-U*U=-(U*U-4*(M*N)):=by omega
   rw[e];exact Int.dvd_neg.2 hUU) c4MN
  have k1:kr (U*U) c=1:=C6 (by omega) co cUU.left;have k2:kr (U*U) c=kr (4*(M*N)) c:=C7 (by omega) co hUU;have k3:kr (4*(M*N)) c=kr (2*2) c*(kr M c*kr N c):=by
   rw[show 4*(M*N)=2*2*(M*N) from rfl,pP (a:=2*2) (b:=M*N) (by omega) co,pP (a:=M) (b:=N) (by omega) co]
  have k4:kr (2*2) c=1:=C6 (by omega) co c2;rw[<- mY (by omega),<- mY (by omega)];rw[k1,k3,k4,WP]at k2;rcases Bk (by omega) co cpM with e1|e1 <;> rcases Bk (by omega) co cpN with e2|e2 <;> rw[e1,e2]at k2 <;> rw[e1,e2] <;> omega
 obtain⟨h4,hs⟩:=pn h;have hb:g.b%2=0:=by
  rcases(show g.b%2=0∨g.b%2=1 by omega)with q|q
  ·exact q
  exfalso;obtain⟨t,ht⟩:∃ t,g.b=2*t+1:=⟨g.b/2,by omega⟩
  have e1:g.b*g.b=4*(t*t+t)+1:=by rw[ht];grind
  rw[UG]at hdd;omega
 obtain⟨t,ht⟩:∃ t,g.b=2*t:=⟨g.b/2,by omega⟩
 obtain⟨m,hm⟩:∃ m,d=-(4*m):=⟨-d/4,by omega⟩
 have em:-d/4=m:=by omega
 rw[em]at hs;have eU:2*g.a*x1*x2+g.b*(x1*y2+x2*y1)+2*g.c*y1*y2=2*(g.a*x1*x2+t*(x1*y2+x2*y1)+g.c*y1*y2):=by rw[ht];grind
 rw[eU]at two;generalize vl g.a g.b g.c x1 y1=M at *;generalize vl g.a g.b g.c x2 y2=N at *;generalize g.a*x1*x2+t*(x1*y2+x2*y1)+g.c*y1*y2=U at two;generalize x1*y2-x2*y1=V at two;have eMN:M*N=U*U+m*(V*V):=by
  have e1:2*U*(2*U)=4*(U*U):=by grind
  have e2:d*(V*V)=-(4*(m*(V*V))):=by rw[hm];grind
  omega
 obtain⟨r,er⟩:=nK M;obtain⟨s,es⟩:=nK N;obtain⟨u,eu⟩:=nK U;obtain⟨v,ev⟩:=nK V;obtain⟨q,eq⟩:=nK m;have key:((r.val*s.val:Nat):Int)%8=((u.val*u.val+q.val*(v.val*v.val):Nat):Int)%8:=by
  have h1:(M*N)%8=((r.val*s.val:Nat):Int)%8:=by rw[Int.mul_emod,er,es,V5]
  have h2:(U*U+m*(V*V))%8=((u.val*u.val+q.val*(v.val*v.val):Nat):Int)%8:=by
   obtain⟨U',hU⟩:∃ k,U=8*k+(u.val:Int):=⟨U/8,by omega⟩
   obtain⟨V',hV⟩:∃ k,V=8*k+(v.val:Int):=⟨V/8,by omega⟩
   obtain⟨m',hm'⟩:∃ k,m=8*k+(q.val:Int):=⟨m/8,by omega⟩
   simp only[Int.natCast_add,Int.natCast_mul];generalize (u.val:Int)=u' at hU ⊢;generalize (v.val:Int)=v' at hV ⊢;generalize (q.val:Int)=q' at hm' ⊢;have e:U*U+m*(V*V)=8*(8*U'*U'+2*U'*u'+m'*(V*V)+q'*(8*V'*V'+2*V'*v'))+(u'*u'+q'*(v'*v')):=by rw[hU,hm',hV];grind
   rw[e];generalize 8*U'*U'+2*U'*u'+m'*(V*V)+q'*(8*V'*V'+2*V'*v')=K;generalize u'*u'+q'*(v'*v')=R;omega
  rw[<- h1,eMN,h2]
 have key2:r.val*s.val%8=(u.val*u.val+q.val*(v.val*v.val))%8:=by omega
 have k:=Nx r s u v q (by omega) (by omega) key2;rw[eq]at hs;rcases hs with⟨rfl,h5⟩|⟨rfl,h5⟩|⟨rfl,h5⟩
 ·rw[jH (by simp),jH (by simp),er,es];exact k.1 (by omega)
 ·rw[jH (by simp),jH (by simp),er,es];exact k.2.1 (by omega)
 rw[jH (by simp),jH (by simp),er,es];exact k.2.2 (by omega)
section
variable {f:Fm}
theorem Tj(h:¬ ck f.a f.b f.c=0):AV.t [PE 0,PE (ck f.a f.b f.c)]=.t [PE (gpV f),PE (gpE f)]:=by
 have e:gpE f=ck f.a f.b f.c:=by unfold gpE;rw[H2 h]
 unfold gpV;rw[e,G2 h]
theorem Ti(h:ck f.a f.b f.c=0)(h1:szE (dsc f.a f.b f.c)=0)(h2:prim f.a f.b f.c=false):AV.t [PE 0,PE 80]=.t [PE (gpV f),PE (gpE f)]:=by
 have e:gpE f=80:=by unfold gpE;rw[G2 (fun x=>x h),G2 (fun x=>x h1),G2 (by rw[h2];decide)]
 unfold gpV;rw[e];rfl
theorem Th(h:ck f.a f.b f.c=0)(h1:szE (dsc f.a f.b f.c)=0)(h2:prim f.a f.b f.c=true):AV.t [PE (gnV (dsc f.a f.b f.c)),PE (szE (dsc f.a f.b f.c))]=.t [PE (gpV f),PE (gpE f)]:=by
 have e:gpE f=0:=by unfold gpE;rw[G2 (fun x=>x h),G2 (fun x=>x h1),H2 h2]
 unfold gpV gnV;rw[e,h1]
theorem Tg(h:ck f.a f.b f.c=0)(h1:¬ szE (dsc f.a f.b f.c)=0):AV.t [PE (gnV (dsc f.a f.b f.c)),PE (szE (dsc f.a f.b f.c))]=.t [PE (gpV f),PE (gpE f)]:=by
 have e:gpE f=szE (dsc f.a f.b f.c):=by unfold gpE;rw[G2 (fun x=>x h),H2 h1]
 unfold gpV gnV;rw[e,G2 h1]
end
def gN(f:Fm)(d:Int):Int:=(f.rd.app (cpM f.rd (2*d))).a
theorem sf{d:Int}{f:Fm}(hf:Cl d f)(hd:-4194304<=d)(h0:d<0):RpN f.rd (gN f d)∧Int.gcd (gN f d) (2*d)=1:=by
 have hp:=hf.rd.prim;have h1:=(vi (f:=f.rd) (a:=2*d) hp (by omega) (by omega)).1;exact⟨⟨_,_,rfl⟩,(DJ h1).2⟩
def gvL(f:Fm):List Int:=if gpE f=0 then(chs (dsc f.a f.b f.c)).map (fun c=>cv c (gN f (dsc f.a f.b f.c)))else[]
theorem kC{d N:Int}{f:Fm}(hf:Cl d f)(hd:-4194304<=d)(h0:d<0)(hE:szE d=0)(hN:RpN f.rd N)(cN:Int.gcd N (2*d)=1):(chs d).map (fun c=>cv c N)=gvL f:=by
 unfold gvL;rw[H2 (xL hf hd hE),hf.disc];have hg:=sf hf hd h0;exact Vy fun c hc=>Po h0 hf.rd.disc hN hg.1 cN hg.2 hc
theorem QO{d N:Int}{g:Fm}(hg:Cl d g)(hN:RpN g N)(h0:d<0):0<=N:=by
 obtain⟨x,y,rfl⟩:=hN;have ha:=hg.pos.1;have hd:g.b*g.b-4*g.a*g.c=d:=hg.disc;have e:4*g.a*vl g.a g.b g.c x y=(2*g.a*x+g.b*y)*(2*g.a*x+g.b*y)-d*(y*y):=by rw[<- hd];unfold vl;grind
 have h1:=cz (2*g.a*x+g.b*y);have h2:=Vd (show 0<=-d by omega) (cz y);rw[Ww]at h2;rcases UY (vl g.a g.b g.c x y) 0 with q|q
 ·have h3:4*g.a*vl g.a g.b g.c x y<0:=Int.mul_neg_of_pos_of_neg (by omega) q;omega
 exact q
theorem Ss{d c:Int}(h0:d<0)(hd:-4194304<=d)(h:c∈chs d):-8<=c∧c<=4194304:=by
 unfold chs at h;rcases Vi.1 h with h|h
 ·obtain⟨h1,h2,h3⟩:=nv h0 h;have h4:c ∣ -d:=Int.dvd_neg.2 h3;have:=WJ (by omega) h4;omega
 rcases(pn h).2 with⟨rfl,_⟩|⟨rfl,_⟩|⟨rfl,_⟩ <;> omega
theorem Ps{d:Int}{g:Fm}(hg:Cl d g)(h0:d<0)(hd:-175000<=d):∃ x y:Int,0<=x∧x<=1400000∧0<=y∧y<=1400000∧Int.gcd (vl g.a g.b g.c x y) (2*d)=1:=by
 obtain⟨x,y,h1,h2⟩:=qf hg.prim _ (2*d).natAbs (Iv _) (by omega);exact⟨x,y,by omega,by omega,by omega,by omega,h1⟩
section
variable {P:Program}
variable {dst:Option Nat}{ty:TypeId}{pos:String}{af:Array Edge}{gd:Option (Nat×Bool)}{d:Nat}{ρ:Operand->AV}{own:Own}
theorem Eff.callCh{fo fs:FuncId}{c0 N:Int}{c x:Operand}{tys:Array TypeId}(hx:ρ c=.p (.c (chF fo fs c0)))(hN:ρ x=.p (.c (.v (.int .i64 N))))(h1:ak P fs [.p (.c (.v (.int .i64 N))),.ip [IS (spR c0)]] (.p (.c (.v (.int .i64 (sgB (mq (spR c0) (N%8))))))))(h2:ak P fo [.p (.c (.v (.int .i64 N))),.ip [IC c0]] (.p (.c (.v (.int .i64 (kr N c0)))))) :
  Eff P ⟨dst,.call ⟨.value c,#[x],tys⟩,ty,pos,af,gd⟩ d ρ own (.p (.c (.v (.int .i64 (cv c0 N))))) [] none []:=by
 by_cases h:c0=-4∨c0=8∨c0=-8
 ·rw[<- Ic h];have e:chF fo fs c0=.fn fs ([[IS (spR c0)]].map .ip):=by unfold chF;rw[H2 h];rfl
  rw[e]at hx;exact Eff.callD hx (by simpa[hN]using h1)
 rw[<- mY h];have e:chF fo fs c0=.fn fo ([[IC c0]].map .ip):=by unfold chF;rw[G2 h];rfl
 rw[e]at hx;exact Eff.callD hx (by simpa[hN]using h2)
end
theorem FR{l:List Int}{k:Nat}{N:Int}(h:(k:Int)<l.length):(l.take k).map (fun c=>cv c N)++[cv (l.getD k 0) N]=(l.take (k+1)).map (fun c=>cv c N):=by
 rw[<- tK h,Vj];rfl
theorem gg1{n d:Int}(h:((gg n (2*d)).natAbs:Int)=1):Int.gcd n (2*d)=1:=by rw[<- lJ];omega
theorem O3{n d:Int}(h:((gg n (2*d)).natAbs:Int)≠1):Int.gcd n (2*d)≠1:=by rw[<- lJ];omega
theorem Qn(a b c x y:Int):a*y*y+b*x*y+c*x*x=vl a b c y x:=by unfold vl;grind
theorem RU{f:Fm}(h:¬ gpE f=0):gvL f=[]:=by unfold gvL;rw[G2 h]
theorem O2{n d:Int}(h0:d<0)(hd:-4194304<=d):-9223372036854775808<gg n (2*d)∧gg n (2*d)<=9223372036854775807:=by
 have h1:=lJ n (2*d);have h2:Int.gcd n (2*d)<=(2*d).natAbs:=Wf (by omega) (Wc _ _);omega
theorem uG{l:List Int}{k:Nat}(h:(k:Int)<l.length):l.getD k 0∈l:=by
 have hk:k<l.length:=by omega
 have e:l.getD k 0=l[k]:=by simp[List.getD,hk]
 rw[e];exact WC hk
def gpr(f:Fm):Bool:=decide (gpE f=0) && !mq (gvL f) (-1)
theorem K2(f:Fm):((gvL f).length:Int)<=1000000:=by
 unfold gvL;split
 ·next h =>
  obtain⟨h1,h2⟩:=Dp h;obtain⟨_,h3,h4⟩:=nF h2;rw[Uq];have:=qh h3 h4;omega
 simp
def TC(f:Fm):List DV:=[IC f.a,IC f.b,IC f.c]
def TS(l:List Fm):DV:=.sl l.length (l.flatMap TC)
def TB(e:TypeId)(l:List Fm):Blk:=⟨true,3,e,l.flatMap TC⟩
theorem xX(l:List Fm):(l.flatMap TC).length=l.length*3:=by
 induction l with
 |nil=>rfl
 |cons x l ih=>rw[UP,UB,ih,U5];show 3+_=_;omega
theorem Av:∀ (l:List Fm) (i:Nat) (h:i<l.length),(l.flatMap TC).drop (i*3)=TC l[i]++(l.drop (i+1)).flatMap TC
 |x::l,0,_=>by simp
 |x::l,i+1,h=>by
  have ih:=Av l i (by simpa using h);have e:(i+1)*3=i*3+3:=by omega
  rw[e,UP];show(IC x.a::IC x.b::IC x.c::l.flatMap TC).drop (i*3+3)=_;rw[W6,W6,W6,ih];simp
section
variable {P:Program}{tt:TT}(hT:bM P tt)
variable {dst:Option Nat}{ty:TypeId}{pos:String}{af:Array Edge}{gd:Option (Nat×Bool)}{d:Nat}{ρ:Operand->AV}{own:Own}
variable {T e:TypeId}{i j:TyI}{x y:Operand}
include hT
theorem oq{k:IntKind}{n:Int}{l:List Fm}(ht:tt T=some i)(hs:i.sh=.sl e)(he:tt e=some j)(hj:j.size=3)(hx:ρ x=.p (.c (TS l)))(hy:ρ y=.p (.c (.v (.int k n))))(hn:0<=n∧n<l.length) :
  Eff P ⟨dst,.indexAddr T x y,ty,pos,af,gd⟩ d ρ own (.ip (TC (l.getD n.toNat ⟨0,0,0⟩)++(l.drop (n.toNat+1)).flatMap TC)) [] none []:=by
 have hi:n.toNat<l.length:=by omega
 have h:=b8 (dst:=dst) (ty:=ty) (pos:=pos) (af:=af) (gd:=gd) (d:=d) (own:=own) hT ht hs he hx (l:=l.length) (xs:=l.flatMap TC) (by rfl) hy hn (by
  intro h0;have:=xX l;rw[h0]at this;simp at this;omega)
 rw[hj,Av l n.toNat hi]at h;have e1:l.getD n.toNat ⟨0,0,0⟩=l[n.toNat]:=by simp[List.getD,hi]
 rw[e1];exact h
theorem A4{m:Nat}{l:List Fm}{z:Fm}(ht:tt T=some i)(hs:i.sh=.sl e)(he:tt e=some j)(hj:j.size=3)(hjb:Nat.ble j.bytes 96=true)(hx:ρ x=.vec m)(hb:own m=some (TB e l))(hy:ρ y=.p (.c (.sl 1 (TC z))))(hfit:l.length<=100000000)(hmd:m≠d) :
  Eff P ⟨dst,.call ⟨.builtin .append,#[x,y],#[T,T]⟩,ty,pos,af,gd⟩ d ρ own (.vec d) [(m,none)] (some (TB e (l++[z]))) [m]:=by
 have hl:(TB e l).cs.length=l.length*3:=xX l;have h:=gI (dst:=dst) (ty:=ty) (pos:=pos) (af:=af) (gd:=gd) hT ht hs he hx hb rfl hj.symm rfl hy (by rfl) (by rw[hj];rfl) (by rw[hj];exact hjb) (by rw[hl,hj];omega) (by rw[hj];rfl) hmd;rw[hj]at h;unfold TB;rw[VF];exact h
end
section
variable {P:Program}{B:Bool}{N np:Nat}{Q:Exit->St->Prop}{s:St}{c:Code}
theorem yy{t m:Nat}{l:List Fm}{e:TypeId}(ht:s.regs t=.vec m)(hb:s.own m=some (TB e l))(h:AWp P B N np c Q ⟨upd s.regs t (.p (.c (TS l))),upd s.own m none⟩):AWp P B N np c Q s:=by
 refine fe (n:=l.length) ht hb rfl (xX l).symm (by show 0<3;omega) ?_;exact h
end
def shp(m k:Int):Nat->Fm
 |0=>⟨k,0,m/4/k⟩
 |1=>⟨k,k,(m/k+k)/4⟩
 |_=>⟨(m/k+k)/4,(m/k-k)/2,(m/k+k)/4⟩
def shF(f:FuncId)(m:Int)(j:Nat):DV:=.fn (f+j) [.ip [IC m]]
def okS(m:Int)(f:Fm):Bool:=decide (f.b*f.b-4*f.a*f.c=-m)&&(decide (0<=f.b)&&(decide (f.b<=f.a)&&(decide (f.a<=f.c)&&decide (gg (gg f.a f.b) f.c=1))))
def amR(m k:Int)(j:Nat):List Fm:=((List.range j).map (shp m k)).filter (okS m)
def amG(m:Int):Nat->List Fm
 |0=>[]
 |k+1=>amG m k++amR m ((k:Int)+1) 3
theorem o7{m k:Int}{j:Nat}(h:okS m (shp m k j)=false):amR m k (j+1)=amR m k j:=by
 unfold amR;rw[V7,Vj,WM];simp[h]
theorem Ma{m k:Int}{j:Nat}(h:okS m (shp m k j)=true):amR m k (j+1)=amR m k j++[shp m k j]:=by
 unfold amR;rw[V7,Vj,WM];simp[h]
def cm3(f g:Fm):Int:=if aX f.a g.a≠0 then aX f.a g.a else aX f.b g.b
theorem rA{m k:Int}(hm:0<m∧m<=4194304)(hk:1<=k)(hkk:k*k<=m):k<=m/k∧m/k<=4194304∧k<=2048∧0<=m/4/k∧m/4/k<=4194304:=by
 have h1:k<=m/k:=(Xa (by omega)).2 hkk;have h2:m/k<=m:=XC _ (by omega);have h3:k<=2048:=by
  rcases UY 2048 k with g|g
  ·have:=Ve g g (by omega) (by omega);omega
  exact g
 have h4:m/4/k<=m/4:=XC _ (by omega);have h5:0<=m/4/k:=Xj (by omega) (by omega);exact⟨h1,by omega,h3,h5,by omega⟩
section
variable {P:Program}{tt:TT}(hT:bM P tt)
variable {dst:Option Nat}{ty:TypeId}{pos:String}{af:Array Edge}{gd:Option (Nat×Bool)}{d:Nat}{ρ:Operand->AV}{own:Own}
variable {T e yT:TypeId}{i j:TyI}{x y:Operand}
include hT
theorem JH{f g:Fm}(ht:tt T=some i)(hs:i.sh=.ar 3 e)(he:tt e=some j)(hj:j.sh=.int .i64)(hz:j.size=1){h:Hp}{w:World}{cs es:Array Value}(h1:DReps h (TC f) fun i=>cs[i]?)(h2:DReps h (TC g) fun i=>es[i]?) :
  (Op.equal T (.agg cs) (.agg es)).run P w=.ok (decide (f=g)) w:=by
 have hu:=(hT T i ht).array hs;have hue:=(hT e j he).int hj;obtain⟨ti,k1,k2,_⟩:=(hT e j he).info;have hc:P.cellsOf e=1:=by
  have:P.cellsOf e=ti.size:=by unfold Program.cellsOf;rw[k1];rfl
  rw[this,k2,hz]
 have p1:∀ {off:Nat} {z:Int},(TC f)[off]?=some (IC z)->(part e cs off).run P w=.ok (.int .i64 z) w:=fun{off z} hh=>by
  obtain⟨v,hv1,hv2⟩:=wc (w:=w) (hT e j he) (by rw[hj];rfl) h1 hh;simp only[IC]at hv2;rw[hv1,hv2.1]
 have p2:∀ {off:Nat} {z:Int},(TC g)[off]?=some (IC z)->(part e es off).run P w=.ok (.int .i64 z) w:=fun{off z} hh=>by
  obtain⟨v,hv1,hv2⟩:=wc (w:=w) (hT e j he) (by rw[hj];rfl) h2 hh;simp only[IC]at hv2;rw[hv1,hv2.1]
 unfold Op.equal;have q:=run_equalIn_array (P:=P) (w:=w) 9999 (t:=T) (e:=e) (n:=3) cs es hu k1;refine Eq.trans q ?_;rw[hc];have a0:=p1 (off:=0*1) (z:=f.a) rfl;have a1:=p1 (off:=1*1) (z:=f.b) rfl;have a2:=p1 (off:=2*1) (z:=f.c) rfl;have b0:=p2 (off:=0*1) (z:=g.a) rfl;have b1:=p2 (off:=1*1) (z:=g.b) rfl;have b2:=p2 (off:=2*1) (z:=g.c) rfl;have hr:List.range 3=[0,1,2]:=rfl;have ee:∀ u v:Int,(Op.equalIn 9999 e (.int .i64 u) (.int .i64 v)).run P w=.ok (u==v) w:=fun u v=>run_equalIn_int (w:=w) 9998 e .i64 .i64 u v hue
 rw[hr];simp only[Op.eqItems,Sem.run_bind,a0,b0,Result.andThen_ok,ee];by_cases c0:f.a=g.a
 ·by_cases c1:f.b=g.b
  ·by_cases c2:f.c=g.c
   ·rw[G6 (Fm.ext c0 c1 c2)];simp[c0,c1,c2,Sem.run_bind,a1,a2,b1,b2,ee]
   rw[Ix (fun x=>c2 (by rw[x]))];simp[c0,c1,c2,Sem.run_bind,a1,a2,b1,b2,ee]
  rw[Ix (fun x=>c1 (by rw[x]))];simp[c0,c1,Sem.run_bind,a1,b1,ee]
 rw[Ix (fun x=>c0 (by rw[x]))];simp[c0]
theorem zp{f g:Fm}(ht:tt T=some i)(hs:i.sh=.ar 3 e)(he:tt e=some j)(hj:j.sh=.int .i64)(hz:j.size=1)(hx:ρ x=.p (.a (TC f)))(hy:ρ y=.p (.a (TC g)))(hgt:P.eqGuardType P.depth T=false) :
  Eff P ⟨dst,.binOp .eql T x y yT,ty,pos,af,gd⟩ d ρ own (.p (.c (.v (.bool (decide (f=g)))))) [] none [] :=
 aP fun C h r own' a w hrep _ _=>by
  have e1:=hrep x (by simp[Op.operands]);have e2:=hrep y (by simp[Op.operands]);rw[hx]at e1;rw[hy]at e2;obtain⟨cs,g1,_,g3⟩:=e1;obtain⟨es,k1,_,k3⟩:=e2;refine⟨_,?_,jp _ _ _⟩;have hE:=JH (w:=w) hT ht hs he hj hz g3 k3;simp[execOp,g1,k1,eqGuard,Sem.run_bind,Sem.run_pure,Result.andThen_ok,binOp,hE,hgt]
end
section
variable {P:Program}
variable {dst:Option Nat}{ty:TypeId}{pos:String}{af:Array Edge}{gd:Option (Nat×Bool)}{d:Nat}{ρ:Operand->AV}{own:Own}
theorem Eff.callSh{f:FuncId}{m k:Int}{j:Nat}{c x:Operand}{tys:Array TypeId}(hx:ρ c=.p (.c (shF f m j)))(hk:ρ x=.p (.c (.v (.int .i64 k))))(h:ak P (f+j) [.p (.c (.v (.int .i64 k))),.ip [IC m]] (.p (.a (TC (shp m k j))))) :
  Eff P ⟨dst,.call ⟨.value c,#[x],tys⟩,ty,pos,af,gd⟩ d ρ own (.p (.a (TC (shp m k j)))) [] none [] :=
 Eff.callD (caps:=[[IC m]]) hx (by simpa[hk]using h)
end
theorem NA{f:FuncId}{m:Int}{j:Nat}(hj:(j:Int)<3):([shF f m 0,shF f m 1,shF f m 2].drop ((j:Int).toNat*1))[0]?=some (shF f m j):=by
 rcases(show j=0∨j=1∨j=2 by omega)with rfl|rfl|rfl <;> rfl
theorem Ca{m k:Int}(hm:0<m∧m<=4194304)(hk:1<=k)(hkk:k*k<=m)(j:Nat):(0<=(shp m k j).a∧(shp m k j).a<=4200000)∧(0<=(shp m k j).b∧(shp m k j).b<=4200000)∧0<=(shp m k j).c∧(shp m k j).c<=4200000:=by
 have h:=rA hm hk hkk
 match j with
 |0=>unfold shp;simp only;omega
 |1=>unfold shp;simp only;omega
 |_+2=>unfold shp;simp only;omega
def amS(m:Int):Nat:=fF (fun k=>decide (m<((k:Int)+1)*((k:Int)+1))) 3000 0
theorem o6{m:Int}(hm:0<m∧m<=4194304):m<((amS m:Int)+1)*((amS m:Int)+1)∧∀ k:Nat,k<amS m->((k:Int)+1)*((k:Int)+1)<=m:=by
 have h:=fE (P:=fun k=>decide (m<((k:Int)+1)*((k:Int)+1))) (f:=3000) (n:=0) (m:=2048) (by omega) (by omega) (G6 (by omega));refine⟨dT0 h.1,fun k hk=>?_⟩;rcases UY m (((k:Int)+1)*((k:Int)+1))with g|g
 ·have h2:=fE (P:=fun k=>decide (m<((k:Int)+1)*((k:Int)+1))) (f:=3000) (n:=0) (m:=k) (by omega) (by have:=h.2;unfold amS at hk;omega) (G6 g);unfold amS at hk;omega
 exact g
def amL(m:Int):List Fm:=amG m (amS m)
theorem G4{m:Int}{k:Nat}(hm:0<m∧m<=4194304)(hk:k<=amS m)(h:((k:Int)+1)*((k:Int)+1)<=m):k+1<=amS m:=by
 have:=(o6 hm).1;rcases Nat.lt_or_eq_of_le hk with g|g
 ·exact g
 rw[<- g]at this;omega
theorem L9{m:Int}{k:Nat}(hm:0<m∧m<=4194304)(hk:k<=amS m)(h:¬ ((k:Int)+1)*((k:Int)+1)<=m):k=amS m:=by
 rcases Nat.lt_or_eq_of_le hk with g|g
 ·exact absurd ((o6 hm).2 k g) h
 exact g
theorem Il{m:Int}{k:Nat}(hm:0<m∧m<=4194304)(hk:k<=amS m):IntKind.i64.wrap (((k:Int)+1)*((k:Int)+1))=((k:Int)+1)*((k:Int)+1):=by
 have h:=fE (P:=fun k=>decide (m<((k:Int)+1)*((k:Int)+1))) (f:=3000) (n:=0) (m:=2048) (by omega) (by omega) (G6 (by omega));have h2:k<=2048:=by have:=h.2;unfold amS at hk;omega
 have h3:((k:Int)+1)*((k:Int)+1)<=2049*2049:=Ve (by omega) (by omega) (by omega) (by omega);have h4:0<=((k:Int)+1)*((k:Int)+1):=Vd (by omega) (by omega);rw[iW0 _ (by omega)]
theorem P2{m:Int}(hm:0<m∧m<=4194304){f:Fm}(h:f∈amL m):(0<=f.a∧f.a<=4200000)∧(0<=f.b∧f.b<=4200000)∧0<=f.c∧f.c<=4200000:=by
 have key:∀ n:Nat,n<=amS m->∀ f∈amG m n,(0<=f.a∧f.a<=4200000)∧(0<=f.b∧f.b<=4200000)∧0<=f.c∧f.c<=4200000:=by
  intro n;induction n with
  |zero=>intro _ f h;simp[amG]at h
  |succ n ih =>
   intro hn f h;unfold amG at h;rcases Vi.1 h with h|h
   ·exact ih (by omega) f h
   unfold amR at h;obtain⟨j,_,rfl⟩:=UO.1 (VG.1 h).1;exact Ca hm (by omega) ((o6 hm).2 n (by omega)) j
 exact key _ (Iv _) f h
theorem tD(m:Int):∀ n:Nat,(amG m n).length<=3*n
 |0=>by simp[amG]
 |n+1=>by
  unfold amG;have h:=tD m n;have h2:(amR m ((n:Int)+1) 3).length<=3:=by
   unfold amR;refine UA (WI _ _) ?_;rw[Uq,V2];exact Iv _
  rw[UB];omega
theorem Mb(m k:Int)(j:Nat):(amR m k j).length<=j:=by
 unfold amR;refine UA (WI _ _) ?_;rw[Uq,V2];exact Iv _
theorem AI{l:List Fm}{k:Nat}(h:(k:Int)<l.length):l.take k++[l.getD k ⟨0,0,0⟩]=l.take (k+1):=by
 have hk:k<l.length:=by omega
 rw[VI,Fl hk];simp[List.getD,hk]
theorem Rb{m d:Int}{f:Fm}(hd:d=-m)(h1:f.b*f.b-4*f.a*f.c=d)(h2:0<=f.b)(h3:f.b<=f.a)(h4:f.a<=f.c)(h5:gg (gg f.a f.b) f.c=1):okS m f=true:=by
 unfold okS;rw[G6 (h1.trans hd),G6 h2,G6 h3,G6 h4,G6 h5];rfl
theorem Rh{m d:Int}{f:Fm}(hd:d=-m)(h1:¬ f.b*f.b-4*f.a*f.c=d):okS m f=false:=by
 unfold okS;rw[Ix (fun x=>h1 (x.trans hd.symm))];rfl
theorem Rg{m:Int}{f:Fm}(h:¬ 0<=f.b):okS m f=false:=by unfold okS;rw[Ix h];simp
theorem Rf{m:Int}{f:Fm}(h:¬ f.b<=f.a):okS m f=false:=by unfold okS;rw[Ix h];simp
theorem Re{m:Int}{f:Fm}(h:¬ f.a<=f.c):okS m f=false:=by unfold okS;rw[Ix h];simp
theorem Rc{m:Int}{f:Fm}(h:¬ gg (gg f.a f.b) f.c=1):okS m f=false:=by unfold okS;rw[Ix h];simp
theorem Gs{M N d:Int}(h1:Int.gcd M d=1)(h2:Int.gcd N d=1):Int.gcd (M*N) d=1:=by
 rw[Int.gcd_eq_natAbs_gcd_natAbs]at *;rw[VZ];exact Nat.Coprime.mul_left h1 h2
theorem NH{D:Int}{f:Fm}{N:Int}(hf:Cl D f)(h:RpN f N):RpN f.rd N:=by
 obtain⟨u,v,hv⟩:=h;obtain⟨m,hm,em⟩:=ly hf.pos;have e3:f.rd.app m.adj=f:=by rw[em,lj hm]
 have e4:=BS f.rd m.adj u v;rw[e3]at e4;exact⟨_,_,hv.trans e4⟩
theorem Ks{D:Int}{f g:Fm}{M N:Int}(hf:Cl D f)(hg:Cl D g)(hM:RpN f M)(hN:RpN g N):RpN (mlt f g) (M*N):=by
 obtain⟨x,y,rfl⟩:=hM;obtain⟨z,w,rfl⟩:=hN;exact NH (dR hf hg).1 (wV hf hg (dR hf hg) x y z w)
theorem GS{d c:Int}(h0:d<0)(h:c∈chs d):(c=-4∨c=8∨c=-8)∨(3<=c∧c%2=1):=by
 unfold chs at h;rcases Vi.1 h with h|h
 ·have:=nv h0 h;exact .inr ⟨this.1,this.2.1⟩
 have:=(pn h).2;exact .inl (by omega)
theorem By{d c N:Int}(h0:d<0)(h:c∈chs d)(hN:Int.gcd N (2*d)=1):cv c N=1∨cv c N=-1:=by
 unfold chs at h;rcases Vi.1 h with h|h
 ·have q:=nv h0 h;unfold cv;rw[G2 (by omega)];exact Bk (by omega) q.2.1 (tj hN q.2.2)
 have q:=(pn h).2;unfold cv;rw[H2 (by omega)];unfold sgB;split
 ·exact .inl rfl
 exact .inr rfl
theorem zN{d:Int}{f g:Fm}(hf:Cl d f)(hg:Cl d g)(hd:-4194304<=d)(h0:d<0)(hE:szE d=0) :
  (gvL f).length=(gvL g).length∧(gvL f).length=(gvL (mlt f g)).length∧∀ k:Nat,(k:Int)<(gvL f).length ->
   (gvL (mlt f g)).getD k 0=(gvL f).getD k 0*(gvL g).getD k 0∧((gvL f).getD k 0=1∨(gvL f).getD k 0=-1)∧((gvL g).getD k 0=1∨(gvL g).getD k 0=-1):=by
 have h1:=sf hf hd h0;have h2:=sf hg hd h0;generalize gN f d=M at h1;generalize gN g d=N at h2;have h3:RpN (mlt f g).rd (M*N):=by
  rw[oB hf hg,<- Kr hf hg,<- Kq hf.rd hg];exact Ks hf.rd hg.rd h1.1 h2.1
 have c3:=Gs h1.2 h2.2;rw[<- kC hf hd h0 hE h1.1 h1.2,<- kC hg hd h0 hE h2.1 h2.2,<- kC (gh hf hg) hd h0 hE h3 c3];refine⟨by simp,by simp,fun k hk=>?_⟩;rw[Uq]at hk;have hk':k<(chs d).length:=by omega
 have hm:=WC hk';simp only[List.getD,List.getElem?_map,List.getElem?_eq_getElem hk',Option.map_some,Option.getD_some];exact⟨Pn (GS h0 hm) (pW h1.2) (pW h2.2),By h0 hm h1.2,By h0 hm h2.2⟩
theorem mG(D:Nat):szE (-szz D)=0:=by
 have h:=dj D;unfold szE;rw[G2 (by omega),G2 (by omega)]
theorem Sn{d:Int}{f:Fm}(hf:Cl d f)(h0:d<0)(hd:-175000<=d):gpE f=0->∃ x y:Int,0<=x∧x<=1400000∧0<=y∧y<=1400000∧Int.gcd (vl f.rd.a f.rd.b f.rd.c x y) (2*dsc f.a f.b f.c)=1:=fun _=>by
 rw[hf.disc];exact Ps hf.rd h0 hd
section
variable {D:Int}{f g h:Fm}
theorem rV(hf:Cl D f)(hg:Cl D g):mlt (mlt f g) g.mi=f.rd:=by
 rw[dl hf hg (fT hg),mR hg,dP hf]
theorem s9(hf:Cl D f)(hg:Cl D g)(hh:Cl D h)(e:mlt f h=mlt g h):f.rd=g.rd:=by
 rw[<- rV hf hh,e,rV hg hh]
theorem wD(hf:Cl D f)(hg:Cl D g):mlt (mlt f g) (mlt f g)=mlt (mlt f f) (mlt g g):=by
 have hfg:=gh hf hg;rw[dl hf hg hfg,fS hf hg,<- dl hg hg hf,fS (gh hg hg) hf,<- dl hf hf (gh hg hg)]
theorem Ru(hf:Cl D f):mlt (mlt f f) (mlt f.mi f.mi)=prP D:=by
 rw[<- wD hf (fT hf),mR hf,dP (dZ hf),jA hf]
structure Whole(D:Int)(l:List Fm):Prop where
 nd:l.Nodup
 mem:∀ f,f∈l↔Cl D f∧f.rd=f
theorem Whole.rd{l:List Fm}(w:Whole D l)(hf:Cl D f):f.rd∈l:=(w.mem _).2 ⟨hf.rd,hf.rd_rd⟩
theorem Whole.mlt{l:List Fm}(w:Whole D l)(hf:Cl D f)(hg:Cl D g):mlt f g∈l:=(w.mem _).2 ⟨gh hf hg,oB hf hg⟩
theorem qO{α:Type}[DecidableEq α]:∀ {l m:List α},l.Nodup->(∀ x∈l,x∈m)->l.length<=m.length
 | [],m,_,_=>Uv _
 |x::l,m,hn,hs=>by
  rw[Wu]at hn;have hx:=hs x (Vs ..);have h1:l.length<=(m.erase x).length:=qO hn.2 (fun y hy=>by
   have hne:y≠x:=fun e=>hn.1 (e▸hy)
   exact(List.mem_erase_of_ne hne).2 (hs y (Vv _ hy)))
  have h2:=List.length_erase_of_mem hx;have h3:=List.length_pos_of_mem hx;rw[U5];omega
theorem Dj{α:Type}[DecidableEq α]{l m:List α}(φ:α->α)(hn:l.Nodup)(hs:∀ x∈l,φ x∈m)(hi:∀ x∈l,∀ y∈l,φ x=φ y->x=y):l.length<=m.length:=by
 have h:=qO (l:=l.map φ) (m:=m) ?_ ?_
 ·rwa [Uq]at h
 ·rw[List.Nodup,List.pairwise_map];exact List.Pairwise.imp_of_mem (fun{x y} hx hy hne e=>hne (hi x hx y hy e)) hn
 intro x hx;obtain⟨y,hy,rfl⟩:=UO.1 hx;exact hs y hy
def rtW(l:List Fm)(f:Fm):List Fm:=l.filter fun g=>decide (mlt g g=f.rd)
theorem rtW_mem{l:List Fm}:g∈rtW l f↔g∈l∧mlt g g=f.rd:=by
 unfold rtW;rw[VG,decide_eq_true_iff]
theorem za{l:List Fm}(w:Whole D l)(hf:Cl D f)(hne:rtW l f≠[]):(rtW l f).length=(rtW l (prP D)).length:=by
 refine(Xz _ hne).elim fun g hg=>?_
 obtain⟨g1,g2⟩:=rtW_mem.1 hg;obtain⟨c,r⟩:=(w.mem g).1 g1;have hO:=dZ hf;have eO:=jA hf;refine Nat.le_antisymm ?_ ?_
 ·refine Dj (fun x=>mlt x g.mi) (w.nd.filter _) (fun x hx=>?_) (fun x hx y hy e=>?_)
  ·obtain⟨x1,x2⟩:=rtW_mem.1 hx;obtain⟨cx,rx⟩:=(w.mem x).1 x1;refine rtW_mem.2 ⟨w.mlt cx (fT c),?_⟩;rw[wD cx (fT c),x2,<- g2,Ru c,eO]
  obtain⟨x1,x2⟩:=rtW_mem.1 hx;obtain⟨y1,y2⟩:=rtW_mem.1 hy;obtain⟨cx,rx⟩:=(w.mem x).1 x1;obtain⟨cy,ry⟩:=(w.mem y).1 y1;have:=s9 cx cy (fT c) e
  rwa [rx,ry]at this
 refine Dj (fun x=>mlt x g) (w.nd.filter _) (fun x hx=>?_) (fun x hx y hy e=>?_)
 ·obtain⟨x1,x2⟩:=rtW_mem.1 hx;obtain⟨cx,rx⟩:=(w.mem x).1 x1;refine rtW_mem.2 ⟨w.mlt cx c,?_⟩;rw[wD cx c,x2,g2,eO,k8 hf.rd,hf.rd_rd]
 obtain⟨x1,x2⟩:=rtW_mem.1 hx;obtain⟨y1,y2⟩:=rtW_mem.1 hy;obtain⟨cx,rx⟩:=(w.mem x).1 x1;obtain⟨cy,ry⟩:=(w.mem y).1 y1;have:=s9 cx cy c e
 rwa [rx,ry]at this
theorem JK{l:List Fm}(w:Whole D l)(hf:Cl D f):rtW l (prP D)≠[]:=by
 have hO:=dZ hf;have eO:=jA hf;exact List.ne_nil_of_mem (rtW_mem.2 ⟨(w.mem (prP D)).2 ⟨hO,eO⟩,by rw[dP hO]⟩)
theorem Ord.zpw{o:Nat}(h:Ord D f o)(hf:Cl D f)(n:Int):zpw D f n=prP D↔n%(o:Int)=0:=by
 have key:∀ k:Nat,pw D f.mi k=prP D↔pw D f k=prP D:=by
  intro k;have e:=AY hf k;have c1:=cA hf k;have c2:=cA (fT hf) k;constructor
  ·intro e1;rw[e1,dP c1.1,c1.2]at e;exact e
  intro e1;rw[e1,k8 c2.1,c2.2]at e;exact e
 have hd:n%(o:Int)=0↔o∣n.natAbs:=by
  rw[<- WL];exact⟨Wr,W2⟩
 rw[hd,<- h.iff hf];by_cases hn:n<0
 ·rw[yA n hn,key,show(-n).natAbs=n.natAbs by omega]
 rw[mB n hn]
end
theorem um{n a b:Int}:∀ {k:Nat} {c:Int},c<=b->b<c+k->okF n a b=true->(⟨a,b,(b*b+n)/(4*a)⟩:Fm)∈gR n a k c
 |0,c,h1,h2,_=>by omega
 |k+1,c,h1,h2,h3=>by
  unfold gR;rw[Vi];rcases Xf h1 with g|g
  ·exact .inr (um (by omega) (by omega) h3)
  subst g;rw[H2 h3];exact .inl (U3.2 rfl)
theorem uq{n a b:Int}(hb:-a<=b∧b<=a)(hs:3*a*a<=n)(hk:okF n a b=true):∀ {k:Nat} {c:Int},1<=c->c<=a->a<c+k->(⟨a,b,(b*b+n)/(4*a)⟩:Fm)∈dW n k c
 |0,c,_,h1,h2=>by omega
 |k+1,c,h0,h1,h2=>by
  have hc:3*c*c<=n:=by
   have:c*c<=a*a:=Ve h1 h1 (by omega) (by omega);have e1:3*c*c=3*(c*c):=UG ..;have e2:3*a*a=3*(a*a):=UG ..;omega
  unfold dW;rw[H2 hc,Vi];rcases Xf h1 with g|g
  ·exact .inr (uq hb hs hk (by omega) (by omega) (by omega))
  subst g;exact .inl (um hb.1 (by omega) hk)
theorem qu{n a:Int}:∀ (k:Nat) (b:Int),(gR n a k b).Nodup
 |0,_=>VW
 |k+1,b=>by
  unfold gR;have ih:=qu k (b+1) (n:=n) (a:=a);split
  ·rw[List.singleton_append,Wu];refine⟨fun hm=>?_,ih⟩;obtain⟨b',h1,_,_,h4⟩:=fJ hm;have:=Ur Fm.b h4;simp only at this;omega
  exact ih
theorem qv{n:Int}:∀ (k:Nat) (a:Int),1<=a->(dW n k a).Nodup
 |0,_,_=>VW
 |k+1,a,ha=>by
  unfold dW;split
  ·rw[Xo];refine⟨qu _ _,qv k (a+1) (by omega),fun x hx y hy e=>?_⟩;subst e;obtain⟨b',_,_,_,h4⟩:=fJ hx;have h5:∀ {k:Nat} {c:Int},1<=c->x∈dW n k c->c<=x.a:=by
    intro k;induction k with
    |zero=>intro c _ h;simp[dW]at h
    |succ k ih =>
     intro c hc h;unfold dW at h;split at h
     ·rw[Vi]at h;rcases h with h|h
      ·obtain⟨_,_,_,_,h6⟩:=fJ h;rw[h6];exact XZ _
      have:=ih (by omega) h;omega
     simp at h
   have h6:=h5 (by omega) hy;rw[h4]at h6;simp only at h6;omega
  exact VW
theorem C1(n:Int):(lst n).Nodup:=qv 100 1 (by omega)
theorem Sb{a b c n:Int}(ha:0<a)(h:dsc a b c=-n):(b*b+n)%(4*a)=0∧(b*b+n)/(4*a)=c:=by
 unfold dsc at h;have e:b*b+n=4*a*c:=by omega
 rw[e];exact⟨Int.mul_emod_right ..,U6 _ (by omega)⟩
theorem Rd.sq3{f:Fm}{n:Int}(h:Rd f)(hd:dsc f.a f.b f.c=-n):3*f.a*f.a<=n:=by
 have h1:=h.a;have h2:=h.b;have h3:=h.c;unfold dsc at hd;have e1:4*f.a*f.c=4*(f.a*f.c):=UG ..;have e2:3*f.a*f.a=3*(f.a*f.a):=UG ..;have h4:f.a*f.a<=f.a*f.c:=Up h3 (by omega);have h5:f.b*f.b<=f.a*f.a:=fx (by omega);omega
theorem jr{n:Int}(hn:n<=20000):Whole (-n) (lst n):=by
 refine⟨C1 n,fun f=>⟨fun hm=>?_,fun h=>?_⟩⟩
 ·obtain⟨h1,h2,h3,h4,h5,h6,h7⟩:=zI hm;have hp:f.pos:=⟨by omega,by show dsc _ _ _<0;have h8:1*1<=f.a*f.a:=Ve h1 h1 (by omega) (by omega);have e:3*f.a*f.a=3*(f.a*f.a):=UG ..;omega⟩
  exact⟨⟨hp,h7,h5⟩,fP (Rd.of (by omega) h6) hp⟩
 have hr:Rd f:=h.2▸h.1.rd_Rd;have hd:=h.1.disc;have ha:=hr.a;have hb:=hr.b;obtain⟨e1,e2⟩:=Sb ha hd;have hs:=hr.sq3 hd;have hk:okF n f.a f.b=true:=by
  rw[N6 e1,e2,h.1.prim,Bool.and_true];exact(px h.1.pos).2 ⟨hr.b,hr.c,hr.s⟩
 have ha2:f.a<=100:=by
  rcases UY 100 f.a with g|g
  ·have h3:(101:Int)*101<=f.a*f.a:=Ve (by omega) (by omega) (by omega) (by omega);have e:3*f.a*f.a=3*(f.a*f.a):=UG ..;omega
  exact g
 have hm:=uq (n:=n) (a:=f.a) (b:=f.b) (by omega) hs hk (k:=100) (c:=1) (by omega) (by omega) (by omega);rw[e2]at hm;exact hm
section
variable {d:Int}{f g:Fm}
theorem OT(hf:Cl d f)(hd:-4194304<=d)(h0:d<0)(hE:szE d=0):∀ x∈gvL f,x=1∨x=-1:=by
 have h1:=sf hf hd h0;intro x hx;rw[<- kC hf hd h0 hE h1.1 h1.2]at hx;obtain⟨c,hc,rfl⟩:=UO.1 hx;exact By h0 hc h1.2
theorem pU(hf:Cl d f)(hd:-4194304<=d)(h0:d<0)(hE:szE d=0):gpr f=true↔∀ x∈gvL f,x=1:=by
 have h:=OT hf hd h0 hE;unfold gpr;rw[G6 (xL hf hd hE),Bool.true_and,Bool.not_eq_true',<- Bool.not_eq_true,Gk];constructor
 ·intro h2 x hx;rcases h x hx with q|q
  ·exact q
  exact absurd (q▸hx) h2
 intro h2 hx;have:=h2 _ hx;omega
theorem zO(hf:Cl d f)(hd:-4194304<=d)(h0:d<0)(hE:szE d=0):gpr f=true↔∀ k:Nat,(k:Int)<(gvL f).length->(gvL f).getD k 0=1:=by
 rw[pU hf hd h0 hE];constructor
 ·intro h k hk;exact h _ (uG hk)
 intro h x hx;obtain⟨k,hk,e⟩:=Wx hx;have:=h k (by omega);rw[<- e];simpa[List.getD,hk]using this
theorem Ph{l m:List Int}(h:l.length=m.length)(h2:∀ k:Nat,(k:Int)<l.length->l.getD k 0=m.getD k 0):l=m:=by
 refine List.ext_getElem h fun k h3 h4=>?_
 have:=h2 k (by omega);simpa[List.getD,h3,h4]using this
theorem gv_stay(hf:Cl d f)(hg:Cl d g)(hd:-4194304<=d)(h0:d<0)(hE:szE d=0)(h:gpr g=true):gvL (mlt f g)=gvL f:=by
 obtain⟨n1,n2,n3⟩:=zN hf hg hd h0 hE;refine Ph n2.symm fun k hk=>?_
 have:=(zO hg hd h0 hE).1 h k (by omega);rw[(n3 k (by omega)).1,this,WO]
theorem K1(hf:Cl d f)(hg:Cl d g)(hd:-4194304<=d)(h0:d<0)(hE:szE d=0)(h:gvL f=gvL g):gpr (mlt f g)=true:=by
 obtain⟨n1,n2,n3⟩:=zN hf hg hd h0 hE;refine(zO (gh hf hg) hd h0 hE).2 fun k hk=>?_
 obtain⟨e,p,q⟩:=n3 k (by omega);rw[e,<- h];rcases p with p|p <;> rw[p] <;> rfl
def prW(l:List Fm):List Fm:=l.filter gpr
theorem Dn(hf:Cl d f)(hd:-4194304<=d)(h0:d<0)(hE:szE d=0):gpr (mlt f f)=true:=K1 hf hf hd h0 hE rfl
end
end Go.AM
