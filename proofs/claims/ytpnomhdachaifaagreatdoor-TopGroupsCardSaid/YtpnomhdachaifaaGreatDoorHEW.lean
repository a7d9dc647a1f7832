import Derived.Test.YtpnomhdachaifaaGreatDoorHEB
import Derived.OpenShut
import Derived.ProofKit
import Derived.SizedLaws
import Derived.JoinedOf
import Derived.Carry
import Derived.ChangeSame
import Derived.WideKeyArgs
import Derived.LaidMore
import Derived.Stop.Joined
set_option maxRecDepth 100000
namespace Go.AM
open Go Go.RowKit
inductive Leaf where
 |b|i (k:IntKind)|s
def Leaf.ok(h:Hp):Leaf->Value->Prop
 |.b,v=>∃ x,v=.bool x
 |.i k,v=>∃ n,v=.int k n∧(Lit.int k n).wf=true
 |.s,v=>∃ ws,okW ws∧DRep h (W ws) v
def Leaves(h:Hp):List Leaf->List Value->Prop
 | [],[]=>True
 |l::ls,v::vs=>l.ok h v∧Leaves h ls vs
 |_,_=>False
theorem Leaves.append{h:Hp}:∀ {l l':List Leaf} {c c':List Value},Leaves h l c->Leaves h l' c'->Leaves h (l++l') (c++c')
 | [],_,[],_,_,k=>k
 |_::_,_,_::_,_,q,k=>⟨q.1,q.2.append k⟩
 | [],_,_::_,_,q,_=>q.elim
 |_::_,_,[],_,q,_=>q.elim
theorem mC{H:Type}{P:Program}{e:TypeId}{d:DataW H}{k:Nat}(hk:k∈DataW.weights P e d):∀ (ds:List (DataW H)) (i:Nat),ds[i]?=some d->k∈DataW.weightsAll P e ds
 | [],i,h=>by simp at h
 |d'::ds,i,h=>by
  simp only[DataW.weightsAll,List.mem_append];cases i with
  |zero=>simp at h;subst h;exact .inl hk
  |succ i=>exact .inr (mC hk ds i (by simpa using h))
section
variable {H:Type}(enc:TypeId×Value->H)(P:Program)(w:World)
def jM(t:TypeId)(l:List Leaf):Prop:=∀ (fuel:Nat) (cs:List Value) (x:DataW H×List MemPlace),DataW.trod enc P w 0 (fun _=>true) true fuel t cs=some x->(∀ n∈x.1.weights P t,n<=reachBytes)->Leaves (fun k=>w.heap[k]?) l cs
variable {enc P w}
theorem tY{t:TypeId}{k:IntKind}(ht:P.underlying t=some (.int k)):jM enc P w t [.i k]:=fun fuel cs x h _=>by
 obtain⟨n,rfl,_,hw⟩:=DataW.trod_int ht h;exact⟨⟨n,rfl,hw⟩,trivial⟩
def Fh:Nat->List Leaf->List Leaf
 |0,_=>[]
 |n+1,l=>l++Fh n l
theorem qo{t e:TypeId}{n:Nat}{l:List Leaf}(ht:P.underlying t=some (.array n e))(he:jM enc P w e l)(hc:P.cellsOf e=l.length)(hct:P.cellsOf t=n*l.length):jM enc P w t (Fh n l):=fun fuel cs x h hw=>by
 obtain⟨xs,m,rfl,rfl,hl,hxl,hi⟩:=DataW.trod_array ht h;rw[hc]at hi;rw[hct]at hl;have hwt:∀ (i:Nat) (d:DataW H),(xs.map (·.1))[i]?=some d->∀ k∈DataW.weights P e d,k<=reachBytes:=fun i d hd k hk=>by
  refine hw k ?_;simp only[DataW.weights,ht];exact mC hk _ i hd
 have key:∀ k j,j+k=n->Leaves (fun k=>w.heap[k]?) (Fh k l) (cs.drop (j*l.length)):=by
  intro k;induction k with
  |zero =>
   intro j hj;have:cs.drop (j*l.length)=[]:=List.drop_eq_nil_of_le (by rw[hl,show j=n by omega];exact Iv _);rw[this];trivial
  |succ k ih =>
   intro j hj;have hij:=hi j (by omega);obtain⟨y,hy⟩:∃ y,xs[j]?=some y:=⟨xs[j]'(by omega),Fl (by omega)⟩
   rw[hy]at hij;have hL:=he _ _ _ hij (hwt j y.1 (by simp[hy]));have hr:=ih (j+1) (by omega);have e:cs.drop (j*l.length)=(cs.drop (j*l.length)).take l.length++cs.drop ((j+1)*l.length):=by
    rw[Vt,Xm,<- Xy];exact(Wi _ _).symm
   rw[e];exact hL.append hr
 simpa using key n 0 (by omega)
variable (enc P w) in
def o8(o:Nat)(fs:List Field)(l:List Leaf):Prop:=∀ (m:Nat) (cs:List Value) (xs:List (DataW H×List MemPlace)),xs.length=fs.length ->
 (∀ (i:Nat) (f:Field),fs[i]?=some f->DataW.trod enc P w 0 (fun _=>true) true m f.type ((cs.drop f.offset).take (P.cellsOf f.type))=xs[i]?) ->
 (∀ n∈DataW.weightsEach P (fs.map (·.type)) (xs.map (·.1)),n<=reachBytes)->cs.length=o+l.length->Leaves (fun k=>w.heap[k]?) l (cs.drop o)
theorem A2{o:Nat}:o8 enc P w o [] []:=fun m cs xs _ _ _ hl=>by
 rw[List.drop_eq_nil_of_le (by simp at hl;omega)];trivial
theorem me{o:Nat}{f:Field}{fs:List Field}{l l':List Leaf}(ho:f.offset=o)(hs:jM enc P w f.type l)(hc:P.cellsOf f.type=l.length)(hr:o8 enc P w (o+l.length) fs l'):o8 enc P w o (f::fs) (l++l'):=fun m cs xs hxl hi hw hl=>by
 cases xs with
 |nil=>simp at hxl
 |cons x xs =>
  have h0:=hi 0 f rfl;rw[ho,hc]at h0;have hL:=hs _ _ _ h0 (fun n hn=>hw n (by simp only[List.map_cons,DataW.weightsEach,List.mem_append];exact .inl hn));have hR:=hr m cs xs (by simpa using hxl) (fun i g hg=>hi (i+1) g (by simpa using hg)) (fun n hn=>hw n (by simp only[List.map_cons,DataW.weightsEach,List.mem_append];exact .inr hn)) (by rw[hl,UB];omega);have e:cs.drop o=(cs.drop o).take l.length++cs.drop (o+l.length):=by
   rw[<- Xy];exact(Wi _ _).symm
  rw[e];exact hL.append hR
theorem wg{t:TypeId}{fs:Array Field}{l:List Leaf}(ht:P.underlying t=some (.struct fs))(hf:o8 enc P w 0 fs.toList l)(hc:P.cellsOf t=l.length):jM enc P w t l:=fun fuel cs x h hw=>by
 obtain⟨xs,m,rfl,rfl,hl,hxl,hi⟩:=DataW.trod_struct ht h;have:=hf m cs xs (by simpa using hxl) (fun i f hf=>hi i f (by simpa using hf)) (fun n hn=>hw n (by simp only[DataW.weights,ht];exact hn)) (by rw[hl,hc];omega);simpa using this
end
open Go.WideShapes Go.ChangeShapes
section
variable {H:Type}{enc:TypeId×Value->H}{P:Program}
theorem uT{f:Func}{s:ChangeSpec}{apart fresh handsOn again:Bool}{W W':World}{args:Array Value}{v:Value}{ds gs:List (DataW H)}{before pa pv:List MemPlace}(hW:DataW.Whole enc P f.params.toList s.vars apart W args.toList ds gs before)(hres:∀ (b:Nat) (sp:Nat->Bool) (hd:Bool),DataW.TrodAll enc P W' b sp hd f.resultTypes.toList (v.resultList f.resultTypes.size) (s.fn H (ds++gs)).results [])(hargs:∀ sp:Nat->Bool,(∀ p∈before,sp p.block=true)->DataW.TrodAll enc P W' 0 sp true f.params.toList args.toList (s.fn H (ds++gs)).args pa)(hvars:∀ sp:Nat->Bool,(∀ p∈before,sp p.block=true)->DataW.TrodVars enc P W' sp s.vars (s.fn H (ds++gs)).vars pv)(hps:before=pa++pv)(hb:Below W.heap.size W W')(hok:∀ (j:Nat) (t:TypeId) (r:Value),f.resultTypes[j]?=some t->(v.resultList f.resultTypes.size)[j]?=some r->Value.okWide P W' .any 0 t r) :
  s.post enc P f apart fresh handsOn again W args v W':=by
 have hlt:∀ p∈before,p.block<W.heap.size:=fun p hp=>hW.lt p hp
 have hold:∀ p∈before,(fun b=>decide (b<W.heap.size)) p.block=true:=fun p hp=>by simpa using hlt p hp
 refine⟨ds,gs,before,[],pa,pv,hW,hres _ _ _,hargs _ hold,hvars _ hold,World.keptBut_mono (fun p hp=>⟨hp,?_⟩) (hb.frame (· ∈ before)),fun _=>?_⟩
 ·rw[hps,Vi]at hp;exact Or.inr hp
 obtain⟨_,_,_,_,_,hz,hn⟩:=hW;refine⟨hok,_,_,([]++pa)++pv,⟨[]++pa,pv,trodAll_append (hargs _ (fun _ _=>rfl)) (hres _ _ _),hvars _ (fun _ _=>rfl),rfl,?_,?_⟩,?_⟩
 ·intro b off hp;have hin:MemPlace.cell b off∈before:=by rw[hps];simpa using hp
  rw[hb.frozen (hlt _ hin)];exact hz b off hin
 ·intro ha;have:=hn ha;rw[hps]at this;simpa using this
 intro p hp _;rw[hps];simpa using hp
theorem nU{W W':World}(hl:laidOutB P=true):∀ {ts:List TypeId} {vs:List Value} {ds:List (DataW H)} {ps:List MemPlace} {sp':Nat->Bool},(∀ t∈ts,P.readableRec t=true∧t<P.types.size) ->
  DataW.TrodAll enc P W 0 (fun _=>true) true ts vs ds ps->(∀ p∈ps,W.sameAt W' p)->(∀ p∈ps,sp' p.block=true)->DataW.TrodAll enc P W' 0 sp' true ts vs ds ps
 | [],vs,ds,ps,_,_,h,_,_=>by
  obtain⟨rfl,rfl,rfl⟩:=trodAll_nil h;exact rfl
 |t::ts,vs,ds,ps,sp',hr,h,hs,hp=>by
  obtain⟨v,vs',d,ds',p,q,rfl,rfl,rfl,h1,h2⟩:=trodAll_cons h;have k:=hr t (by simp);exact⟨p,q,WideElems.Trod_stays hl k.1 k.2 h1 (fun x hx=>hs x (by simp[hx])) (fun x hx=>hp x (by simp[hx])),
   nU hl (fun u hu=>hr u (by simp[hu])) h2 (fun x hx=>hs x (by simp[hx])) (fun x hx=>hp x (by simp[hx])),rfl⟩
def wh(W:World):Hp:=fun k=>W.heap[k]?
def lT(enc:TypeId×Value->H)(P:Program)(W:World)(f:Func)(g:FuncId):Prop:=∀ (args:Array Value) (ds:List (DataW H)) (ps:List MemPlace) (base:Nat),
 (∀ (j:Nat) t v,f.params[j]?=some t->args[j]?=some v->Value.okWide P W .any base t v) ->
 DataW.TrodAll enc P W 0 (fun _=>true) true f.params.toList args.toList ds ps->(∀ n∈DataW.weightsEach P f.params.toList ds,n<=reachBytes) ->
 ∃ as0,RepArgs (wh W) (fun _=>.bool false) as0 args.toList∧ak P g as0 (B true)
theorem C4{W:World}{args:Array Value}{g:FuncId}{as0:List AV}(hr:RepArgs (wh W) (fun _=>.bool false) as0 args.toList)(hc:ak P g as0 (B true))(hG:GlOK (wh W)) :
  Calls P g args W fun e W'=>e=.returned (.bool true)∧Below W.heap.size W W':=by
 refine(hc.go (wh W) (fun _=>.bool false) W args hr ⟨fun m b h=>by simp[O]at h,fun m n k h=>by simp[O]at h,fun _ _ h=>h,fun m k h=>by simp[O]at h,hG⟩).mono ?_;rintro e W' ⟨v,h',rfl,hv,q⟩;simp only[AVRep,PRep,DRep]at hv;exact⟨by rw[hv.1],q.os,q.tape,q.output.1,q.size,fun k hk=>q.old k hk (by rintro⟨m,hm,_⟩;exact hm rfl)⟩
end
theorem wL{H:Type}{enc:TypeId×Value->H}{C:Checked}{g:FuncId}{fn:Func}{s:ChangeSpec}{tb:TypeId}(hl:laidOutB C.prog=true)(hp:∀ t∈fn.params.toList,C.prog.readableRec t=true∧t<C.prog.types.size)(hv:s.vars=[])(hs:∀ ds:List (DataW H),ds.length=fn.params.toList.length->(s.fn H ds).results=[.lit (.bool true)]∧(s.fn H ds).args=ds∧(s.fn H ds).vars=[])(hres:fn.resultTypes=#[tb])(htb:C.prog.underlying tb=some .bool)(walk:∀ W:World,lT enc C.prog W fn g){W:World}{base:Nat}{args:Array Value}{ds gs:List (DataW H)}{before:List MemPlace}(hval0:∀ (j:Nat) t v,fn.params[j]?=some t->args[j]?=some v->Value.okWide C.prog W .any base t v)(hW:DataW.Whole enc C.prog fn.params.toList s.vars false W args.toList ds gs before)(hwt:(DataW.weightsEach C.prog (fn.params.toList++s.plain.varTypes C.prog) (ds++gs)).all (· <= reachBytes)=true)(hG:GlOK (wh W)) :
  Calls C.prog g args W fun e W'=>∃ v,e=.returned v∧s.post enc C.prog fn false true false false W args v W':=by
 have hW':=hW;obtain⟨p,q,hA,hV,hpq,_,_⟩:=hW;rw[hv]at hV;obtain⟨rfl,rfl⟩:=trodVars_none hV;rw[VD]at hpq;subst hpq;have hlen:ds.length=fn.params.toList.length:=by
  have:∀ (ts:List TypeId) (vs:List Value) (ds:List (DataW H)) (ps:List MemPlace),DataW.TrodAll enc C.prog W 0 (fun _=>true) true ts vs ds ps->ds.length=ts.length:=by
   intro ts;induction ts with
   |nil=>intro vs ds ps h;obtain⟨_,rfl,_⟩:=trodAll_nil h;rfl
   |cons t ts ih =>
    intro vs ds ps h;obtain⟨v,vs',d,ds',p,q,rfl,rfl,rfl,h1,h2⟩:=trodAll_cons h;simp[ih _ _ _ h2]
  exact this _ _ _ _ hA
 obtain⟨s1,s2,s3⟩:=hs ds hlen;have hwt':∀ n∈DataW.weightsEach C.prog fn.params.toList ds,n<=reachBytes:=by
  intro n hn;have e:fn.params.toList++s.plain.varTypes C.prog=fn.params.toList:=by
   have:s.plain.varTypes C.prog=[]:=by simp[DataSpec.varTypes,ChangeSpec.plain,hv]
   rw[this,VD]
  rw[e,VD,Uo]at hwt;simpa using hwt n hn
 obtain⟨as0,ha,hc⟩:=walk W args ds before base hval0 hA hwt';refine(C4 ha hc hG).mono fun e W' ⟨he,hb⟩=>⟨.bool true,he,?_⟩
 refine uT (pa:=before) (pv:=[]) hW' (fun b sp hd=>?_) (fun sp hsp=>?_) (fun sp _=>?_) (by simp) hb ?_
 ·rw[VD,s1,hres];exact trodAll_cons_mk (shut_bool htb _) trodAll_mk0
 ·rw[VD,s2];exact nU hl hp hA (fun x hx=>hb.same (hW'.lt x hx)) hsp
 ·rw[VD,s3,hv];rfl
 exact ok_one hres rfl (okWide_bool_mk htb _)
theorem wK{H:Type}{enc:TypeId×Value->H}{C:Checked}{os:Os}{g:FuncId}{fn:Func}{s:ChangeSpec}{conds:List PathCond}{tb:TypeId}{laid:List (String×DataW Unit)}(own:ownKnob C.prog.godebug=none)(started:os.Started)(noInit:C.prog.inits.idxOf? g=none)(hfn:C.prog.funcs[g]?=some fn)(witness:∃ (w:World) (tape:Tape) (i:Input),w.os=os∧(w.forCall tape i).Shaped C.prog∧i.vars=[]∧Input.okWide C.prog (w.forCall tape i) .any w.heap.size g i ∧
   ((s.pre enc C.prog fn conds false (w.forCall tape i).memory i.args∧laidMetH C.prog laid (w.forCall tape i).memory)∧sizedMet enc C.prog fn (OpenSpec.ofChange s) false (w.forCall tape i).memory i.args)∧({}:Assume).holds C.prog (lone (Frame.enter C.prog g i.args .normal) [] (w.forCall tape i)))(hl:laidOutB C.prog=true)(hp:∀ t∈fn.params.toList,C.prog.readableRec t=true∧t<C.prog.types.size)(hv:s.vars=[])(hs:∀ ds:List (DataW H),ds.length=fn.params.toList.length->(s.fn H ds).results=[.lit (.bool true)]∧(s.fn H ds).args=ds∧(s.fn H ds).vars=[])(hres:fn.resultTypes=#[tb])(htb:C.prog.underlying tb=some .bool)(walk:∀ W:World,lT enc C.prog W fn g)(hG:∀ W,laidMetH C.prog laid W->GlOK (wh W)) :
  ReturnsInHanded {} C os g .any (fun w args=>(s.pre enc C.prog fn conds false w args∧laidMetH C.prog laid w)∧sizedMet enc C.prog fn (OpenSpec.ofChange s) false w args) (s.post enc C.prog fn false true false false):=by
 refine returnsInHanded_of_change_and (X:=fun w _=>laidMetH C.prog laid w) (fun _ _ _ hh h=>h.of_heap hh) own started noInit hfn witness ?_;intro W base args ds gs before hval0 hW _ hwt hL _;exact wL hl hp hv hs hres htb walk hval0 hW hwt (hG W hL)
def LDs:List Leaf->List DV->Prop
 | [],[]=>True
 |.b::ls,d::ds=>(∃ b,d=.v (.bool b))∧LDs ls ds
 |.i k::ls,d::ds=>(∃ n,d=.v (.int k n)∧(Lit.int k n).wf=true)∧LDs ls ds
 |.s::ls,d::ds=>(∃ ws,okW ws∧d=W ws)∧LDs ls ds
 |_,_=>False
theorem LDs.nil{ds:List DV}(h:LDs [] ds):ds=[]:=by cases ds with|nil=>rfl|cons d ds=>exact h.elim
theorem LDs.b{ls:List Leaf}{ds:List DV}(h:LDs (.b::ls) ds):∃ b ds',ds=.v (.bool b)::ds'∧LDs ls ds':=by
 cases ds with
 |nil=>exact h.elim
 |cons d ds=>obtain⟨⟨b,rfl⟩,h⟩:=h;exact⟨b,ds,rfl,h⟩
theorem LDs.i{ls:List Leaf}{ds:List DV}{k:IntKind}(h:LDs (.i k::ls) ds):∃ n ds',ds=.v (.int k n)::ds'∧(Lit.int k n).wf=true∧LDs ls ds':=by
 cases ds with
 |nil=>exact h.elim
 |cons d ds=>obtain⟨⟨b,rfl,w⟩,h⟩:=h;exact⟨b,ds,rfl,w,h⟩
theorem Leaves.split{h:Hp}:∀ {ls:List Leaf} {vs:List Value},Leaves h ls vs->∃ ds:List DV,LDs ls ds∧ds.length=vs.length∧∀ (i:Nat) (d:DV),ds[i]?=some d->∃ y,vs[i]?=some y∧DRep h d y
 | [],[],_=>⟨[],trivial,rfl,fun i d e=>by simp at e⟩
 | [],_::_,k=>k.elim
 |_::_,[],k=>by simp[Leaves]at k
 |l::ls,v::vs,k=>by
  obtain⟨ds,h1,h2,h3⟩:=Leaves.split k.2;have go:∀ d,LDs (l::ls) (d::ds)->DRep h d v->∃ ds:List DV,LDs (l::ls) ds∧ds.length=(v::vs).length∧∀ (i:Nat) (d:DV),ds[i]?=some d->∃ y,(v::vs)[i]?=some y∧DRep h d y:=fun d q1 q2 =>
   ⟨d::ds,q1,by simp[h2],fun i e he=>by
    cases i with
    |zero=>simp only[List.getElem?_cons_zero,Option.some.injEq]at he;subst he;exact⟨v,rfl,q2⟩
    |succ i=>simp only[List.getElem?_cons_succ]at he ⊢;exact h3 i e he⟩
  cases l with
  |b=>obtain⟨b,rfl⟩:=k.1;exact go (.v (.bool b)) ⟨⟨b,rfl⟩,h1⟩ (by simp only[DRep];exact⟨trivial,rfl⟩)
  |i kk=>obtain⟨n,rfl,w⟩:=k.1;exact go (.v (.int kk n)) ⟨⟨n,rfl,w⟩,h1⟩ (by simp only[DRep];exact⟨trivial,rfl⟩)
  |s=>obtain⟨ws,w,r⟩:=k.1;exact go (W ws) ⟨⟨ws,w,rfl⟩,h1⟩ r
theorem Leaves.agg{h:Hp}{ls:List Leaf}{cs:Array Value}(k:Leaves h ls cs.toList):∃ ds:List DV,LDs ls ds∧PRep h (.a ds) (.agg cs):=by
 obtain⟨ds,h1,h2,h3⟩:=k.split;refine⟨ds,h1,cs,rfl,by simpa using h2.symm,?_⟩;rw[DReps.iff];intro i d e;obtain⟨y,e1,e2⟩:=h3 i d e;exact⟨y,by simpa using e1,e2⟩
theorem A5{P:Program}{w:World}{r:Reach}{base:Nat}{t:TypeId}{v:Value}(h:(match P.underlying t with|some (.struct _)=>true|some (.array _ _)=>true|_=>false)=true)(k:Value.okWide P w r base t v):∃ cs,v=.agg cs:=by
 unfold Value.okWide at k;split at k
 ·obtain⟨cs,e,_⟩:=k;exact⟨cs,e⟩
 ·obtain⟨cs,e,_⟩:=k;exact⟨cs,e⟩
 exfalso
 revert h
 split <;> simp_all
theorem LY{H:Type}{enc:TypeId×Value->H}{P:Program}{W:World}{t:TypeId}{l:List Leaf}{v:Value}{d:DataW H}{p:List MemPlace}(hs:(match P.underlying t with|some (.struct _)=>true|some (.array _ _)=>true|_=>false)=true)(ho:jM enc P W t l){base:Nat}(hv:Value.okWide P W .any base t v)(h:DataW.Trod enc P W 0 (fun _=>true) true t v d p)(hw:∀ n∈d.weights P t,n<=reachBytes) :
  ∃ ds:List DV,LDs l ds∧AVRep (wh W) (fun _=>.bool false) (.p (.a ds)) v:=by
 obtain⟨cs,rfl⟩:=A5 hs hv;obtain⟨fuel,h⟩:=h;obtain⟨ds,h1,h2⟩:=(ho fuel cs.toList (d,p) (by simpa[Value.cells]using h) hw).agg;exact⟨ds,h1,h2⟩
theorem Sx{H:Type}{enc:TypeId×Value->H}{P:Program}{W:World}{f:Func}{g:FuncId}{t0:TypeId}(hp:f.params=#[t0])(go:∀ v0 (d0:DataW H) p0 base,Value.okWide P W .any base t0 v0->DataW.Trod enc P W 0 (fun _=>true) true t0 v0 d0 p0->(∀ n∈d0.weights P t0,n<=reachBytes) ->
   ∃ as0,RepArgs (wh W) (fun _=>.bool false) as0 [v0]∧ak P g as0 (B true)):lT enc P W f g:=by
 intro args ds ps base hv hA hw;rw[hp]at hA hv hw;obtain⟨v0,vs,d0,ds,p0,q0,ha,rfl,rfl,h0,r0⟩:=trodAll_cons hA;obtain⟨rfl,rfl,rfl⟩:=trodAll_nil r0;obtain rfl:args=#[v0]:=by cases args;simp_all
 exact go v0 d0 p0 base (hv 0 t0 v0 rfl rfl) h0 (fun n hn=>hw n (by simp only[DataW.weightsEach,List.mem_append];exact .inl hn))
theorem iV{H:Type}{enc:TypeId×Value->H}{P:Program}{W:World}{f:Func}{g:FuncId}{t0 t1:TypeId}(hp:f.params=#[t0,t1])(go:∀ v0 (d0:DataW H) p0 v1 (d1:DataW H) p1 base,Value.okWide P W .any base t0 v0->DataW.Trod enc P W 0 (fun _=>true) true t0 v0 d0 p0->(∀ n∈d0.weights P t0,n<=reachBytes) ->
   Value.okWide P W .any base t1 v1->DataW.Trod enc P W 0 (fun _=>true) true t1 v1 d1 p1->(∀ n∈d1.weights P t1,n<=reachBytes) ->
   ∃ as0,RepArgs (wh W) (fun _=>.bool false) as0 [v0,v1]∧ak P g as0 (B true)):lT enc P W f g:=by
 intro args ds ps base hv hA hw;rw[hp]at hA hv hw;obtain⟨v0,vs,d0,ds,p0,q0,ha,rfl,rfl,h0,r0⟩:=trodAll_cons hA;obtain⟨v1,vs1,d1,ds,p1,q1,rfl,rfl,rfl,h1,r1⟩:=trodAll_cons r0;obtain⟨rfl,rfl,rfl⟩:=trodAll_nil r1;obtain rfl:args=#[v0,v1]:=by cases args;simp_all
 exact go v0 d0 p0 v1 d1 p1 base (hv 0 t0 v0 rfl rfl) h0 (fun n hn=>hw n (by simp only[DataW.weightsEach,List.mem_append];exact .inl hn)) (hv 1 t1 v1 rfl rfl) h1 (fun n hn=>hw n (by simp only[DataW.weightsEach,List.mem_append];exact .inr (.inl hn)))
theorem uv{P:Program}{w:World}:∀ {l:List (String×DataW Unit)} {ps:List MemPlace},DataW.LaidVars P w l ps->∀ {x:String×DataW Unit},x∈l->∃ g t cs fuel p,P.globalNamed x.1=some g∧(P.globals[g]?).map (·.type)=some t∧w.var? P x.1=some cs∧DataW.trod (fun _=>()) P w 0 (fun _=>true) false fuel t cs.toList=some (x.2,p)
 | [],_,_,_,hx=>by cases hx
 |y::l,ps,h,x,hx=>by
  obtain⟨g,t,cs,fuel,p,q,h1,h2,h3,h4,h5,_⟩:=h;rcases Vh.1 hx with rfl|hx
  ·exact⟨g,t,cs,fuel,p,h1,h2,h3,h4⟩
  exact uv h5 hx
theorem uu{P:Program}{W:World}{L:List (String×DataW Unit)}{n:String}{g:Nat}{ty e:TypeId}{k:IntKind}{xs:List Int}(h:laidMetH P L W)(hp:laidMetH P L W=laidMet P L W)(hm:(n,.agg (xs.map fun z=>.lit (.int k z)))∈L)(hg:P.globalNamed n=some g)(ht:(P.globals[g]?).map (·.type)=some ty)(hty:P.underlying ty=some (.array xs.length e))(he:P.underlying e=some (.int k))(hc:P.cellsOf e=1)(hcc:P.cellsOf ty=xs.length) :
  Qh (wh W) (g,xs.map fun z=>.int k z):=by
 rw[hp]at h;obtain⟨ps,hv,_,_⟩:=h;obtain⟨g0,t0,cs0,f0,p0,hg0,ht0,hv0,hd0⟩:=uv hv hm;obtain rfl:=Vl (hg.symm.trans hg0);obtain rfl:=Vl (ht.symm.trans ht0);obtain⟨l,m1,rfl,hx,hlen,hn,hel⟩:=DataW.trod_array hty hd0;simp only[Prod.mk.injEq,DataW.agg.injEq]at hx;have hv:=hv0;simp only[World.var?,hg,Option.bind_some]at hv;split at hv
 ·rename_i c t fr hb;cases hv;refine⟨_,_,_,hb,(by show _=(xs.map _).length;rw[Uq,<- hcc,<- hlen];exact Array.length_toList.symm),fun i v hi=>?_⟩;have hi:(xs.map fun z=>Value.int k z)[i]?=some v:=hi;rw[UE]at hi;cases hz:xs[i]? with
  |none=>rw[hz]at hi;cases hi
  |some z =>
   rw[hz]at hi;cases hi;have hil:i<xs.length:=(Uu.1 hz).1;have h1:=hel i hil;rw[hc]at h1;have h2:l[i]?=some l[i]:=Fl (by omega);rw[h2]at h1;obtain⟨r,e1,e2,_⟩:=DataW.trod_int he h1;have h3:=Ur (fun q=>q[i]?) hx.1;simp only[List.getElem?_map,hz,h2,Option.map_some,e2]at h3;cases h3;rw[VK]at e1;have h4:(cs0.toList.drop i)[0]?=some (Value.int k z):=by
    have:=Ur (fun q=>q[0]?) e1;simpa using this
   rw[VC]at h4;simpa using h4
 cases hv
end Go.AM
