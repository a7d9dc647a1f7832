import Derived.Test.YthaiejfjnllglaaGreatDoorABC
import Derived.Lib.SliceRun
import Derived.ChangeKeysEq
import Derived.Laws.StructEq
import Derived.Shelf.SlSortCmp.NoneTotal
set_option maxRecDepth 100000
set_option maxHeartbeats 2000000
namespace Go.AM
section
open Go Go.RowKit
structure Iter3 (P:Program) (gf:FuncId) (b0:Blk) (xs:List (List PV)):Prop where
 fn:o9 P gf
 go:∀ (l k0:Nat) (J:Nat→Hp→(Nat→Prop)→World→Prop) (h:Hp) (G:Nat→Prop) (W:World) (n0:Nat),n0≤W.heap.size→n0≤k0→¬ G k0→h k0=none→BlkRep h W (.pointer (some ⟨k0,0,none⟩)) b0→GlOK h→Keeps2 P l xs n0 J→J 0 h G W →
  CallsIn (Wd none) 0 P gf #[.func (.yield l) #[] #[],.pointer (some ⟨k0,0,none⟩)] W fun e W'=>(∃ v,e=.returned v)∧∃ kf h' G',xs.length≤kf∧J kf h' G' W'
theorem WOK.rest3 {C:Ctx} {h h':Hp} {r:Nat→Value} {own:Own} {w w':World} (k:WOK C h r own w) {n0:Nat} {G:Nat→Prop} (q:Rest n0 G h w h' w') (hG:∀ m i,own m≠none→bo (r m)=some i→G i) (hb:∀ i,h i=none→¬ G i→C.w0.heap.size≤i∨C.F i):WOK C h' r own w':=by
 have same:∀ m i,own m≠none→bo (r m)=some i→w'.heap[i]?=w.heap[i]?:=fun m i hm e=>by
  rcases q.old i (k.lt hm e) with g | ⟨_,g,_⟩
  ·exact g
  exact absurd (hG m i hm e) g
 refine ⟨fun m b e=>((k.ow m b e).mono q.hg).world fun i hi=>same m i (by rw [e];simp) hi,k.inj,q.hi,fun m i hm e=>?_,q.os.trans k.os,q.tape.trans k.tape,q.output.trans k.output,Nat.le_trans k.size q.size,fun i hi hf=>?_,k.fo,k.hg.trans q.hg,fun i hi=>?_,k.gl.mono q.hg,k.kp,fun m b j e hj=>?_⟩
 ·cases hh:h' i with
  | none=>rfl
  | some o =>
   rcases q.hn i (by rw [hh];simp) with g | g
   ·exact absurd (k.ho m i hm e) g
   exact absurd (hG m i hm e) g.2
 ·rcases q.old i (Nat.lt_of_lt_of_le hi k.size) with g | ⟨_,g1,g2⟩
  ·rw [g];exact k.old i hi hf
  rcases hb i g2 g1 with x | x
  ·omega
  exact absurd x hf
 ·rcases q.hn i hi with g | g
  ·exact k.hn i g
  by_cases x:h i=none
  ·exact .inr (hb i x g.2)
  exact k.hn i x
 obtain ⟨q1,t,h1,h2⟩:=k.lk m b j e hj
 exact ⟨q1,t,h1,by rw [same m q1 (by rw [e];simp) (by rw [h1];rfl)];exact h2⟩
theorem qf {P:Program} {N np:Nat} {Q:Exit→St→Prop} {l:List (Nat × AV)} {ps:Array Tmp} {assign body:Code} {gf:FuncId} {xs:List (List PV)} {t0 m0:Nat} {o:Own} {b0:Blk} (np':Nat) (own:Nat→Own) (I:Nat→Prop)
  (hit:Iter3 P gf b0 xs) (hj:cp l t0=.junk) (ho:o m0=some b0) (hbv:b0.vec=false) (_hlk:lnk b0=[]) (h0:∀ m,own 0 m=(upd o m0 none) m) (hps:∀ x∈xs,x.length=ps.toList.length)
  (hfix:qH np' l=true) (hnp:Nat.ble np np'=true) (hpN:(ps.toList.all fun p=>Nat.blt p N)=true)
  (hI:I 0) (hround:∀ (k:Nat) (x:List PV),xs[k]?=some x→I k→AWp P true N np' assign (j7 (AWp P true N np' body (AT np' Q l (own (k+1)) (I (k+1)))) (fun _ _=>False)) ⟨jV (cp l) ps.toList x,own k⟩)
  (hdone:I xs.length→Q .normal ⟨cp l,own xs.length⟩):AWp P false N np (.rangeFunc (.tmp t0) ps assign body) Q ⟨upd (cp l) t0 (.fnl gf m0),o⟩:=by
 intro ro hB C hh r a w hn hc
 have hro:ro=none:=hB rfl
 subst hro
 have hnp':=bL0 hnp
 have hmar:C.mar=true:=hn.2
 refine wpIn_rangeFunc ?_
 intro fn _
 have hgv:AVRep hh r (upd (cp l) t0 (.fnl gf m0) t0) (a.tmps.getD t0 undef):=hc.rg t0
 rw [show upd (cp l) t0 (.fnl gf m0) t0=.fnl gf m0 from upd_same _ _ _] at hgv
 obtain ⟨bk,hbk,hval⟩:=hgv
 have hval:a.eval (.tmp t0)=.func (.func gf) #[] #[.pointer (some ⟨bk,0,none⟩)]:=hval
 have hone:(⟨upd (cp l) t0 (.fnl gf m0),o⟩:St).own m0≠none:=by show o m0≠none;rw [ho];simp
 have hbr:=hc.wk.ow m0 b0 ho
 have hrm:r m0=.pointer (some ⟨bk,0,none⟩):=by
  unfold BlkRep at hbr
  rw [hbv] at hbr
  obtain ⟨k,c,h1,_⟩:=hbr
  rw [h1] at hbk ⊢
  have:k=bk:=by simpa [bo] using hbk
  rw [this]
 rw [hrm] at hbr
 have hbfo:=hc.wk.fo m0 bk hone hbk
 have hbho:=hc.wk.ho m0 bk hone hbk
 have hblt:=hc.wk.lt (m:=m0) hone hbk
 have hbne:∀ m,own 0 m≠none→bo (r m)≠some bk:=fun m hm e=>by
  rw [h0 m] at hm
  by_cases x:m=m0
  ·subst x;rw [upd_same] at hm;exact hm rfl
  rw [aR _ _ _ _ x] at hm
  exact x (hc.wk.inj m m0 bk hm hone e hbk)
 have hrg0:RegsOK hh r (cp l) a:=fun t=>by
  by_cases e:t=t0
  ·subst e;rw [hj];exact trivial
  have:AVRep hh r (upd (cp l) t0 (.fnl gf m0) t) (a.tmps.getD t undef):=hc.rg t
  rwa [show upd (cp l) t0 (.fnl gf m0) t=cp l t from aR _ _ _ _ e] at this
 replace hc:Conc C N hh r ⟨cp l,own 0⟩ a w:=⟨hc.sz,hc.df,hrg0,hc.wk.forget fun m=>by
  show own 0 m=o m∨own 0 m=none
  rw [h0 m]
  by_cases x:m=m0
  ·subst x;exact .inr (upd_same _ _ _)
  exact .inl (aR _ _ _ _ x)⟩
 obtain ⟨rec,hrec⟩:∃ rec:LoopState→Option Code→Loop,rec=fun st pe=>{ state:=st,pending:=pe,fn,tmps:=a.tmps,params:=ps,assign,body,defers:=w.heap.size }:=⟨_,rfl⟩
 obtain ⟨W1,hW1⟩:∃ W1,(w.alloc (.deferred (some []))).alloc (.loop (rec .ready none))=W1:=⟨_,rfl⟩
 obtain ⟨hw1,hle1⟩:=hc.wk.imm (.deferred (some []))
 obtain ⟨h1,hh1⟩:∃ h1:Hp,h1=fun i=>if i=w.heap.size then some (.deferred (some [])) else hh i:=⟨_,rfl⟩
 rw [← hh1] at hw1 hle1
 have hs1:W1.heap.size=w.heap.size+2:=by rw [← hW1];simp
 have hold1:∀ i,i < (w.alloc (.deferred (some []))).heap.size→W1.heap[i]?=(w.alloc (.deferred (some []))).heap[i]?:=fun i hi=>by
  rw [← hW1,bV,if_neg (by omega)]
 have hw2:WOK C h1 r (own 0) W1:=hw1.beside (by rw [← hW1];rfl) (by rw [← hW1];rfl) (by rw [← hW1];exact ⟨rfl,Nat.le_refl _⟩) (by rw [hs1];simp) hold1
 have hL1:W1.heap[w.heap.size+1]?=some (.loop (rec .ready none)):=by
  rw [← hW1,bV,if_pos (by simp)]
 have hD0:hh w.heap.size=none:=by
  cases e:hh w.heap.size with
  | none=>rfl
  | some o=>have:=hc.wk.hlt e;omega
 have hhL:h1 (w.heap.size+1)=none:=by
  rw [hh1]
  show (if w.heap.size+1=w.heap.size then _ else hh (w.heap.size+1))=none
  rw [if_neg (by omega)]
  cases e:hh (w.heap.size+1) with
  | none=>rfl
  | some o=>have:=hc.wk.hlt e;omega
 have hnoL:∀ m,own 0 m≠none→bo (r m)≠some (w.heap.size+1):=fun m hm e=>by
  have:=hc.wk.lt hm e;omega
 have hD1:h1 w.heap.size=some (.deferred (some [])):=by rw [hh1];exact if_pos rfl
 generalize hLL:w.heap.size+1=L at *
 have hCL:C.w0.heap.size≤L:=by have:=hc.wk.size;omega
 refine ⟨L,[{ target:=.collected w.heap.size,args:=#[] }],W1,{ target:=.fn (.func gf) #[.pointer (some ⟨bk,0,none⟩)],args:=#[.func (.yield L) #[] #[]] },W1,gf,#[.func (.yield L) #[] #[],.pointer (some ⟨bk,0,none⟩)],W1,?_,?_,fun _ _=>trivial,?_,fun e=>by simp [Wd] at e,?_⟩
 ·rw [← hW1,hrec,← hLL];exact run_enterLoop_outer _ _ _ _ _
 ·simp only [resolve,hval]
  simp [go_sem]
 ·have eg:∀ args w,(callFunc gf args).run P w=.ok (.enter gf args) w:=fun args w=>cL hit.fn args w
  simp [invoke,go_sem,eg]
 have hmen:=kw hfix
 obtain ⟨J,hJ⟩:∃ J:Nat→Hp→(Nat→Prop)→World→Prop,J=fun k h G W=>∃ r' o st pe,(∀ m,m < np'→r' m=r m)∧WOK C h r' o W∧W.heap[L]?=some (.loop (rec st pe))∧h L=none∧(∀ m,o m≠none→bo (r' m)≠some L)∧Hle h1 h ∧
   (G=fun i=>(i=L∨∃ m,o m≠none∧bo (r' m)=some i)∨(i < W1.heap.size∧h i=none∧i≠bk))∧W1.heap.size≤W.heap.size∧yN xs.length own I Q l k o st pe:=⟨_,rfl⟩
 have hrg:∀ h r',Hle h1 h→(∀ m,m < np'→r' m=r m)→RegsOK h r' (cp l) a:=fun h r' hl hr t =>
  AVRep.rebind _ _ (fun m hm=>hr m (hmen t m hm)) (AVRep.mono (hle1.trans hl) _ _ (hc.rg t))
 refine CallsIn.mono (hit.go L bk J h1 (fun i=>(i=L∨∃ m,own 0 m≠none∧bo (r m)=some i)∨(i < W1.heap.size∧h1 i=none∧i≠bk)) W1 0 (Nat.zero_le _) (Nat.zero_le _) ?_ ?_ ((hbr.mono hle1).world fun i hi=>?_) hw2.gl ⟨⟨?_,?_,?_⟩,?_⟩ ?_) ?_
 ·rintro ((x | ⟨m,hm,e⟩) | x)
  ·omega
  ·exact hbne m hm e
  exact x.2.2 rfl
 ·rw [hh1]
  show (if bk=w.heap.size then _ else hh bk)=none
  rw [if_neg (by omega)];exact hbho
 ·have:i=bk:=by simpa [bo] using hi.symm
  subst this
  rw [← hW1,bV,if_neg (by simp;omega),bV,if_neg (by omega)]
 ·intro k h G W hk
  rw [hJ] at hk
  obtain ⟨r',o,st,pe,_,q,_⟩:=hk
  exact q.hi
 ·intro k h G W hk i hi
  rw [hJ] at hk
  obtain ⟨r',o,st,pe,e1,e2,e3,e4,e5,e6,rfl,e7,e8⟩:=hk
  rcases hi with (rfl | ⟨m,hm,e⟩) | ⟨h8,h9,_⟩
  ·exact ⟨(Array.getElem?_eq_some_iff.1 e3).1,e4⟩
  ·exact ⟨e2.lt hm e,e2.ho m i hm e⟩
  exact ⟨by omega,h9⟩
 ·intro k h G W h' W' hk q
  rw [hJ] at hk ⊢
  obtain ⟨r',o,st,pe,e1,e2,e3,e4,e5,e6,rfl,e7,e8⟩:=hk
  have hlt:L < W.heap.size:=(Array.getElem?_eq_some_iff.1 e3).1
  refine ⟨r',o,st,pe,e1,e2.rest3 q (fun m i hm e=>.inl (.inr ⟨m,hm,e⟩)) (fun i h9 hg=>?_),?_,?_,e5,e6.trans q.hg,?_,Nat.le_trans e7 q.size,e8⟩
  ·by_cases y:C.F i
   ·exact .inr y
   by_cases x:i < C.w0.heap.size
   ·exfalso
    refine hg (.inr ⟨Nat.lt_of_lt_of_le x hw2.size,h9,fun z=>?_⟩)
    subst z
    rcases hbfo with z | z
    ·omega
    exact y z
   exact .inl (by omega)
  ·rcases q.old L hlt with g | ⟨_,g,_⟩
   ·rw [g];exact e3
   exact absurd (.inl (.inl rfl)) g
  ·cases e:h' L with
   | none=>rfl
   | some o' =>
    rcases q.hn L (by rw [e];simp) with g | g
    ·exact absurd e4 g
    exact absurd (.inl (.inl rfl)) g.2
  funext i
  refine propext ⟨fun x=>x.imp id fun ⟨a1,a2,a3⟩=>⟨a1,?_,a3⟩,fun x=>x.imp id fun ⟨a1,a2,a3⟩=>⟨a1,?_,a3⟩⟩
  ·cases e:h' i with
   | none=>rfl
   | some o' =>
    rcases q.hn i (by rw [e];simp) with g | g
    ·exact absurd a2 g
    exact absurd (.inr ⟨a1,a2,a3⟩) g.2
  cases e:h i with
  | none=>rfl
  | some o'=>rw [q.hg i o' e] at a2;cases a2
 ·intro k h G W x vals hx hk hv
  rw [hJ] at hk
  obtain ⟨r',o,st,pe,e1,e2,e3,e4,e5,e6,rfl,e7,e8⟩:=hk
  have hkl:k < xs.length:=(List.getElem?_eq_some_iff.1 hx).1
  obtain ⟨_,rfl,rfl,rfl,hIk⟩:k≤xs.length∧o=own k∧st=.ready∧pe=none∧I k:=by
   rcases e8 with e8 | e8
   ·exact e8
   omega
  have hlen:x.length=ps.toList.length:=hps x (List.mem_of_getElem? hx)
  have hvl:vals.length=x.length:=kI _ _ hv
  have hsz:vals.toArray.size=(rec .ready none).params.size:=by
   rw [hrec]
   show vals.length=ps.size
   rw [hvl,hlen];simp
  refine ⟨_,_,_,_,run_yield e3 hsz,roundIn_of_wpIn trivial ?_⟩
  rw [hrec]
  show assign.wpIn (Wd (some L)) 0 P _ { tmps:=(ps.zip vals.toArray).foldl (fun t (p,v)=>t.setIfInBounds p v) a.tmps,defers:=[] } W
  have hzip:(ps.zip vals.toArray).foldl (fun t (p,v)=>t.setIfInBounds p v) a.tmps=(ps.toList.zip vals).foldl (fun t (p,v)=>t.setIfInBounds p v) a.tmps:=by
   rw [← Array.foldl_toList,Array.toList_zip]
  rw [hzip]
  obtain ⟨f1,f2⟩:=fG (r:=r') ps.toList x vals (cp l) a.tmps hv hlen (fun p hp=>by
   have:=List.all_eq_true.1 hpN p hp
   rw [hc.sz];simpa using this) (fun t=>hrg h r' e6 e1 t)
  refine wpIn_mono (hround k x hx hIk (some L) (fun e=>by cases e) (Ctx.round h r' (own k) W np') h r' _ W ⟨rfl,rfl⟩ ⟨f2.trans hc.sz,trivial,f1,e2.enter⟩) ?_
  rintro e a1 w1 ⟨s1,h2,r2,q1,c1⟩
  cases e with
  | normal =>
   have hwk1:=e2.leave c1.wk (Nat.le_trans (Nat.le_of_eq hn.1) hnp')
   obtain ⟨g1,g2,g3⟩:=WOK.rec_left e5 c1.wk e3 e4
   have hd1:a1.defers=[]:=by
    have:=c1.df
    cases hd:a1.defers with
    | nil=>rfl
    | cons d ds=>rw [hd] at this;cases this.1
   have hw3:=hwk1.putL (o:=.loop { rec .ready none with state:=.busy }) g3 g2 hCL
   have hLw:L < w1.heap.size:=(Array.getElem?_eq_some_iff.1 g1).1
   have hLb:(w1.putObj L (.loop { rec .ready none with state:=.busy })).heap[L]?=some (.loop { rec .ready none with state:=.busy }):=World.putObj_heap_same hLw
   refine ⟨_,run_beginRound g1 (by rw [hrec]),?_⟩
   refine wpIn_mono (q1 (some L) (fun e=>by cases e) (Ctx.round h2 r2 s1.own _ np') h2 r2 a1 _ ⟨rfl,rfl⟩ ⟨c1.sz,by rw [hd1];trivial,c1.rg,hw3.enter⟩) ?_
   rintro e a2 w2 ⟨s2,h3,r3,q2,c2⟩
   have fin:∀ (jump:Option Code) (o2:Own),GW np' s2.own o2→yN xs.length own I Q l (nx xs.length k jump.isNone) o2 (if jump.isNone then .ready else .done) jump→∃ v w',(Instr.endRound L jump).run P w2=.ok v w'∧∃ b,Ending.returned v=.returned (.bool b)∧∃ h' G',J (nx xs.length k b) h' G' w'∧Gave (fun i=>(i=L∨∃ m,own k m≠none∧bo (r' m)=some i)∨(i < W1.heap.size∧h i=none∧i≠bk)) h W G' h' w':=by
    intro jump o2 q2 hleft
    have hwk2:=hw3.leave c2.wk (Nat.le_trans (Nat.le_of_eq hn.1) hnp')
    obtain ⟨k1,k2,k3⟩:=WOK.rec_left g3 c2.wk hLb g2
    obtain ⟨r4,q3,hwk3,q4⟩:=q2 C h3 r3 w2 (Nat.le_trans (Nat.le_of_eq hn.1) hnp') hwk2
    have k3':∀ m,o2 m≠none→bo (r4 m)≠some L:=fun m hm e=>by
     obtain ⟨m2,g1,g2⟩:=q4 m L hm e
     exact k3 m2 g1 g2
    have F2:∀ i,(Ctx.round h2 r2 s1.own (w1.putObj L (.loop { rec .ready none with state:=.busy })) np').F i→W.heap.size≤i∨∃ m,own k m≠none∧bo (r' m)=some i:=by
     rintro i ⟨m,hm,e⟩;exact c1.wk.fo m i hm e
    have sz1:W.heap.size≤w1.heap.size:=c1.wk.size
    have sz2:w1.heap.size≤w2.heap.size:=by have:(w1.putObj L _).heap.size≤w2.heap.size:=c2.wk.size;rwa [bP] at this
    refine ⟨_,_,run_endRound jump k1,_,rfl,h3,fun i=>(i=L∨∃ m,o2 m≠none∧bo (r4 m)=some i)∨(i < W1.heap.size∧h3 i=none∧i≠bk),?_,?_⟩
    ·rw [hJ]
     refine ⟨r4,o2,if jump.isNone then .ready else .done,jump,fun m hm=>?_,hwk3.putL k3' k2 hCL,?_,k2,k3',e6.trans (c1.wk.hg.trans c2.wk.hg),rfl,by rw [bP];omega,hleft⟩
     ·rw [q3 m hm,c2.wk.kp m hm]
      show r2 m=r m
      rw [c1.wk.kp m hm]
      exact e1 m hm
     rw [World.putObj_heap_same (Array.getElem?_eq_some_iff.1 k1).1,hrec]
    refine ⟨c2.wk.os.trans c1.wk.os,c2.wk.tape.trans c1.wk.tape,c2.wk.output.trans c1.wk.output,by rw [bP];omega,fun i hi hg=>?_,c1.wk.hg.trans c2.wk.hg,fun i hi=>?_,fun i hi=>?_⟩
    ·have hiL:i≠L:=fun x=>hg (.inl (.inl x))
     rw [ce hiL,c2.wk.old i (by rw [show (Ctx.round h2 r2 s1.own (w1.putObj L (.loop { rec .ready none with state:=.busy })) np').w0.heap.size=w1.heap.size from bP _ _ _];omega) (fun x=>by
      rcases F2 i x with g | g
      ·omega
      exact hg (.inl (.inr g)))]
     show (w1.putObj L _).heap[i]?=_
     rw [ce hiL]
     exact c1.wk.old i hi (fun x=>hg (.inl (.inr x)))
    ·rcases c2.wk.hn i hi with g | g | g
     ·rcases c1.wk.hn i g with g | g | g
      ·exact .inl g
      ·exact .inr (.inl g)
      exact .inr (.inr (.inl (.inr g)))
     ·have g':(w1.putObj L (.loop { rec .ready none with state:=.busy })).heap.size≤i:=g
      rw [bP] at g'
      exact .inr (.inl (by omega))
     rcases F2 i g with g | g
     ·exact .inr (.inl g)
     exact .inr (.inr (.inl (.inr g)))
    rcases hi with (rfl | ⟨m,hm,e⟩) | ⟨x1,x2,x3⟩
    ·exact .inl (.inl (.inl rfl))
    ·obtain ⟨m2,g1,g2⟩:=q4 m i hm e
     rcases c2.wk.fo m2 i g1 g2 with g | g
     ·have g':(w1.putObj L (.loop { rec .ready none with state:=.busy })).heap.size≤i:=g
      rw [bP] at g'
      exact .inr (by omega)
     rcases F2 i g with g | g
     ·exact .inr g
     exact .inl (.inl (.inr g))
    refine .inl (.inr ⟨x1,?_,x3⟩)
    cases e:h i with
    | none=>rfl
    | some o'=>rw [(c1.wk.hg.trans c2.wk.hg) i o' e] at x2;cases x2
   cases e with
   | normal=>exact fin none _ q2.1 (.inl ⟨hkl,rfl,rfl,rfl,q2.2⟩)
   | ret =>
    obtain ⟨o2,g1,g2⟩:=q2
    exact fin (some .ret) o2 g1 (.inr ⟨(by show xs.length < xs.length+1+k;omega),rfl,.inl ⟨rfl,g2⟩⟩)
   | exit id =>
    obtain ⟨o2,g1,g2⟩:=q2
    exact fin (some (.exit id)) o2 g1 (.inr ⟨(by show xs.length < xs.length+1+k;omega),rfl,.inr ⟨id,rfl,g2⟩⟩)
   | _=>exact q2.elim
  | _=>exact q1.elim
 ·rw [hJ]
  exact ⟨r,own 0,.ready,none,fun _ _=>rfl,hw2,hL1,hhL,hnoL,.refl _,rfl,Nat.le_refl _,.inl ⟨Nat.zero_le _,rfl,rfl,rfl,hI⟩⟩
 rintro e W3 ⟨⟨v,rfl⟩,kf,h',G',hkf,hk⟩
 rw [hJ] at hk
 obtain ⟨r',o,st,pe,e1,e2,e3,e4,e5,e6,_,_,e8⟩:=hk
 have fin:∀ (ob:Obj) (q:Exit),Q q ⟨cp l,o⟩→∃ s' h' r',Q q s'∧Conc C N h' r' s' { a with defers:=[{ target:=.collected w.heap.size,args:=#[] }] ++ a.defers } (W3.putObj L ob):=fun ob q hq=>by
  refine ⟨⟨cp l,o⟩,h',r',hq,hc.sz,?_,fun t=>hrg h' r' e6 e1 t,e2.putL e5 e4 hCL⟩
  refine ⟨hmar,⟨w.heap.size,rfl,hc.wk.size,?_,e6 _ _ hD1,l9 hD0 hc.df⟩,hc.df.mono (hle1.trans e6)⟩
  cases e:C.h0 w.heap.size with
  | none=>rfl
  | some o=>have:=hc.wk.hg _ _ e;rw [hD0] at this;cases this
 have hbusy:(rec st pe).state≠.busy:=by
  rw [hrec]
  rcases e8 with ⟨_,_,h3,_⟩ | ⟨_,h3,_⟩ <;> (show st≠_;rw [h3];simp)
 have hpe:(rec st pe).pending=pe:=by rw [hrec]
 refine ⟨pe,_,by have:=run_endLoop (P:=P) e3 hbusy;rw [hpe] at this;exact this,?_⟩
 rcases e8 with ⟨h1,rfl,_,rfl,hIk⟩ | ⟨_,_,⟨rfl,h4⟩ | ⟨id,rfl,h4⟩⟩
 ·have:kf=xs.length:=by omega
  subst this
  exact fin _ .normal (hdone hIk)
 ·exact wpIn_ret (fin _ .ret h4)
 exact wpIn_exit (fin _ (.exit id) h4)
end
section
open Go Go.RowKit
theorem Co {P:Program} {f:FuncId} {fn:Func} {c:Code} {N:Nat} {b0:Blk} {xs:List (List PV)} (hf:P.funcs[f]?=some fn) (hnm:(fn.name == "runtime.NumGoroutine")=false) (hb:fn.body=some c) (hN:fn.ntmps=N) (hna:2≤N) (hres:fn.results=#[]) (hlk:lnk b0=[])
  (h:∀ l n0 J,Keeps2 P l xs n0 J→AE P xs n0 J N 2 c 0 ⟨fun t=>([.p (.c (.v (.func (.yield l) #[] #[]))),.loc 1 0]:List AV).getD t .junk,upd O 1 (some b0)⟩):Iter3 P f b0 xs:=by
 refine ⟨⟨fn,hf,hnm,by rw [hb];rfl⟩,?_⟩
 intro l k0 J hh G W n0 hn0 hk0 hG hhk hbr hgl hK h0
 refine callsIn_of_wp_marks hf hb trivial ?_
 have kR:∀ m,(upd O 1 (some b0)) m≠none→m=1:=fun m hm=>by
  by_cases e:m=1
  ·exact e
  rw [aR _ _ _ _ e] at hm;exact absurd rfl hm
 refine wpIn_mono (h l n0 J hK ⟨fun _=>.pointer (some ⟨k0,0,none⟩),hh,W,fun i=>G i∨i=k0⟩ hh (fun _=>.pointer (some ⟨k0,0,none⟩)) _ W G ⟨?_,rfl,?_,(⟨W,hh,fun i=>i=k0,fun _=>.pointer (some ⟨k0,0,none⟩),2,false⟩:Ctx),?_,h0,hn0,fun i e=>?_,rfl,rfl,fun _ _=>rfl,⟨rfl,rfl,.refl _,Nat.le_refl _,fun _ _ _=>rfl,.refl _,fun _ e=>.inl e,fun _ e=>.inl e⟩⟩) ?_
 ·simp [hN];omega
 ·intro t
  show AVRep hh _ (([.p (.c (.v (.func (.yield l) #[] #[]))),.loc 1 0]:List AV).getD t .junk) _
  match t with
  | 0 =>
   show AVRep hh _ (.p (.c (.v (.func (.yield l) #[] #[])))) (Array.getD _ 0 undef)
   have e0:(#[.func (.yield l) #[] #[],.pointer (some ⟨k0,0,none⟩)] ++ Array.replicate (fn.ntmps - (#[.func (.yield l) #[] #[],.pointer (some ⟨k0,0,none⟩)]:Array Value).size) undef:Array Value).getD 0 undef=.func (.yield l) #[] #[]:=by
    rw [Array.getD_eq_getD_getElem?,Array.getElem?_append_left (by simp)];rfl
   rw [e0]
   simp only [AVRep,PRep,DRep,true_and];rfl
  | 1 =>
   show AVRep hh _ (.loc 1 0) (Array.getD _ 1 undef)
   have e0:(#[.func (.yield l) #[] #[],.pointer (some ⟨k0,0,none⟩)] ++ Array.replicate (fn.ntmps - (#[.func (.yield l) #[] #[],.pointer (some ⟨k0,0,none⟩)]:Array Value).size) undef:Array Value).getD 1 undef=.pointer (some ⟨k0,0,none⟩):=by
    rw [Array.getD_eq_getD_getElem?,Array.getElem?_append_left (by simp)];rfl
   rw [e0]
   exact ⟨k0,rfl,rfl⟩
  | t+2=>exact trivial
 ·show WOK _ hh _ (upd O 1 (some b0)) W
  refine ⟨fun m b e=>?_,fun m n k hm hn _ _=>(kR m hm).trans (kR n hn).symm,hK.hi _ _ _ _ h0,fun m k hm e=>?_,rfl,rfl,.refl _,Nat.le_refl _,fun _ _ _=>rfl,fun m k hm e=>.inr ?_,Hle.refl _,fun k e=>Or.inl e,hgl,fun _ _=>rfl,fun m b j e hj=>?_⟩
  ·have:m=1:=kR m (by rw [e];simp)
   subst this
   rw [upd_same] at e;cases e;exact hbr
  ·have:k=k0:=by simpa [bo] using e.symm
   rw [this];exact hhk
  ·simpa [bo] using e.symm
  have:m=1:=kR m (by rw [e];simp)
  subst this
  rw [upd_same] at e;cases e;rw [hlk] at hj;cases hj
 ·have e:i=k0:=e
  subst e
  exact ⟨hk0,hG,hhk⟩
 rintro e a' w' ⟨he,kf,h',G',hk,hj,hd⟩
 have hr:∀ W',(results fn a'.tmps).run P W'=.ok (.tuple #[]) W':=fun W'=>by rw [fx,hres];simp
 have fin:LeavesInM (Wd none) 0 P fn a'.tmps (fun e W'=>(∃ v,e=.returned v)∧∃ kf h' G',xs.length≤kf∧J kf h' G' W') a'.defers .returning w':=by
  rcases hd with hd | ⟨D,hd,d1,d2,d3,d4⟩
  ·rw [hd]
   exact ⟨_,hr _,⟨_,rfl⟩,kf,h',G',hk,hj⟩
  rw [hd]
  refine ⟨by simp,.inl ⟨D,_,rfl,run_takeDeferred d1,?_⟩⟩
  exact ⟨_,hr _,⟨_,rfl⟩,kf,h',G',hk,hK.rest _ _ _ _ _ _ hj (je (hK.hi _ _ _ _ hj) d2 d3 d4)⟩
 rcases he with rfl | rfl <;> exact fin
end
section
open Go Go.RowKit
theorem WOK.nilV {C:Ctx} {h:Hp} {r:Nat→Value} {own:Own} {w:World} (k:WOK C h r own w) {d sz:Nat} {e:TypeId} (hd:own d=none) (hp:C.np≤d) (hl:∀ m b,own m=some b→d ∉ lnk b) :
  WOK C h (upd r d (.slice none 0 0)) (upd own d (some ⟨true,sz,e,[]⟩)) w:=by
 have live:∀ n,n≠d→upd own d (some (⟨true,sz,e,[]⟩:Blk)) n=own n:=fun n h1=>aR _ _ _ _ h1
 refine ⟨?_,?_,k.hi,?_,k.os,k.tape,k.output,k.size,k.old,?_,k.hg,k.hn,k.gl,?_,?_⟩
 ·intro n b' hn
  by_cases h1:n=d
  ·subst h1;rw [upd_same] at hn ⊢;cases hn
   exact ⟨none,0,0,rfl,by simp,Nat.le_refl _,by omega,.inl rfl⟩
  rw [live n h1] at hn
  rw [aR _ _ _ _ h1];exact k.ow n b' hn
 ·intro n p i hn hpp e1 e2
  by_cases h1:n=d
  ·subst h1;rw [upd_same] at e1;cases e1
  by_cases h2:p=d
  ·subst h2;rw [upd_same] at e2;cases e2
  rw [aR _ _ _ _ h1] at e1;rw [aR _ _ _ _ h2] at e2
  rw [live n h1] at hn;rw [live p h2] at hpp
  exact k.inj n p i hn hpp e1 e2
 ·intro n i hn e1
  by_cases h1:n=d
  ·subst h1;rw [upd_same] at e1;cases e1
  rw [aR _ _ _ _ h1] at e1;rw [live n h1] at hn;exact k.ho n i hn e1
 ·intro n i hn e1
  by_cases h1:n=d
  ·subst h1;rw [upd_same] at e1;cases e1
  rw [aR _ _ _ _ h1] at e1;rw [live n h1] at hn;exact k.fo n i hn e1
 ·intro n hn
  rw [aR _ _ _ _ (by omega)];exact k.kp n hn
 intro n b' j hn hj
 by_cases h1:n=d
 ·subst h1;rw [upd_same] at hn;cases hn;cases hj
 rw [live n h1] at hn
 have hjd:j≠d:=fun x=>hl n b' hn (x ▸ hj)
 rw [aR _ _ _ _ h1,aR _ _ _ _ hjd]
 exact k.lk n b' j hn hj
theorem pd {P:Program} {B:Bool} {N np:Nat} {Q:Exit→St→Prop} {s:St} {c:Code} (t d sz:Nat) (e:TypeId) (ht:s.regs t=.p (.c (.v (.slice none 0 0)))) (hp:Nat.ble np d=true)
  (h:AWp P B N np c Q ⟨upd (c8 [d] s).regs t (.vec d),upd (c8 [d] s).own d (some ⟨true,sz,e,[]⟩)⟩):AWp P B N np c Q s:=by
 intro ro hB C hh r a w hn hc
 have hk:=jI [d] hc
 have hown:(c8 [d] s).own d=none:=jp [d] s d (by simp)
 have hmen:=ky [d] s d (by simp)
 have hx:=hc.rg t
 rw [ht] at hx
 have hv:a.tmps.getD t undef=.slice none 0 0:=by
  simp only [AVRep,PRep,DRep] at hx
  exact hx.1
 refine h ro hB C hh (upd r d (.slice none 0 0)) a w hn ⟨hk.sz,hk.df,fun t'=>?_,hk.wk.nilV hown (by rw [hn.1];exact bL0 hp) (jq [d] s d (by simp))⟩
 show AVRep hh _ (upd (c8 [d] s).regs t (.vec d) t') _
 by_cases e1:t'=t
 ·subst e1
  rw [upd_same]
  show _=upd r d _ d
  rw [upd_same,hv]
 rw [aR _ _ _ _ e1]
 have hr:=hk.rg t'
 have hmt:=hmen t'
 exact AVRep.rebind _ _ (fun m hm=>aR _ _ _ _ (fun x=>hmt (x ▸ hm))) hr
section ops
variable {P:Program}
variable {dst:Option Nat} {ty:TypeId} {pos:String} {af:Array Edge} {gd:Option (Nat × Bool)} {d:Nat} {ρ:Operand→AV} {own:Own}
theorem kt {f:FuncId} {c:Operand} {xs:List DV} (hx:ρ c=.ip xs):Eff P ⟨dst,.makeFunc (.func f) #[] #[c],ty,pos,af,gd⟩ d ρ own (.p (.c (.fn f [.ip xs]))) [] none [] :=
 bE fun C h r own' a w hrep hrd hw=>by
  have e1:=hrep c (by simp [Op.operands])
  rw [hx] at e1
  refine ⟨.func (.func f) #[] #[a.eval c],?_,?_⟩
  ·simp [execOp,Instr.makeFunc]
  simp only [AVRep,PRep,DRep]
  refine ⟨#[a.eval c],rfl,rfl,?_⟩
  refine DReps.of_get fun i dv hi=>?_
  cases i with
  | zero =>
   simp only [List.getElem?_cons_zero,Option.some.injEq] at hi
   subst hi
   exact ⟨a.eval c,rfl,by simp only [DRep];exact e1⟩
  | succ i=>simp at hi
theorem p7 {h:Hp} {r:Nat→Value}:∀ {cs:List (List DV)} {g:Nat→Option Value} {xs:List Value},DReps h (cs.map .ip) g→xs.length=cs.length→(∀ i,g i=xs[i]?)→RepArgs h r (cs.map .ip) xs
 | [],_,[],_,_,_=>trivial
 | [],_,_ :: _,_,e,_=>by simp at e
 | _ :: _,_,[],_,e,_=>by simp at e
 | c :: cs,g,x :: xs,k,e,hg=>by
  simp only [List.map_cons,DReps] at k
  obtain ⟨⟨y,e1,e2⟩,k⟩:=k
  rw [hg 0] at e1
  simp only [List.getElem?_cons_zero,Option.some.injEq] at e1
  subst e1
  refine ⟨?_,p7 k (by simpa using e) (fun i=>by rw [hg (i+1)];simp)⟩
  simp only [DRep] at e2
  exact e2
theorem Eff.callD {f:FuncId} {caps:List (List DV)} {c:Operand} {args:Array Operand} {tys:Array TypeId} {res:AV} (hx:ρ c=.p (.c (.fn f (caps.map .ip)))) (hc:aJ P f (args.toList.map ρ ++ caps.map .ip) res) :
  Eff P ⟨dst,.call ⟨.value c,args,tys⟩,ty,pos,af,gd⟩ d ρ own res [] none []:=by
 intro C h r own' a w K Q hrep hrd hw _ hK
 have e1:=hrep c (by simp [Op.operands,Call.operands])
 rw [hx] at e1
 simp only [AVRep,PRep,DRep] at e1
 obtain ⟨lb,e2,e3,e4⟩:=e1
 unfold Oper.wp
 have hrun:(execOp a.eval ⟨dst,.call ⟨.value c,args,tys⟩,ty,pos,af,gd⟩).run P w=.ok (.enter f (args.map a.eval ++ lb)) w:=by
  simp only [execOp,resolve,Sem.run_bind,e2,Deferred.ofValue,Sem.run_pure,Result.andThen_ok,invoke,Array.empty_append]
  exact cL hc.fn _ w
 rw [hrun]
 refine Calls.mono (hc.go h r w (args.map a.eval ++ lb) ?_ (hw.before fun m hm=>absurd rfl hm)) ?_
 ·rw [Array.toList_append,Array.toList_map]
  refine RepArgs.app (dF _ fun x hx=>hrep x (by simp only [Op.operands,Call.operands];exact Array.mem_append.2 (.inr (Array.mem_toList_iff.1 hx)))) ?_
  exact p7 e4 (by simpa using e3) (fun i=>by simp)
 rintro e w' ⟨v,h',rfl,hv,hq⟩
 exact hK v h' r w' hq.hg (fun _ _=>rfl) hv (hw.after (fun m hm=>absurd rfl hm) hq (fun m=>by simp [gA,dl]) (fun m b hm=>absurd rfl hm))
end ops
def IC (z:Int):DV:=.v (.int .i64 z)
def IS (l:List Int):DV:=.sl l.length (l.map IC)
def IB (e:TypeId) (l:List Int):Blk:=⟨true,1,e,l.map IC⟩
def spR (c:Int):List Int:=if c=-4 then [1,5] else if c=8 then [1,7] else [1,3]
def chF (fo fs:FuncId) (c:Int):DV:=if c=-4∨c=8∨c=-8 then .fn fs [.ip [IS (spR c)]] else .fn fo [.ip [IC c]]
def chC (fo fs:FuncId) (c:Int):List DV:=[IC c,chF fo fs c]
def CS (fo fs:FuncId) (l:List Int):DV:=.sl l.length (l.flatMap (chC fo fs))
def CB (fo fs:FuncId) (e:TypeId) (l:List Int):Blk:=⟨true,2,e,l.flatMap (chC fo fs)⟩
section
variable {fo fs:FuncId}
theorem qe (l:List Int):(l.flatMap (chC fo fs)).length=l.length*2:=by
 induction l with
 | nil=>rfl
 | cons x l ih=>rw [List.flatMap_cons,List.length_append,ih,List.length_cons];show 2+_=_;omega
theorem xd:∀ (l:List Int) (i:Nat) (h:i < l.length),(l.flatMap (chC fo fs)).drop (i*2)=chC fo fs l[i] ++ (l.drop (i+1)).flatMap (chC fo fs)
 | x :: l,0,_=>by simp
 | x :: l,i+1,h=>by
  have ih:=xd l i (by simpa using h)
  have e:(i+1)*2=i*2+2:=by omega
  rw [e,List.flatMap_cons]
  show (IC x :: chF fo fs x :: l.flatMap (chC fo fs)).drop (i*2+2)=_
  rw [List.drop_succ_cons,List.drop_succ_cons,ih]
  simp
variable {P:Program} {tt:TT} (hT:dW P tt)
variable {dst:Option Nat} {ty:TypeId} {pos:String} {af:Array Edge} {gd:Option (Nat × Bool)} {d:Nat} {ρ:Operand→AV} {own:Own}
variable {T e:TypeId} {i j:TyI} {x y:Operand}
include hT
theorem fW {k:IntKind} {n:Int} {l:List Int} (ht:tt T=some i) (hs:i.sh=.sl e) (he:tt e=some j) (hj:j.size=1) (hx:ρ x=.p (.c (IS l))) (hy:ρ y=.p (.c (.v (.int k n)))) (hn:0≤n∧n < l.length) :
  Eff P ⟨dst,.indexAddr T x y,ty,pos,af,gd⟩ d ρ own (.ip (IC (l.getD n.toNat 0) :: (l.drop (n.toNat+1)).map IC)) [] none []:=by
 have hi:n.toNat < l.length:=by omega
 have h:=b6 (dst:=dst) (ty:=ty) (pos:=pos) (af:=af) (gd:=gd) (d:=d) (own:=own) hT ht hs he hx (l:=l.length) (xs:=l.map IC) (by rfl) hy hn (by
  intro h0
  have:(l.map IC).length=0:=by rw [h0];rfl
  rw [List.length_map] at this;omega)
 rw [hj,Nat.mul_one,List.drop_eq_getElem_cons (by rw [List.length_map];exact hi),List.getElem_map,← List.map_drop] at h
 have e1:l.getD n.toNat 0=l[n.toNat]:=by simp [List.getD,hi]
 rw [e1];exact h
theorem rM {k:IntKind} {n:Int} {l:List Int} (ht:tt T=some i) (hs:i.sh=.sl e) (he:tt e=some j) (hj:j.size=2) (hx:ρ x=.p (.c (CS fo fs l))) (hy:ρ y=.p (.c (.v (.int k n)))) (hn:0≤n∧n < l.length) :
  Eff P ⟨dst,.indexAddr T x y,ty,pos,af,gd⟩ d ρ own (.ip (chC fo fs (l.getD n.toNat 0) ++ (l.drop (n.toNat+1)).flatMap (chC fo fs))) [] none []:=by
 have hi:n.toNat < l.length:=by omega
 have h:=b6 (dst:=dst) (ty:=ty) (pos:=pos) (af:=af) (gd:=gd) (d:=d) (own:=own) hT ht hs he hx (l:=l.length) (xs:=l.flatMap (chC fo fs)) (by rfl) hy hn (by
  intro h0
  have:=qe (fo:=fo) (fs:=fs) l
  rw [h0] at this
  simp at this
  omega)
 rw [hj,xd l n.toNat hi] at h
 have e1:l.getD n.toNat 0=l[n.toNat]:=by simp [List.getD,hi]
 rw [e1];exact h
theorem dJ {m:Nat} {l:List Int} {z:Int} (ht:tt T=some i) (hs:i.sh=.sl e) (he:tt e=some j) (hj:j.size=1) (hjb:Nat.ble j.bytes 32=true) (hx:ρ x=.vec m) (hb:own m=some (IB e l)) (hy:ρ y=.p (.c (.sl 1 [IC z]))) (hfit:l.length≤100000000) (hmd:m≠d) :
  Eff P ⟨dst,.call ⟨.builtin .append,#[x,y],#[T,T]⟩,ty,pos,af,gd⟩ d ρ own (.vec d) [(m,none)] (some (IB e (l ++ [z]))) [m]:=by
 have hl:(IB e l).cs.length=l.length:=by simp [IB]
 have h:=eY (dst:=dst) (ty:=ty) (pos:=pos) (af:=af) (gd:=gd) hT ht hs he hx hb rfl hj.symm rfl hy (by rfl) (by rw [hj];rfl) (by rw [hj];exact hjb) (by rw [hl,hj];omega) (by rw [hj];rfl) hmd
 rw [hj] at h
 unfold IB
 rw [List.map_append]
 exact h
theorem fy {m k:Nat} {l c:List Int} (ht:tt T=some i) (hs:i.sh=.sl e) (he:tt e=some j) (hj:j.size=2) (hjb:Nat.ble j.bytes 64=true) (hx:ρ x=.vec m) (hb:own m=some (CB fo fs e l)) (hy:ρ y=.p (.c (.sl k (c.flatMap (chC fo fs))))) (hk:k=c.length) (hfit:l.length+c.length≤100000000) (hmd:m≠d) :
  Eff P ⟨dst,.call ⟨.builtin .append,#[x,y],#[T,T]⟩,ty,pos,af,gd⟩ d ρ own (.vec d) [(m,none)] (some (CB fo fs e (l ++ c))) [m]:=by
 subst hk
 have hl:(CB fo fs e l).cs.length=l.length*2:=qe l
 have h:=eY (dst:=dst) (ty:=ty) (pos:=pos) (af:=af) (gd:=gd) hT ht hs he hx hb rfl hj.symm rfl hy (by rfl) (by rw [hj];exact qe c) (by rw [hj];exact hjb) (by rw [hl,hj];omega) (by rw [hj];rfl) hmd
 rw [hj] at h
 unfold CB
 rw [List.flatMap_append]
 exact h
end
section
variable {P:Program} {B:Bool} {N np:Nat} {Q:Exit→St→Prop} {s:St} {c:Code}
theorem gK {t m:Nat} {l:List Int} {e:TypeId} (ht:s.regs t=.vec m) (hb:s.own m=some (IB e l)) (h:AWp P B N np c Q ⟨upd s.regs t (.p (.c (IS l))),upd s.own m none⟩):AWp P B N np c Q s:=by
 refine iT (n:=l.length) ht hb rfl (by simp [IB]) (by show 0 < 1;omega) ?_
 exact h
theorem ep {fo fs:FuncId} {t m:Nat} {l:List Int} {e:TypeId} (ht:s.regs t=.vec m) (hb:s.own m=some (CB fo fs e l)) (h:AWp P B N np c Q ⟨upd s.regs t (.p (.c (CS fo fs l))),upd s.own m none⟩):AWp P B N np c Q s:=by
 refine iT (n:=l.length) ht hb rfl (qe l).symm (by show 0 < 2;omega) ?_
 exact h
end
end
section
open Go Go.RowKit
def rmv (p:Int):Nat→Int→Int
 | 0,n=>n
 | f+1,n=>if n % p=0 then rmv p f (n / p) else n
def rmp (n p:Int):Int:=rmv p n.toNat n
theorem gw {n p:Int} (hn:0 < n) (hp:2≤p) (h:n % p=0):0 < n / p∧n / p < n:=by
 have h1:=Int.mul_ediv_add_emod n p
 rw [h,Int.add_zero] at h1
 have h2:0 < n / p:=by
  rcases Int.lt_or_le 0 (n / p) with g | g
  ·exact g
  have:p*(n / p)≤p*0:=Int.mul_le_mul_of_nonneg_left g (by omega)
  omega
 refine ⟨h2,?_⟩
 have h3:2*(n / p)≤p*(n / p):=Int.mul_le_mul_of_nonneg_right hp (by omega)
 omega
theorem tn {p:Int} (hp:2≤p):∀ (f g:Nat) (n:Int),0 < n→n.toNat≤f→n.toNat≤g→rmv p f n=rmv p g n
 | 0,_,n,h,h1,_=>by omega
 | f+1,0,n,h,_,h2=>by omega
 | f+1,g+1,n,h,h1,h2=>by
  unfold rmv
  split
  ·next e =>
   have hd:=gw h hp e
   exact tn hp f g (n / p) hd.1 (by omega) (by omega)
  rfl
theorem gV {n p:Int} (hp:2≤p) (hn:0 < n) (h:n % p=0):rmp (n / p) p=rmp n p:=by
 have hd:=gw hn hp h
 unfold rmp
 obtain ⟨k,hk⟩:∃ k,n.toNat=k+1:=⟨n.toNat - 1,by omega⟩
 rw [hk]
 show _=(if n % p=0 then rmv p k (n / p) else n)
 rw [if_pos h]
 exact tn hp _ _ _ hd.1 (Nat.le_refl _) (by omega)
theorem iF {n p:Int} (h:n % p≠0):rmp n p=n:=by
 unfold rmp
 cases n.toNat with
 | zero=>rfl
 | succ k=>unfold rmv;rw [if_neg h]
theorem gW {p:Int} (hp:2≤p):∀ (f:Nat) (n:Int),n.toNat≤f→0 < n→0 < rmp n p∧rmp n p≤n∧rmp n p % p≠0∧∃ k:Nat,n=rmp n p*p ^ k
 | 0,n,h,h0=>by omega
 | f+1,n,h,h0=>by
  by_cases e:n % p=0
  ·have hd:=gw h0 hp e
   obtain ⟨h1,h2,h3,k,h4⟩:=gW hp f (n / p) (by omega) hd.1
   rw [gV hp h0 e] at h1 h2 h3 h4
   refine ⟨h1,by omega,h3,k+1,?_⟩
   have h5:=Int.mul_ediv_add_emod n p
   rw [e,Int.add_zero,h4] at h5
   rw [← h5,Int.pow_succ]
   grind
  rw [iF e]
  exact ⟨h0,Int.le_refl _,e,0,by simp⟩
def gGo:Nat→Int→Int→List Int
 | 0,_,_=>[]
 | f+1,p,n=>if p*p≤n then (if n % p=0 then p :: gGo f (p+2) (rmp n p) else gGo f (p+2) n) else if 1 < n then [n] else []
def fY (n:Int):List Int:=gGo 1200 3 n
def spC (d:Int):List Int:=if d % 4≠0 then [] else
 if (-d / 4) % 8=0 then [-4,8] else if (-d / 4) % 8=1∨(-d / 4) % 8=4∨(-d / 4) % 8=5 then [-4] else if (-d / 4) % 8=2 then [-8] else if (-d / 4) % 8=6 then [8] else []
def chs (d:Int):List Int:=fY (rmp (-d) 2) ++ spC d
theorem Ad {f:Nat} {p n:Int} (hn:n≤1) (hp:2≤p):gGo f p n=[]:=by
 cases f with
 | zero=>rfl
 | succ f =>
  unfold gGo
  have:¬ p*p≤n:=fun h=>by
   have:=Int.mul_le_mul hp hp (by omega) (by omega)
   omega
  rw [if_neg this,if_neg (by omega)]
structure OcI (n0 n p:Int) (out:List Int):Prop where
 n1:1≤n
 p3:3≤p
 nb:n≤4194304
 nn:n % 2=1
 po:p % 2=1
 pb:1 < n→p≤2051
 eq:∃ f:Nat,(1 < n→(f:Int)=1200 - (p - 3) / 2)∧out ++ gGo f p n=fY n0
 len:out.length≤1200∧(1 < n→(out.length:Int)≤(p - 3) / 2)
theorem OcI.start {n:Int} (h1:1≤n) (hb:n≤4194304) (ho:n % 2=1):OcI n n 3 [] :=
 ⟨h1,by omega,hb,ho,by omega,fun _=>by omega,⟨1200,fun _=>by omega,rfl⟩,by simp,fun _=>by simp⟩
section
variable {n0 n p:Int} {out:List Int}
theorem OcI.fin (i:OcI n0 n p out) (h:¬ n > 1):out=fY n0:=by
 obtain ⟨f,_,e⟩:=i.eq
 rw [Ad (by omega) (by have:=i.p3;omega),List.append_nil] at e
 exact e
theorem OcI.sq (i:OcI n0 n p out) (hn:n > 1) (h:p*p≤n):p≤2048:=by
 have:=i.nb
 rcases Int.lt_or_le 2048 p with g | g
 ·have:=Int.mul_le_mul g g (by omega) (by omega)
  omega
 exact g
theorem OcI.f1 (i:OcI n0 n p out) (hn:n > 1):∃ f:Nat,((f:Int)+1=1200 - (p - 3) / 2)∧out ++ gGo (f+1) p n=fY n0:=by
 obtain ⟨f,h1,e⟩:=i.eq
 have h2:=h1 hn
 have hp:=i.pb hn
 cases f with
 | zero=>omega
 | succ f=>exact ⟨f,by omega,e⟩
theorem OcI.next (i:OcI n0 n p out) (hn:n > 1) (h:¬ p*p > n) (hd:n % p≠0):OcI n0 n (p+2) out:=by
 have h':p*p≤n:=by omega
 have hs:=i.sq hn h'
 obtain ⟨f,h1,e⟩:=i.f1 hn
 unfold gGo at e
 rw [if_pos h',if_neg hd] at e
 have hl:=i.len
 have p3:=i.p3
 have hl2:=hl.2 hn
 exact ⟨i.n1,by omega,i.nb,i.nn,by have:=i.po;omega,fun _=>by omega,⟨f,fun _=>by omega,e⟩,hl.1,fun _=>by omega⟩
theorem qm {n p:Int} (hp:3≤p) (hn:0 < n) (ho:n % 2=1):rmp n p % 2=1:=by
 obtain ⟨h1,h2,h3,k,h4⟩:=gW (p:=p) (by omega) n.toNat n (Nat.le_refl _) hn
 rcases (show rmp n p % 2=0∨rmp n p % 2=1 by omega) with g | g
 ·have:n % 2=0:=by rw [h4,Int.mul_emod,g];simp
  omega
 exact g
theorem OcI.take (i:OcI n0 n p out) (hn:n > 1) (h:¬ p*p > n) (hd:n % p=0):OcI n0 (rmp n p) (p+2) (out ++ [p]):=by
 have h':p*p≤n:=by omega
 have hs:=i.sq hn h'
 obtain ⟨f,h1,e⟩:=i.f1 hn
 unfold gGo at e
 rw [if_pos h',if_pos hd] at e
 have hl:=i.len
 have p3:=i.p3
 have hl2:=hl.2 hn
 obtain ⟨r1,r2,r3,_⟩:=gW (p:=p) (by omega) n.toNat n (Nat.le_refl _) (by omega)
 have nb:=i.nb
 refine ⟨by omega,by omega,by omega,qm p3 (by omega) i.nn,by have:=i.po;omega,fun _=>by omega,⟨f,fun _=>by omega,?_⟩,?_,fun _=>?_⟩
 ·rw [List.append_assoc];exact e
 ·rw [List.length_append,List.length_singleton];omega
 rw [List.length_append,List.length_singleton];omega
theorem OcI.last (i:OcI n0 n p out) (hn:n > 1) (h:p*p > n):OcI n0 1 (n+2) (out ++ [n]):=by
 obtain ⟨f,h1,e⟩:=i.f1 hn
 unfold gGo at e
 rw [if_neg (by omega),if_pos hn] at e
 have hl:=i.len
 have hl2:=hl.2 hn
 have hp:=i.pb hn
 refine ⟨by omega,by omega,by omega,by omega,by have:=i.nn;omega,fun x=>by omega,⟨0,fun x=>by omega,?_⟩,?_,fun x=>by omega⟩
 ·show out ++ [n] ++ []=_
  rw [List.append_nil];exact e
 rw [List.length_append,List.length_singleton];omega
end
theorem BH {n:Int} (hn:1 < n):rmp n n=1:=by
 have e:n % n=0:=Int.emod_self
 have h:=gV (p:=n) (by omega) (by omega) e
 rw [Int.ediv_self (by omega)] at h
 rw [← h]
 exact iF (by rw [Int.emod_eq_of_lt (by omega) hn];omega)
theorem jj (n:Int):(fY n).length≤1200:=by
 have key:∀ (f:Nat) (p n:Int),(gGo f p n).length≤f:=by
  intro f
  induction f with
  | zero=>intro p n;exact Nat.le_refl _
  | succ f ih =>
   intro p n
   unfold gGo
   split
   ·split
    ·rw [List.length_cons];have:=ih (p+2) (rmp n p);omega
    have:=ih (p+2) n;omega
   split
   ·simp
   simp
 exact key _ _ _
end
section
open Go Go.RowKit
def sgB (b:Bool):Int:=if b then 1 else -1
def ixV (l:List Int) (x:Int):Int:=if l.findIdx (· == x) < l.length then (l.findIdx (· == x):Nat) else -1
def qM (l:List Int) (x:Int):Bool:=decide (0≤ixV l x)
theorem yu {l:List Int} {x:Int} {k:Nat} (h:k≤l.findIdx (· == x)) (hk:(k:Int) < l.length) (hne:x≠l.getD k 0):k+1≤l.findIdx (· == x):=by
 rcases Nat.lt_or_eq_of_le h with g | g
 ·exact g
 exfalso
 have h1:l.findIdx (· == x) < l.length:=by omega
 have h2:=List.findIdx_getElem (w:=h1)
 simp only [beq_iff_eq] at h2
 apply hne
 rw [← h2]
 simp [List.getD,← g,show k < l.length by omega]
theorem Kb {l:List Int} {x:Int} {k:Nat} (h:k≤l.findIdx (· == x)) (hk:(k:Int) < l.length) (he:x=l.getD k 0):ixV l x=(k:Int):=by
 have hk':k < l.length:=by omega
 have hp:l[k]=x:=by rw [he];simp [List.getD,hk']
 have h1:l.findIdx (· == x)≤k:=by
  rcases Nat.lt_or_ge k (l.findIdx (· == x)) with g | g
  ·have:=List.not_of_lt_findIdx g
   simp [hp] at this
  exact g
 have e:l.findIdx (· == x)=k:=by omega
 unfold ixV
 rw [e,if_pos hk']
theorem Kc {l:List Int} {x:Int} {k:Nat} (h:k≤l.findIdx (· == x)) (hk:¬ (k:Int) < l.length):ixV l x=-1:=by
 unfold ixV
 rw [if_neg (by omega)]
def cv (c n:Int):Int:=if c=-4∨c=8∨c=-8 then sgB (qM (spR c) (n % 8)) else kr n c
theorem Eu {c n:Int} (h:c=-4∨c=8∨c=-8):sgB (qM (spR c) (n % 8))=cv c n:=by unfold cv;rw [if_pos h]
theorem p8 {c n:Int} (h:¬ (c=-4∨c=8∨c=-8)):kr n c=cv c n:=by unfold cv;rw [if_neg h]
theorem Ll {b:Bool} (h:b=true):(1:Int)=sgB b:=by rw [h];rfl
theorem Lm {b:Bool} (h:b=false):(-1:Int)=sgB b:=by rw [h];rfl
theorem GD {fo fs:FuncId} {p:Int} (h:3≤p) (ho:p % 2=1):[IC p,DV.fn fo [.ip [IC p]]]=chC fo fs p:=by
 unfold chC chF
 rw [if_neg (by omega)]
theorem NB (a b:Int):Int.gcd b (a.tmod b)=Int.gcd a b:=by
 have h1:(a.tmod b).natAbs=a.natAbs % b.natAbs:=Int.natAbs_tmod a b
 unfold Int.gcd
 rw [h1,Nat.gcd_comm b.natAbs,← Nat.gcd_rec,Nat.gcd_comm]
def ocM (n p:Int):Nat:=if 1 < n then (5000 - p).toNat else 0
def RI (n p q:Int) (out out':List Int):Prop:=(q=n∧p*p > n∧out'=out ++ [n])∨(q=p∧¬ p*p > n∧n % p=0∧out'=out ++ [p])∨(q=p∧¬ p*p > n∧n % p≠0∧out'=out)
def QI (n p q:Int):Prop:=(q=n∧p*p > n)∨(q=p∧¬ p*p > n)
section
variable {n0 n p q:Int} {out out':List Int}
theorem OcI.q3 (i:OcI n0 n p out) (hn:n > 1) (h:QI n p q):3≤q∧q % 2=1∧q≤4194304:=by
 have h1:=i.nn;have h2:=i.po;have h3:=i.p3;have h4:=i.nb;have h5:=i.pb hn
 rcases h with ⟨rfl,_⟩ | ⟨rfl,_⟩
 ·omega
 omega
theorem QI.yes (h:QI n p q) (hd:n % q=0):RI n p q out (out ++ [q]):=by
 rcases h with ⟨rfl,g⟩ | ⟨rfl,g⟩
 ·exact .inl ⟨rfl,g,rfl⟩
 exact .inr (.inl ⟨rfl,g,hd,rfl⟩)
theorem QI.no (h:QI n p q) (hn:n > 1) (hd:n % q≠0):RI n p q out out:=by
 rcases h with ⟨rfl,g⟩ | ⟨rfl,g⟩
 ·exact absurd Int.emod_self hd
 exact .inr (.inr ⟨rfl,g,hd,rfl⟩)
theorem OcI.close (i:OcI n0 n p out) (hn:n > 1) (h:RI n p q out out'):OcI n0 (rmp n q) (q+2) out'∧ocM (rmp n q) (q+2) < ocM n p:=by
 have hp:=i.pb hn
 have e1:ocM n p=(5000 - p).toNat:=by unfold ocM;rw [if_pos (by omega)]
 rcases h with ⟨rfl,g,rfl⟩ | ⟨rfl,g,hd,rfl⟩ | ⟨rfl,g,hd,rfl⟩
 ·rw [BH (by omega)]
  refine ⟨i.last hn g,?_⟩
  rw [e1];unfold ocM;rw [if_neg (by omega)];omega
 ·refine ⟨i.take hn g hd,?_⟩
  rw [e1];unfold ocM;split <;> omega
 rw [iF hd]
 refine ⟨i.next hn g hd,?_⟩
 rw [e1];unfold ocM;rw [if_pos (by omega)];omega
end
theorem Lf {d:Int} (h:d.tmod 4≠0):spC d=[]:=by
 unfold spC
 rw [if_pos]
 intro e
 exact h (by rw [Int.tmod_eq_emod];split <;> omega)
theorem nD {d:Int} (h:d.tmod 4=0):¬ d % 4≠0:=fun e=>by
 have:=Int.mul_tdiv_add_tmod d 4
 omega
theorem Ex {d:Int} (h:d.tmod 4≠0):fY (rmp (-d) 2)=chs d:=by unfold chs;rw [Lf h,List.append_nil]
theorem nY {d:Int} {l:List Int} (_h:d.tmod 4=0) (e:l=spC d):fY (rmp (-d) 2) ++ l=chs d:=by unfold chs;rw [e]
section
variable {d:Int} (h:d.tmod 4=0)
include h
theorem Lj (h1:-d / 4 % 8=0):[-4,8]=spC d:=by unfold spC;rw [if_neg (nD h),if_pos h1]
theorem xn (h0:¬ -d / 4 % 8=0) (h1:-d / 4 % 8=1∨-d / 4 % 8=4∨-d / 4 % 8=5):[-4]=spC d:=by unfold spC;rw [if_neg (nD h),if_neg h0,if_pos h1]
theorem Li (h1:-d / 4 % 8=2):[-8]=spC d:=by unfold spC;rw [if_neg (nD h),if_neg (by omega),if_neg (by omega),if_pos h1]
theorem Lh (h1:-d / 4 % 8=6):[8]=spC d:=by unfold spC;rw [if_neg (nD h),if_neg (by omega),if_neg (by omega),if_neg (by omega),if_pos h1]
theorem Lg (h0:¬ -d / 4 % 8=0) (h1:¬ -d / 4 % 8=1) (h4:¬ -d / 4 % 8=4) (h5:¬ -d / 4 % 8=5) (h2:¬ -d / 4 % 8=2) (h6:¬ -d / 4 % 8=6):fY (rmp (-d) 2)=chs d:=by
 have:spC d=[]:=by
  unfold spC;rw [if_neg (nD h),if_neg h0,if_neg (by omega),if_neg h2,if_neg h6]
 unfold chs;rw [this,List.append_nil]
end
end
section
open Go Go.RowKit
theorem FP {n p:Int} (hp:3≤p) (hn:0 < n) (h:n % p=0):3*rmp n p≤n:=by
 have hd:=gw hn (by omega) h
 obtain ⟨h1,h2,_,_⟩:=gW (p:=p) (by omega) (n / p).toNat (n / p) (Nat.le_refl _) hd.1
 rw [gV (by omega) hn h] at h1 h2
 have h3:=Int.mul_ediv_add_emod n p
 rw [h,Int.add_zero] at h3
 have h4:3*(n / p)≤p*(n / p):=Int.mul_le_mul_of_nonneg_right hp (by omega)
 omega
theorem yr:∀ (f:Nat) (p n:Int),3≤p→1≤n→n % 2=1→(3:Int) ^ (gGo f p n).length≤n
 | 0,p,n,_,hn,_=>by simpa [gGo] using hn
 | f+1,p,n,hp,hn,ho=>by
  unfold gGo
  split
  ·split
   ·next h =>
    obtain ⟨r1,_,_,_⟩:=gW (p:=p) (by omega) n.toNat n (Nat.le_refl _) (by omega)
    have ih:=yr f (p+2) (rmp n p) (by omega) (by omega) (qm hp (by omega) ho)
    have h3:=FP hp (by omega) h
    rw [List.length_cons,Int.pow_succ]
    omega
   exact yr f (p+2) n (by omega) hn ho
  split
  ·show (3:Int) ^ 1≤n;omega
  show (3:Int) ^ 0≤n;omega
theorem M6 {n:Int} (h:0 < n):0 < rmp n 2∧rmp n 2≤n∧rmp n 2 % 2=1:=by
 obtain ⟨h1,h2,h3,_⟩:=gW (p:=2) (by omega) n.toNat n (Nat.le_refl _) h
 exact ⟨h1,h2,by omega⟩
theorem ke {d:Int} (h0:d < 0) (h1:-4194304≤d):(chs d).length≤16:=by
 obtain ⟨r1,r2,r3⟩:=M6 (n:=-d) (by omega)
 have h3:=yr 1200 3 (rmp (-d) 2) (by omega) (by omega) r3
 have hl:(fY (rmp (-d) 2)).length≤14:=by
  have e:(fY (rmp (-d) 2))=gGo 1200 3 (rmp (-d) 2):=rfl
  rw [e]
  rcases Nat.lt_or_ge 14 (gGo 1200 3 (rmp (-d) 2)).length with g | g
  ·have h4:(3:Nat) ^ 15≤3 ^ (gGo 1200 3 (rmp (-d) 2)).length:=Nat.pow_le_pow_right (by omega) g
   have h5:((3 ^ (gGo 1200 3 (rmp (-d) 2)).length:Nat):Int)≤rmp (-d) 2:=by rw [Int.natCast_pow];exact h3
   omega
  exact g
 have hs:(spC d).length≤2:=by
  unfold spC
  split
  ·simp
  split
  ·simp
  split
  ·simp
  split
  ·simp
  split <;> simp
 unfold chs
 rw [List.length_append];omega
def gnV (d:Int):Int:=if szE d=0 then d else 0
theorem yo {d:Int} (h:0≤d∨d % 4 > 1):AV.t [PE 0,PE 5]=.t [PE (gnV d),PE (szE d)]:=by
 have e:szE d=5:=by unfold szE;rw [if_pos h]
 unfold gnV;rw [e];rfl
theorem Cw {d:Int} (h:¬ (0≤d∨d % 4 > 1)) (h1:-d > 4194304):AV.t [PE 0,PE 2]=.t [PE (gnV d),PE (szE d)]:=by
 have e:szE d=2:=by unfold szE;rw [if_neg h,if_pos h1]
 unfold gnV;rw [e];rfl
theorem Kl {d:Int} (h:¬ (0≤d∨d % 4 > 1)) (h1:¬ -d > 4194304):AV.t [PE d,PE 0]=.t [PE (gnV d),PE (szE d)]:=by
 have e:szE d=0:=by unfold szE;rw [if_neg h,if_neg h1]
 unfold gnV;rw [e];rfl
theorem pX {d:Int} (h:szE d=0):gnV d=d∧d < 0∧-4194304≤d:=by
 have:=DQ h
 exact ⟨by unfold gnV;rw [if_pos h],by omega,by omega⟩
def chE (d:Int):List Int:=if szE d=0 then chs d else []
theorem sN {d:Int} (h:szE d=0):chE d=chs d:=by unfold chE;rw [if_pos h]
theorem Ey {d:Int} (h:¬ szE d=0):chE d=[]:=by unfold chE;rw [if_neg h]
theorem rc {l:List Int} {k:Nat} (h:(k:Int) < l.length):l.take k ++ [l.getD k 0]=l.take (k+1):=by
 have hk:k < l.length:=by omega
 rw [List.take_add_one,List.getElem?_eq_getElem hk]
 simp [List.getD,hk]
theorem oD {l:List Int} {k:Nat} (h:¬ (k:Int) < l.length):l.take k=l:=List.take_of_length_le (by omega)
end
section
open Go Go.RowKit
def ggV:Nat→Int→Int→Int
 | 0,a,_=>a
 | f+1,a,b=>if b=0 then a else ggV f b (a.tmod b)
def gg (a b:Int):Int:=ggV (b.natAbs+1) a b
theorem wR:∀ (f:Nat) (a b:Int),b.natAbs < f→(ggV f a b).natAbs=Int.gcd a b
 | 0,_,_,h=>by omega
 | f+1,a,b,h=>by
  unfold ggV
  split
  ·next e=>subst e;simp
  next e =>
  have h1:(a.tmod b).natAbs=a.natAbs % b.natAbs:=Int.natAbs_tmod a b
  have h2:a.natAbs % b.natAbs < b.natAbs:=Nat.mod_lt _ (by omega)
  rw [wR f b (a.tmod b) (by omega),NB]
theorem uA:∀ (f g:Nat) (a b:Int),b.natAbs < f→b.natAbs < g→ggV f a b=ggV g a b
 | 0,_,_,_,h,_=>by omega
 | _+1,0,_,_,_,h=>by omega
 | f+1,g+1,a,b,h,h'=>by
  unfold ggV
  split
  ·rfl
  next e =>
  have h1:(a.tmod b).natAbs=a.natAbs % b.natAbs:=Int.natAbs_tmod a b
  have h2:a.natAbs % b.natAbs < b.natAbs:=Nat.mod_lt _ (by omega)
  exact uA f g b (a.tmod b) (by omega) (by omega)
theorem pY (a b:Int):(gg a b).natAbs=Int.gcd a b:=wR _ a b (by omega)
theorem NA {a b:Int} (h:b=0):gg a b=a:=by unfold gg ggV;rw [if_pos h]
theorem He {a b:Int} (h:b≠0):gg b (a.tmod b)=gg a b:=by
 have h1:(a.tmod b).natAbs=a.natAbs % b.natAbs:=Int.natAbs_tmod a b
 have h2:a.natAbs % b.natAbs < b.natAbs:=Nat.mod_lt _ (by omega)
 unfold gg
 rw [uA _ b.natAbs b (a.tmod b) (by omega) (by omega)]
 show _=(if b=0 then a else ggV b.natAbs b (a.tmod b))
 rw [if_neg h]
theorem gg_one {a b:Int}:Int.gcd a b=1↔gg a b=1∨gg a b=-1:=by have:=pY a b;omega
theorem IQ {a b:Int} (_ha:bp a) (hb:bp b) (h:b≠0):bp (a.tmod b)∧(a.tmod b).natAbs < b.natAbs:=by
 have h1:(a.tmod b).natAbs=a.natAbs % b.natAbs:=Int.natAbs_tmod a b
 have h2:a.natAbs % b.natAbs < b.natAbs:=Nat.mod_lt _ (by omega)
 unfold bp at *
 omega
def gpE (f:Fm):Int:=if ck f.a f.b f.c≠0 then ck f.a f.b f.c else if szE (dsc f.a f.b f.c)≠0 then szE (dsc f.a f.b f.c) else if prim f.a f.b f.c=true then 0 else 80
theorem uz {f:Fm} (h:gpE f=0):Cl (dsc f.a f.b f.c) f∧szE (dsc f.a f.b f.c)=0:=by
 unfold gpE at h
 split at h
 ·next g=>exact absurd h g
 next g1 =>
 split at h
 ·next g=>exact absurd h g
 next g2 =>
 split at h
 ·next g3 =>
  have e1:ck f.a f.b f.c=0:=Classical.not_not.1 g1
  have e2:szE (dsc f.a f.b f.c)=0:=Classical.not_not.1 g2
  refine ⟨I6 ?_,e2⟩
  unfold rfE
  have:=(DQ e2)
  rw [if_neg (fun x=>x e1),if_neg (by omega),if_pos g3]
 cases h
def gpV (f:Fm):Int:=if gpE f=0 then dsc f.a f.b f.c else 0
theorem p9 {d:Int} {f:Fm} (h:Cl d f) (_hd:-4194304≤d) (hE:szE d=0):gpE f=0:=by
 have h1:=Aq h
 unfold rfE at h1
 unfold gpE
 rw [h.disc,hE]
 split at h1
 ·next g=>exact absurd h1 g
 next g=>rw [if_neg g,if_neg (by simp),if_pos h.prim]
theorem gb {a b c x y:Int} (ha:0≤a∧a≤2000) (hb:-2000≤b∧b≤2000) (hc:0≤c∧c≤1400000) (hx:0≤x∧x≤1400001) (hy:0≤y∧y≤1400001) :
  (0≤a*x∧a*x≤2800002000)∧(0≤a*x*x∧a*x*x≤3920005600002000)∧(-2800002000≤b*x∧b*x≤2800002000)∧(-3920005600002000≤b*x*y∧b*x*y≤3920005600002000)∧(0≤c*y∧c*y≤1960001400000)∧(0≤c*y*y∧c*y*y≤2744003920001400000):=by
 have m1:∀ {u v A B:Int},0≤u→u≤A→0≤v→v≤B→0≤u*v∧u*v≤A*B:=fun h1 h2 h3 h4=>⟨Int.mul_nonneg h1 h3,Int.mul_le_mul h2 h4 h3 (by omega)⟩
 have a1:=m1 ha.1 ha.2 hx.1 hx.2
 have a2:=m1 a1.1 a1.2 hx.1 hx.2
 have c1:=m1 hc.1 hc.2 hy.1 hy.2
 have c2:=m1 c1.1 c1.2 hy.1 hy.2
 have nb:∀ {u v A B:Int},-A≤u→u≤A→0≤v→v≤B→0≤A→-(A*B)≤u*v∧u*v≤A*B:=fun {u v A B} h1 h2 h3 h4 h5=>by
  rcases Int.lt_or_le u 0 with g | g
  ·have:=m1 (show 0≤-u by omega) (show -u≤A by omega) h3 h4
   rw [Int.neg_mul] at this
   have:=Int.mul_nonneg h5 (show 0≤B by omega)
   omega
  have:=m1 g h2 h3 h4
  have:=Int.mul_nonneg h5 (show 0≤B by omega)
  omega
 have b1:=nb (u:=b) (v:=x) (A:=2000) (B:=1400001) (by omega) hb.2 hx.1 hx.2 (by omega)
 have b2:=nb (u:=b*x) (v:=y) (A:=2800002000) (B:=1400001) (by omega) (by omega) hy.1 hy.2 (by omega)
 refine ⟨by omega,by omega,by omega,by omega,by omega,by omega⟩
theorem oI {d:Int} {g:Fm} (hg:Cl d g) (e:g.rd=g) (hd:-4194304≤d):(0 < g.a∧g.a≤2000)∧(-2000≤g.b∧g.b≤2000)∧0 < g.c∧g.c≤1400000:=by
 have hr:Rd g:=e ▸ hg.rd_Rd
 have h1:=hr.a;have h2:=hr.b;have h3:=hr.c
 have hdd:g.b*g.b - 4*g.a*g.c=d:=hg.disc
 rw [Int.mul_assoc] at hdd
 have hb:g.b*g.b≤g.a*g.a:=kh (by omega)
 have hac:g.a*g.a≤g.a*g.c:=Int.mul_le_mul_of_nonneg_left h3 (by omega)
 have ha:g.a≤2000:=by
  rcases Int.lt_or_le 2000 g.a with g0 | g0
  ·have:=Int.mul_le_mul g0 g0 (by omega) (by omega);omega
  exact g0
 have hc1:1*g.c≤g.a*g.c:=Int.mul_le_mul_of_nonneg_right (by omega) (by omega)
 exact ⟨⟨h1,ha⟩,by omega,by omega,by omega⟩
def NoP (g:Fm) (d:Int) (y:Int):Prop:=∀ u v:Int,0≤u→0≤v→u < y→v < y→Int.gcd (vl g.a g.b g.c u v) (2*d)≠1
def NoX (g:Fm) (d:Int) (y x:Int):Prop:=∀ u:Int,0≤u→u < x→Int.gcd (vl g.a g.b g.c u y) (2*d)≠1∧Int.gcd (vl g.a g.b g.c y u) (2*d)≠1
def RpN (g:Fm) (N:Int):Prop:=∃ u v:Int,N=vl g.a g.b g.c u v
theorem NoP.start {g:Fm} {d:Int} (hd:d < 0):NoP g d 1:=fun u v h1 h2 h3 h4=>by
 have e1:u=0:=by omega
 have e2:v=0:=by omega
 subst e1 e2
 have:vl g.a g.b g.c 0 0=0:=by unfold vl;simp
 rw [this]
 show Nat.gcd 0 (2*d).natAbs≠1
 rw [Nat.gcd_zero_left];omega
theorem NoX.start {g:Fm} {d y:Int}:NoX g d y 0:=fun u h1 h2=>by omega
theorem NoX.next {g:Fm} {d y x:Int} (h:NoX g d y x) (h1:Int.gcd (vl g.a g.b g.c x y) (2*d)≠1) (h2:Int.gcd (vl g.a g.b g.c y x) (2*d)≠1):NoX g d y (x+1):=fun u g1 g2=>by
 rcases Int.lt_or_eq_of_le (show u≤x by omega) with q | q
 ·exact h u g1 q
 rw [q];exact ⟨h1,h2⟩
theorem NoP.next {g:Fm} {d y:Int} (h:NoP g d y) (h1:NoX g d y (y+1)):NoP g d (y+1):=fun u v g1 g2 g3 g4=>by
 rcases Int.lt_or_eq_of_le (show u≤y by omega) with q | q
 ·rcases Int.lt_or_eq_of_le (show v≤y by omega) with q2 | q2
  ·exact h u v g1 g2 q q2
  rw [q2];exact (h1 u g1 (by omega)).1
 rw [q];exact (h1 v g2 (by omega)).2
theorem NoP.le {g:Fm} {d y:Int} (h:NoP g d y) {B:Int} (hx:∃ x y:Int,0≤x∧x≤B∧0≤y∧y≤B∧Int.gcd (vl g.a g.b g.c x y) (2*d)=1):y≤B:=by
 obtain ⟨u,v,h1,h2,h3,h4,h5⟩:=hx
 rcases Int.lt_or_le B y with q | q
 ·exact absurd h5 (h u v h1 h3 (by omega) (by omega))
 exact q
end
section
open Go Go.RowKit
section ops
end ops
end
section
open Go Go.RowKit
end
section
open Go Go.RowKit
section scope
end scope
end
section
open Go Go.RowKit
end
section
open Go Go.RowKit
end
section
open Go Go.RowKit
end
section
open Go Go.RowKit
theorem bm {x y:Int} {M N:Nat} (hx:x.natAbs≤M) (hy:y.natAbs≤N):(x*y).natAbs≤M*N:=by rw [Int.natAbs_mul];exact Nat.mul_le_mul hx hy
theorem Fy:∀ b:Fin 256,((c9 b.val).a.natAbs≤17∧(c9 b.val).b.natAbs≤17)∧(c9 b.val).c.natAbs≤17∧(c9 b.val).d.natAbs≤17:=by decide +kernel
theorem sU {a b c x y:Int} (ha:a.natAbs≤25) (hb:b.natAbs≤25) (hc:c.natAbs≤3000) (hx:x.natAbs≤17) (hy:y.natAbs≤17):(vl a b c x y).natAbs≤881450:=by
 unfold vl
 have h1:=bm (bm ha hx) hx
 have h2:=bm (bm hb hx) hy
 have h3:=bm (bm hc hy) hy
 omega
theorem AF {a b c p q r s:Int} (ha:a.natAbs≤25) (hb:b.natAbs≤25) (hc:c.natAbs≤3000) (hp:p.natAbs≤17) (hq:q.natAbs≤17) (hr:r.natAbs≤17) (hs:s.natAbs≤17):(apB a b c p q r s).natAbs≤1763000:=by
 unfold apB
 have h1:=bm (bm ha hp) hq
 have h2:=bm (bm hc hr) hs
 have h3:=bm hp hs
 have h4:=bm hq hr
 have h5:=bm hb (show (p*s+q*r).natAbs≤578 by omega)
 omega
theorem zO {D i m:Nat} (hm:m < 256):(mkF D i m).a.natAbs≤1763000∧(mkF D i m).b.natAbs≤1763000∧(mkF D i m).c.natAbs≤1763000:=by
 obtain ⟨h1,h2,h3,h4,_⟩:=gX D i
 have h5:=Ea D i
 have ha:(pik D i).a.natAbs≤25:=by omega
 have hb:(pik D i).b.natAbs≤25:=by omega
 have hc:(pik D i).c.natAbs≤3000:=by omega
 obtain ⟨⟨ta,tb⟩,tc,td⟩:=Fy ⟨m,hm⟩
 unfold mkF
 split
 ·exact ⟨by omega,by omega,by omega⟩
 exact ⟨Nat.le_trans (sU ha hb hc ta tc) (by decide),AF ha hb hc ta tb tc td,Nat.le_trans (sU ha hb hc tb td) (by decide)⟩
theorem JS {D i m:Nat} (hm:m < 256):L 5 (mkF D i m).a∧L 5 (mkF D i m).b∧L 5 (mkF D i m).c:=by
 have h:=zO (D:=D) (i:=i) hm
 exact ⟨by unfold L;omega,by unfold L;omega,by unfold L;omega⟩
theorem JR {D i m:Nat} (hm:m < 256):L 6 (mkF D i m).a∧L 6 (mkF D i m).b∧L 6 (mkF D i m).c:=by
 have h:=JS (D:=D) (i:=i) hm
 exact ⟨h.1.mono (by decide),h.2.1.mono (by decide),h.2.2.mono (by decide)⟩
end
section
open Go Go.RowKit
theorem JQ (D i m:Nat):Cl (-szz D) (mkF D i m):=by
 refine ⟨GL D i m,?_,GM D i m⟩
 have h:=(gX D i).2.2.2.2.2.2
 unfold mkF
 split
 ·exact h
 rw [← tF (pik D i) (m:=c9 m) (by rw [oX];rfl)];exact h
theorem Ld (D:Nat):-1000000000000000000≤-szz D∧-szz D < 0:=by have:=e9 D;omega
end
section
open Go Go.RowKit
theorem qQ {c:Int}:∀ (f:Nat) (p n:Int),3≤p→p % 2=1→1≤n→n % 2=1→c∈gGo f p n→3≤c∧c % 2=1∧c ∣ n
 | 0,_,_,_,_,_,_,h=>by simp [gGo] at h
 | f+1,p,n,hp,hpo,hn,ho,h=>by
  unfold gGo at h
  split at h
  ·split at h
   ·next e =>
    obtain ⟨r1,r2,r3,k,r4⟩:=gW (p:=p) (by omega) n.toNat n (Nat.le_refl _) (by omega)
    rcases List.mem_cons.1 h with h | h
    ·subst h;exact ⟨hp,hpo,Int.dvd_of_emod_eq_zero e⟩
    obtain ⟨g1,g2,g3⟩:=qQ f (p+2) (rmp n p) (by omega) (by omega) (by omega) (qm hp (by omega) ho) h
    exact ⟨g1,g2,Int.dvd_trans g3 ⟨_,r4⟩⟩
   exact qQ f (p+2) n (by omega) (by omega) hn ho h
  split at h
  ·next e =>
   rw [List.mem_singleton] at h;subst h
   exact ⟨by omega,ho,Int.dvd_refl _⟩
  simp at h
theorem oQ {d c:Int} (h0:d < 0) (h:c∈fY (rmp (-d) 2)):3≤c∧c % 2=1∧c ∣ d:=by
 obtain ⟨r1,r2,r3,k,r4⟩:=gW (p:=2) (by omega) (-d).toNat (-d) (Nat.le_refl _) (by omega)
 obtain ⟨g1,g2,g3⟩:=qQ 1200 3 (rmp (-d) 2) (by omega) (by omega) (by omega) (by omega) h
 refine ⟨g1,g2,?_⟩
 have:c ∣ -d:=Int.dvd_trans g3 ⟨_,r4⟩
 exact Int.dvd_neg.1 this
theorem qi {d c:Int} (h:c∈spC d):d % 4=0∧((c=-4∧((-d / 4) % 8=0∨(-d / 4) % 8=1∨(-d / 4) % 8=4∨(-d / 4) % 8=5))∨(c=8∧((-d / 4) % 8=0∨(-d / 4) % 8=6))∨(c=-8∧(-d / 4) % 8=2)):=by
 unfold spC at h
 split at h
 ·simp at h
 next h4 =>
 refine ⟨Classical.not_not.1 h4,?_⟩
 split at h
 ·next e=>simp only [List.mem_cons,List.not_mem_nil,or_false] at h;rcases h with rfl | rfl <;> simp [e]
 split at h
 ·next e=>simp only [List.mem_cons,List.not_mem_nil,or_false] at h;subst h;left;exact ⟨rfl,.inr e⟩
 split at h
 ·next e=>simp only [List.mem_cons,List.not_mem_nil,or_false] at h;subst h;right;right;exact ⟨rfl,e⟩
 split at h
 ·next e=>simp only [List.mem_cons,List.not_mem_nil,or_false] at h;subst h;right;left;exact ⟨rfl,.inr e⟩
 simp at h
def spv (c r:Int):Int:=sgB (qM (spR c) r)
theorem jL {c n:Int} (h:c=-4∨c=8∨c=-8):cv c n=spv c (n % 8):=(Eu h).symm
theorem nW (n:Int):∃ r:Fin 8,n % 8=(r.val:Int):=⟨⟨(n % 8).toNat,by omega⟩,by show n % 8=(((n % 8).toNat:Nat):Int);omega⟩
theorem HX (a b c x1 y1 x2 y2:Int):4*(vl a b c x1 y1*vl a b c x2 y2)=(2*a*x1*x2+b*(x1*y2+x2*y1)+2*c*y1*y2)*(2*a*x1*x2+b*(x1*y2+x2*y1)+2*c*y1*y2) - (b*b - 4*a*c)*((x1*y2 - x2*y1)*(x1*y2 - x2*y1)):=by
 unfold vl;grind
theorem qP {N d:Int} (h:Int.gcd N (2*d)=1):N % 2=1:=by
 have h1:Cop N (2*d):=h
 have h2:Cop (2*d) N:=h1.symm
 have h3:Cop 2 N:=h2.left
 have h4:Cop N 2:=h3.symm
 rcases (show N % 2=0∨N % 2=1 by omega) with g | g
 ·exfalso
  have hd:(2:Int) ∣ N:=Int.dvd_of_emod_eq_zero g
  have h5:Int.gcd N 2=1:=h4
  have h6:=Int.dvd_gcd hd (Int.dvd_refl 2)
  rw [h5] at h6
  exact absurd h6 (by decide)
 exact g
theorem wS {N d c:Int} (h:Int.gcd N (2*d)=1) (hc:c ∣ d):Cop N c:=by
 obtain ⟨k,hk⟩:=hc
 have h1:Cop N (2*d):=h
 have h2:Cop (2*d) N:=h1.symm
 have h3:Cop d N:=h2.right
 rw [hk] at h3
 exact h3.left.symm
theorem Ej {N c:Int} (hc:0 < c) (ho:c % 2=1) (h:Cop N c):kr N c=1∨kr N c=-1:=by
 rw [jD hc ho,if_pos h];exact EF N
theorem IT:∀ (r s u v m:Fin 8),r.val % 2=1→s.val % 2=1→(r.val*s.val % 8=(u.val*u.val+m.val*(v.val*v.val)) % 8) →
  ((m.val=0∨m.val=1∨m.val=4∨m.val=5)→spv (-4) r.val=spv (-4) s.val)∧((m.val=0∨m.val=6)→spv 8 r.val=spv 8 s.val)∧(m.val=2→spv (-8) r.val=spv (-8) s.val):=by decide +kernel
theorem KE {d:Int} {g:Fm} {c M N:Int} (hd:d < 0) (hg:dsc g.a g.b g.c=d) (hM:RpN g M) (hN:RpN g N) (cM:Int.gcd M (2*d)=1) (cN:Int.gcd N (2*d)=1) (hc:c∈chs d):cv c M=cv c N:=by
 obtain ⟨x1,y1,rfl⟩:=hM
 obtain ⟨x2,y2,rfl⟩:=hN
 have oM:=qP cM
 have oN:=qP cN
 have two:=HX g.a g.b g.c x1 y1 x2 y2
 have hdd:g.b*g.b - 4*g.a*g.c=d:=hg
 rw [hdd] at two
 unfold chs at hc
 rcases List.mem_append.1 hc with h | h
 ·obtain ⟨c3,co,cd⟩:=oQ hd h
  have cpM:=wS cM cd
  have cpN:=wS cN cd
  generalize vl g.a g.b g.c x1 y1=M at *
  generalize vl g.a g.b g.c x2 y2=N at *
  generalize (2*g.a*x1*x2+g.b*(x1*y2+x2*y1)+2*g.c*y1*y2)=U at two
  generalize (x1*y2 - x2*y1)*(x1*y2 - x2*y1)=V at two
  have hUU:c ∣ U*U - 4*(M*N):=by
   have e:U*U - 4*(M*N)=d*V:=by omega
   rw [e];exact Int.dvd_trans cd ⟨V,rfl⟩
  have c2:Cop 2 c:=lA co
  have c4:Cop (2*2) c:=c2.mul c2
  have c4MN:Cop (4*(M*N)) c:=c4.mul (cpM.mul cpN)
  have cUU:Cop (U*U) c:=gi (n:=c) (a:=4*(M*N)) (b:=U*U) (by
   have e:4*(M*N) - U*U=-(U*U - 4*(M*N)):=by omega
   rw [e];exact Int.dvd_neg.2 hUU) c4MN
  have k1:kr (U*U) c=1:=zW (by omega) co cUU.left
  have k2:kr (U*U) c=kr (4*(M*N)) c:=zY (by omega) co hUU
  have k3:kr (4*(M*N)) c=kr (2*2) c*(kr M c*kr N c):=by
   rw [show 4*(M*N)=2*2*(M*N) from rfl,di (a:=2*2) (b:=M*N) (by omega) co,di (a:=M) (b:=N) (by omega) co]
  have k4:kr (2*2) c=1:=zW (by omega) co c2
  rw [← p8 (by omega),← p8 (by omega)]
  rw [k1,k3,k4,Int.one_mul] at k2
  rcases Ej (by omega) co cpM with e1 | e1 <;> rcases Ej (by omega) co cpN with e2 | e2 <;> rw [e1,e2] at k2 <;> rw [e1,e2] <;> omega
 obtain ⟨h4,hs⟩:=qi h
 have hb:g.b % 2=0:=by
  rcases (show g.b % 2=0∨g.b % 2=1 by omega) with q | q
  ·exact q
  exfalso
  obtain ⟨t,ht⟩:∃ t,g.b=2*t+1:=⟨g.b / 2,by omega⟩
  have e1:g.b*g.b=4*(t*t+t)+1:=by rw [ht];grind
  rw [Int.mul_assoc] at hdd
  omega
 obtain ⟨t,ht⟩:∃ t,g.b=2*t:=⟨g.b / 2,by omega⟩
 obtain ⟨m,hm⟩:∃ m,d=-(4*m):=⟨-d / 4,by omega⟩
 have em:-d / 4=m:=by omega
 rw [em] at hs
 have eU:2*g.a*x1*x2+g.b*(x1*y2+x2*y1)+2*g.c*y1*y2=2*(g.a*x1*x2+t*(x1*y2+x2*y1)+g.c*y1*y2):=by rw [ht];grind
 rw [eU] at two
 generalize vl g.a g.b g.c x1 y1=M at *
 generalize vl g.a g.b g.c x2 y2=N at *
 generalize g.a*x1*x2+t*(x1*y2+x2*y1)+g.c*y1*y2=U at two
 generalize x1*y2 - x2*y1=V at two
 have eMN:M*N=U*U+m*(V*V):=by
  have e1:2*U*(2*U)=4*(U*U):=by grind
  have e2:d*(V*V)=-(4*(m*(V*V))):=by rw [hm];grind
  omega
 obtain ⟨r,er⟩:=nW M
 obtain ⟨s,es⟩:=nW N
 obtain ⟨u,eu⟩:=nW U
 obtain ⟨v,ev⟩:=nW V
 obtain ⟨q,eq⟩:=nW m
 have key:((r.val*s.val:Nat):Int) % 8=((u.val*u.val+q.val*(v.val*v.val):Nat):Int) % 8:=by
  have h1:(M*N) % 8=((r.val*s.val:Nat):Int) % 8:=by rw [Int.mul_emod,er,es,Int.natCast_mul]
  have h2:(U*U+m*(V*V)) % 8=((u.val*u.val+q.val*(v.val*v.val):Nat):Int) % 8:=by
   obtain ⟨U',hU⟩:∃ k,U=8*k+(u.val:Int):=⟨U / 8,by omega⟩
   obtain ⟨V',hV⟩:∃ k,V=8*k+(v.val:Int):=⟨V / 8,by omega⟩
   obtain ⟨m',hm'⟩:∃ k,m=8*k+(q.val:Int):=⟨m / 8,by omega⟩
   simp only [Int.natCast_add,Int.natCast_mul]
   generalize (u.val:Int)=u' at hU ⊢
   generalize (v.val:Int)=v' at hV ⊢
   generalize (q.val:Int)=q' at hm' ⊢
   have e:U*U+m*(V*V)=8*(8*U'*U'+2*U'*u'+m'*(V*V)+q'*(8*V'*V'+2*V'*v'))+(u'*u'+q'*(v'*v')):=by rw [hU,hm',hV];grind
   rw [e]
   generalize 8*U'*U'+2*U'*u'+m'*(V*V)+q'*(8*V'*V'+2*V'*v')=K
   generalize u'*u'+q'*(v'*v')=R
   omega
  rw [← h1,eMN,h2]
 have key2:r.val*s.val % 8=(u.val*u.val+q.val*(v.val*v.val)) % 8:=by omega
 have k:=IT r s u v q (by omega) (by omega) key2
 rw [eq] at hs
 rcases hs with ⟨rfl,h5⟩ | ⟨rfl,h5⟩ | ⟨rfl,h5⟩
 ·rw [jL (by simp),jL (by simp),er,es];exact k.1 (by omega)
 ·rw [jL (by simp),jL (by simp),er,es];exact k.2.1 (by omega)
 rw [jL (by simp),jL (by simp),er,es];exact k.2.2 (by omega)
end
section
open Go Go.RowKit
section
variable {f:Fm}
theorem Kk (h:¬ ck f.a f.b f.c=0):AV.t [PE 0,PE (ck f.a f.b f.c)]=.t [PE (gpV f),PE (gpE f)]:=by
 have e:gpE f=ck f.a f.b f.c:=by unfold gpE;rw [if_pos h]
 unfold gpV;rw [e,if_neg h]
theorem Kj (h:ck f.a f.b f.c=0) (h1:szE (dsc f.a f.b f.c)=0) (h2:prim f.a f.b f.c=false):AV.t [PE 0,PE 80]=.t [PE (gpV f),PE (gpE f)]:=by
 have e:gpE f=80:=by unfold gpE;rw [if_neg (fun x=>x h),if_neg (fun x=>x h1),if_neg (by rw [h2];decide)]
 unfold gpV;rw [e];rfl
theorem Ki (h:ck f.a f.b f.c=0) (h1:szE (dsc f.a f.b f.c)=0) (h2:prim f.a f.b f.c=true):AV.t [PE (gnV (dsc f.a f.b f.c)),PE (szE (dsc f.a f.b f.c))]=.t [PE (gpV f),PE (gpE f)]:=by
 have e:gpE f=0:=by unfold gpE;rw [if_neg (fun x=>x h),if_neg (fun x=>x h1),if_pos h2]
 unfold gpV gnV;rw [e,h1]
theorem Kh (h:ck f.a f.b f.c=0) (h1:¬ szE (dsc f.a f.b f.c)=0):AV.t [PE (gnV (dsc f.a f.b f.c)),PE (szE (dsc f.a f.b f.c))]=.t [PE (gpV f),PE (gpE f)]:=by
 have e:gpE f=szE (dsc f.a f.b f.c):=by unfold gpE;rw [if_neg (fun x=>x h),if_pos h1]
 unfold gpV gnV;rw [e,if_neg h1]
end
def gN (f:Fm) (d:Int):Int:=(f.rd.app (cpM f.rd (2*d))).a
theorem Mr {d:Int} {f:Fm} (hf:Cl d f) (hd:-4194304≤d) (h0:d < 0):RpN f.rd (gN f d)∧Int.gcd (gN f d) (2*d)=1:=by
 have hp:=hf.rd.prim
 have h1:=(MB (f:=f.rd) (a:=2*d) hp (by omega) (by omega)).1
 exact ⟨⟨_,_,rfl⟩,(KF h1).2⟩
def gvL (f:Fm):List Int:=if gpE f=0 then (chs (dsc f.a f.b f.c)).map (fun c=>cv c (gN f (dsc f.a f.b f.c))) else []
theorem ux {d N:Int} {f:Fm} (hf:Cl d f) (hd:-4194304≤d) (h0:d < 0) (hE:szE d=0) (hN:RpN f.rd N) (cN:Int.gcd N (2*d)=1):(chs d).map (fun c=>cv c N)=gvL f:=by
 unfold gvL
 rw [if_pos (p9 hf hd hE),hf.disc]
 have hg:=Mr hf hd h0
 exact List.map_congr_left fun c hc=>KE h0 hf.rd.disc hN hg.1 cN hg.2 hc
theorem DX {d N:Int} {g:Fm} (hg:Cl d g) (hN:RpN g N) (h0:d < 0):0≤N:=by
 obtain ⟨x,y,rfl⟩:=hN
 have ha:=hg.pos.1
 have hd:g.b*g.b - 4*g.a*g.c=d:=hg.disc
 have e:4*g.a*vl g.a g.b g.c x y=(2*g.a*x+g.b*y)*(2*g.a*x+g.b*y) - d*(y*y):=by rw [← hd];unfold vl;grind
 have h1:=da (2*g.a*x+g.b*y)
 have h2:=Int.mul_nonneg (show 0≤-d by omega) (da y)
 rw [Int.neg_mul] at h2
 rcases Int.lt_or_le (vl g.a g.b g.c x y) 0 with q | q
 ·have h3:4*g.a*vl g.a g.b g.c x y < 0:=Int.mul_neg_of_pos_of_neg (by omega) q
  omega
 exact q
theorem qa {d c:Int} (h0:d < 0) (hd:-4194304≤d) (h:c∈chs d):-8≤c∧c≤4194304:=by
 unfold chs at h
 rcases List.mem_append.1 h with h | h
 ·obtain ⟨h1,h2,h3⟩:=oQ h0 h
  have h4:c ∣ -d:=Int.dvd_neg.2 h3
  have:=Int.le_of_dvd (by omega) h4
  omega
 rcases (qi h).2 with ⟨rfl,_⟩ | ⟨rfl,_⟩ | ⟨rfl,_⟩ <;> omega
section
variable {P:Program}
variable {dst:Option Nat} {ty:TypeId} {pos:String} {af:Array Edge} {gd:Option (Nat × Bool)} {d:Nat} {ρ:Operand→AV} {own:Own}
theorem Eff.callCh {fo fs:FuncId} {c0 N:Int} {c x:Operand} {tys:Array TypeId} (hx:ρ c=.p (.c (chF fo fs c0))) (hN:ρ x=.p (.c (.v (.int .i64 N))))
  (h1:aJ P fs [.p (.c (.v (.int .i64 N))),.ip [IS (spR c0)]] (.p (.c (.v (.int .i64 (sgB (qM (spR c0) (N % 8)))))))) (h2:aJ P fo [.p (.c (.v (.int .i64 N))),.ip [IC c0]] (.p (.c (.v (.int .i64 (kr N c0)))))) :
  Eff P ⟨dst,.call ⟨.value c,#[x],tys⟩,ty,pos,af,gd⟩ d ρ own (.p (.c (.v (.int .i64 (cv c0 N))))) [] none []:=by
 by_cases h:c0=-4∨c0=8∨c0=-8
 ·rw [← Eu h]
  have e:chF fo fs c0=.fn fs ([[IS (spR c0)]].map .ip):=by unfold chF;rw [if_pos h];rfl
  rw [e] at hx
  exact Eff.callD hx (by simpa [hN] using h1)
 rw [← p8 h]
 have e:chF fo fs c0=.fn fo ([[IC c0]].map .ip):=by unfold chF;rw [if_neg h];rfl
 rw [e] at hx
 exact Eff.callD hx (by simpa [hN] using h2)
end
theorem ug {l:List Int} {k:Nat} {N:Int} (h:(k:Int) < l.length):(l.take k).map (fun c=>cv c N) ++ [cv (l.getD k 0) N]=(l.take (k+1)).map (fun c=>cv c N):=by
 rw [← rc h,List.map_append];rfl
theorem gg1 {n d:Int} (h:((gg n (2*d)).natAbs:Int)=1):Int.gcd n (2*d)=1:=by rw [← pY];omega
theorem Kn {n d:Int} (h:((gg n (2*d)).natAbs:Int)≠1):Int.gcd n (2*d)≠1:=by rw [← pY];omega
theorem K7 (a b c x y:Int):a*y*y+b*x*y+c*x*x=vl a b c y x:=by unfold vl;grind
theorem Em {f:Fm} (h:¬ gpE f=0):gvL f=[]:=by unfold gvL;rw [if_neg h]
theorem Km {n d:Int} (h0:d < 0) (hd:-4194304≤d):-9223372036854775808 < gg n (2*d)∧gg n (2*d)≤9223372036854775807:=by
 have h1:=pY n (2*d)
 have h2:Int.gcd n (2*d)≤(2*d).natAbs:=Nat.le_of_dvd (by omega) (Nat.gcd_dvd_right _ _)
 omega
theorem jK {l:List Int} {k:Nat} (h:(k:Int) < l.length):l.getD k 0∈l:=by
 have hk:k < l.length:=by omega
 have e:l.getD k 0=l[k]:=by simp [List.getD,hk]
 rw [e];exact List.getElem_mem hk
end
section
open Go Go.RowKit
section
end
section
end
end
section
open Go Go.RowKit
section
end
section
end
end
section
open Go Go.RowKit
section
end
section
end
end
section
open Go Go.RowKit
end
section
open Go Go.RowKit
theorem Ja {D:Int} {f:Fm} {N:Int} (hf:Cl D f) (h:RpN f N):RpN f.rd N:=by
 obtain ⟨u,v,hv⟩:=h
 obtain ⟨m,hm,em⟩:=tv hf.pos
 have e3:f.rd.app m.adj=f:=by rw [em,lI hm]
 have e4:=HZ f.rd m.adj u v
 rw [e3] at e4
 exact ⟨_,_,hv.trans e4⟩
theorem uZ {d c:Int} (h0:d < 0) (h:c∈chs d):(c=-4∨c=8∨c=-8)∨(3≤c∧c % 2=1):=by
 unfold chs at h
 rcases List.mem_append.1 h with h | h
 ·have:=oQ h0 h;exact .inr ⟨this.1,this.2.1⟩
 have:=(qi h).2;exact .inl (by omega)
theorem vQ (D:Nat):szE (-szz D)=0:=by
 have h:=e9 D
 unfold szE
 rw [if_neg (by omega),if_neg (by omega)]
end
section
open Go Go.RowKit
section
end
end
section
open Go Go.RowKit
end
section
open Go Go.RowKit
section
end
end
section
open Go Go.RowKit
end
section
open Go Go.RowKit
end
section
open Go Go.RowKit
section
end
end
section
open Go Go.RowKit
end
section
open Go Go.RowKit
section
end
end
section
open Go Go.RowKit
end
section
open Go Go.RowKit
section
end
end
section
open Go Go.RowKit
def frq (D n b:Int):Fm:=⟨n,b,(b*b - D) / (4*n)⟩
def isR (D n b:Int):Bool:=decide (b*b % (4*n)=D % (4*n)) && prim n b ((b*b - D) / (4*n))
def rbL (D n:Int):List Int:=((List.range (2*n).toNat).map fun (i:Nat)=>(i:Int)).filter (isR D n)
theorem rbL_mem {D n b:Int}:b∈rbL D n↔(0≤b∧b < 2*n)∧isR D n b=true:=by
 unfold rbL
 rw [List.mem_filter,List.mem_map]
 constructor
 ·rintro ⟨⟨i,h1,rfl⟩,h2⟩
  rw [List.mem_range] at h1
  exact ⟨by omega,h2⟩
 rintro ⟨⟨h1,h2⟩,h3⟩
 exact ⟨⟨b.toNat,by rw [List.mem_range];omega,by omega⟩,h3⟩
theorem z7 {D n b:Int} (h:isR D n b=true):b*b - D=4*n*((b*b - D) / (4*n)):=by
 unfold isR at h
 rw [Bool.and_eq_true,decide_eq_true_iff] at h
 have h1:(4*n) ∣ (b*b - D):=Int.dvd_of_emod_eq_zero (Int.emod_eq_emod_iff_emod_sub_eq_zero.1 h.1)
 exact (Int.mul_ediv_cancel' h1).symm
theorem mZ {D n b:Int} (hn:0 < n) (hD:D < 0) (h:isR D n b=true):Cl D (frq D n b):=by
 have e:=z7 h
 unfold isR at h
 rw [Bool.and_eq_true] at h
 have hd:dsc n b ((b*b - D) / (4*n))=D:=by
  unfold dsc
  generalize (b*b - D) / (4*n)=c at *
  omega
 exact ⟨⟨hn,by show dsc _ _ _ < 0;rw [show dsc (frq D n b).a (frq D n b).b (frq D n b).c=D from hd];exact hD⟩,h.2,hd⟩
theorem KK {D:Int} {f:Fm} (h:Cl D f):isR D f.a f.b=true∧frq D f.a f.b=f:=by
 have ha:0 < f.a:=h.pos.1
 have e:f.b*f.b - D=4*f.a*f.c:=by have:=h.disc;unfold dsc at this;omega
 have e2:(f.b*f.b - D) / (4*f.a)=f.c:=by rw [e];exact Int.mul_ediv_cancel_left _ (by omega)
 refine ⟨?_,?_⟩
 ·unfold isR
  rw [Bool.and_eq_true,decide_eq_true_iff,e2]
  refine ⟨?_,h.prim⟩
  rw [Int.emod_eq_emod_iff_emod_sub_eq_zero,e]
  exact Int.mul_emod_right _ _
 unfold frq;rw [e2]
theorem BK {D n x y:Int} {f:Fm} (h:Cl D f) (hg:Int.gcd x y=1) (hv:vl f.a f.b f.c x y=n) :
  ∃ (b:Int) (M:Mt),b∈rbL D n∧M.det=1∧M.a=x∧M.c=y∧f.app M=frq D n b:=by
 have hb:bzU x y*x+bzV x y*y=1:=by
  have:=sy y.natAbs x y (Nat.le_refl _)
  rw [hg] at this
  unfold bzV
  by_cases hy:y=0
  ·subst hy
   rw [if_pos rfl]
   unfold bzU
   rw [if_pos rfl]
   have hx:x.natAbs=1:=by simpa using hg
   unfold sgn
   rcases Int.natAbs_eq x with e | e <;> rw [hx] at e <;> subst e <;> decide
  rw [if_neg hy,hg]
  have hd:y ∣ (1:Int) - bzU x y*x:=by
   unfold bzU
   rw [if_neg hy,hg,show y / ((1:Nat):Int)=y from Int.ediv_one y]
   have h1:(xg y.natAbs x y).1 % y=(xg y.natAbs x y).1 - y*((xg y.natAbs x y).1 / y):=Int.emod_def _ _
   rw [h1]
   refine ⟨(xg y.natAbs x y).2+((xg y.natAbs x y).1 / y)*x,?_⟩
   generalize (xg y.natAbs x y).1 / y=q at *
   generalize (xg y.natAbs x y).1=u at *
   generalize (xg y.natAbs x y).2=v at *
   have e:u*x+v*y=1:=this
   grind
  have:=Int.ediv_mul_cancel hd
  have e:((1:Nat):Int)=1:=rfl
  rw [e];omega
 have hM:(⟨x,-bzV x y,y,bzU x y⟩:Mt).det=1:=by unfold Mt.det;grind
 have hc:=h.app hM
 have ha:(f.app ⟨x,-bzV x y,y,bzU x y⟩).a=n:=hv
 have hn:0 < n:=by rw [← ha];exact hc.pos.1
 generalize hF:f.app ⟨x,-bzV x y,y,bzU x y⟩=F at *
 generalize -bzV x y=p at *
 generalize bzU x y=q at *
 have hT:(Mt.T (-(F.b / (2*n)))).det=1:=by unfold Mt.T Mt.det;simp
 have hc2:=hc.app hT
 have e2:=yF F (-(F.b / (2*n)))
 have eb:(F.app (.T (-(F.b / (2*n))))).b=F.b % (2*n):=by
  rw [e2,ha,Int.emod_def]
  show F.b+2*n * -(F.b / (2*n))=_
  grind
 have ea:(F.app (.T (-(F.b / (2*n))))).a=n:=by rw [e2];exact ha
 obtain ⟨g1,g2⟩:=KK hc2
 rw [ea,eb] at g1 g2
 refine ⟨F.b % (2*n),(⟨x,p,y,q⟩:Mt).mul (.T (-(F.b / (2*n)))),rbL_mem.2 ⟨⟨Int.emod_nonneg _ (by omega),Int.emod_lt_of_pos _ (by omega)⟩,g1⟩,by rw [fM,hM,hT];rfl,?_,?_,?_⟩
 ·simp [Mt.mul,Mt.T]
 ·simp [Mt.mul,Mt.T]
 rw [← fP,hF,g2]
theorem tu {D n b b':Int} {f:Fm} {M N:Mt} (hn:0 < n) (hb:0≤b∧b < 2*n) (hb':0≤b'∧b' < 2*n) (hM:M.det=1) (hN:N.det=1) (ea:M.a=N.a) (ec:M.c=N.c)
  (eM:f.app M=frq D n b) (eN:f.app N=frq D n b'):M=N∧b=b':=by
 obtain ⟨a,p,c,q⟩:=M
 obtain ⟨a',p',c',q'⟩:=N
 simp only at ea ec
 subst ea;subst ec
 have h1:a*q - p*c=1:=hM
 have h2:a*q' - p'*c=1:=hN
 obtain ⟨k,hk⟩:∃ k,k=p'*q - p*q':=⟨_,rfl⟩
 have hp:p'=p+a*k:=by rw [hk];grind
 have hq:q'=q+c*k:=by rw [hk];grind
 have eB:apB f.a f.b f.c a p c q=b:=congrArg Fm.b eM
 have eB':apB f.a f.b f.c a p' c q'=b':=congrArg Fm.b eN
 have eA:vl f.a f.b f.c a c=n:=congrArg Fm.a eM
 have e3:b'=b+2*n*k:=by
  rw [← eB',← eB,← eA,hp,hq];unfold apB vl;grind
 have hk0:k=0:=by
  have h5:2*n*k < 2*n:=by omega
  have h6:-(2*n) < 2*n*k:=by omega
  rcases Int.lt_trichotomy k 0 with g | g | g
  ·have:2*n*k≤2*n*(-1):=Int.mul_le_mul_of_nonneg_left (by omega) (by omega)
   omega
  ·exact g
  have:2*n*1≤2*n*k:=Int.mul_le_mul_of_nonneg_left (by omega) (by omega)
  omega
 rw [hk0] at hp hq e3
 refine ⟨?_,by omega⟩
 simp only [Mt.mk.injEq]
 exact ⟨trivial,by omega,trivial,by omega⟩
def auM (g:Fm) (t u:Int):Mt:=⟨(t - g.b*u) / 2,-g.c*u,g.a*u,(t+g.b*u) / 2⟩
theorem KN {D t u:Int} {g:Fm} (h:dsc g.a g.b g.c=D) (e:t*t - D*(u*u)=4):(t - g.b*u) % 2=0:=by
 have e1:t*t - (g.b*u)*(g.b*u)=4 - 4*(g.a*g.c*(u*u)):=by
  have:D*(u*u)=(g.b*u)*(g.b*u) - 4*(g.a*g.c*(u*u)):=by rw [← h];unfold dsc;grind
  omega
 generalize g.b*u=s at *
 generalize g.a*g.c*(u*u)=r at *
 have ht:t % 2=0∨t % 2=1:=by omega
 have hs:s % 2=0∨s % 2=1:=by omega
 rcases ht with ht | ht <;> rcases hs with hs | hs
 ·omega
 ·obtain ⟨p,hp⟩:∃ p,t=2*p:=⟨t / 2,by omega⟩
  obtain ⟨q,hq⟩:∃ q,s=2*q+1:=⟨s / 2,by omega⟩
  have:t*t - s*s=4*(p*p) - 4*(q*q+q) - 1:=by rw [hp,hq];grind
  omega
 ·obtain ⟨p,hp⟩:∃ p,t=2*p+1:=⟨t / 2,by omega⟩
  obtain ⟨q,hq⟩:∃ q,s=2*q:=⟨s / 2,by omega⟩
  have:t*t - s*s=4*(p*p+p)+1 - 4*(q*q):=by rw [hp,hq];grind
  omega
 omega
theorem oa {D t u:Int} {g:Fm} (h:dsc g.a g.b g.c=D) (e:t*t - D*(u*u)=4):∃ p s,(auM g t u)=⟨p,-g.c*u,g.a*u,s⟩∧t=p+s∧g.b*u=s - p:=by
 have h1:=KN h e
 refine ⟨(t - g.b*u) / 2,(t+g.b*u) / 2,rfl,?_,?_⟩ <;> omega
theorem AD {D t u:Int} {g:Fm} (h:dsc g.a g.b g.c=D) (e:t*t - D*(u*u)=4):(auM g t u).det=1:=by
 obtain ⟨p,s,e1,e2,e3⟩:=oa h e
 rw [e1]
 unfold dsc at h
 unfold Mt.det
 have e4:(p+s)*(p+s) - (s - p)*(s - p)+4*(g.a*g.c)*(u*u)=4:=by
  rw [← e2,← e3];grind
 have e5:4*(p*s)+4*(g.a*g.c)*(u*u)=4:=by grind
 show p*s - -g.c*u*(g.a*u)=1
 have e6:-g.c*u*(g.a*u)=-(g.a*g.c*(u*u)):=by grind
 rw [e6]
 have e7:4*(g.a*g.c)*(u*u)=4*(g.a*g.c*(u*u)):=by grind
 omega
theorem KO {D t u:Int} {g:Fm} (h:dsc g.a g.b g.c=D) (e:t*t - D*(u*u)=4):g.app (auM g t u)=g:=by
 have hd:=AD h e
 obtain ⟨p,s,e1,e2,e3⟩:=oa h e
 rw [e1] at hd ⊢
 have hd':p*s+g.a*g.c*(u*u)=1:=by unfold Mt.det at hd;grind
 obtain ⟨a,b,c⟩:=g
 simp only at *
 unfold Fm.app vl apB
 simp only [Fm.mk.injEq]
 have hb:s=p+b*u:=by omega
 subst hb
 refine ⟨?_,?_,?_⟩ <;> grind
theorem KP {D:Int} {g:Fm} {N:Mt} (h:Cl D g) (hN:N.det=1) (e:g.app N=g):∃ t u,t*t - D*(u*u)=4∧N=auM g t u:=by
 obtain ⟨p,q,r,s⟩:=N
 obtain ⟨a,b,c⟩:=g
 have h1:p*s - q*r=1:=hN
 have k1:vl a b c p r=a:=congrArg Fm.a e
 have k2:apB a b c p q r s=b:=congrArg Fm.b e
 have k3:vl a b c q s=c:=congrArg Fm.c e
 unfold vl at k1 k3
 unfold apB at k2
 have m1:a*(s - p)=b*r:=by
  have:s*(2*(a*p*p+b*p*r+c*r*r)) - r*(2*(a*p*q+c*r*s)+b*(p*s+q*r))=(2*a*p+b*r)*(p*s - q*r):=by grind
  rw [k1,k2,h1] at this
  grind
 have m2:a*q=-(c*r):=by
  have:p*(2*(a*p*q+c*r*s)+b*(p*s+q*r)) - q*(2*(a*p*p+b*p*r+c*r*r))=(b*p+2*c*r)*(p*s - q*r):=by grind
  rw [k1,k2,h1] at this
  grind
 have m3:c*(p - s)=b*q:=by
  have:p*(2*(a*q*q+b*q*s+c*s*s)) - q*(2*(a*p*q+c*r*s)+b*(p*s+q*r))=(b*q+2*c*s)*(p*s - q*r):=by grind
  rw [k3,k2,h1] at this
  grind
 obtain ⟨x,y,z,hz⟩:=BY h.prim
 simp only at hz
 obtain ⟨u,hu⟩:∃ u,u=r*x+(s - p)*y - q*z:=⟨_,rfl⟩
 have n1:a*u=r:=by
  have:a*u=r*(a*x+b*y+c*z):=by rw [hu];grind
  rw [this,hz];omega
 have n2:b*u=s - p:=by
  have:b*u=(s - p)*(a*x+b*y+c*z):=by rw [hu];grind
  rw [this,hz];omega
 have n3:c*u=-q:=by
  have:c*u=-q*(a*x+b*y+c*z):=by rw [hu];grind
  rw [this,hz];omega
 have hd:b*b - 4*a*c=D:=h.disc
 refine ⟨p+s,u,?_,?_⟩
 ·have:D*(u*u)=(b*u)*(b*u) - 4*((a*u)*(c*u)):=by rw [← hd];grind
  rw [this,n1,n2,n3]
  have:(p+s)*(p+s) - ((s - p)*(s - p) - 4*(r * -q))=4*(p*s - q*r):=by grind
  rw [this,h1];rfl
 unfold auM
 simp only [Mt.mk.injEq]
 refine ⟨?_,?_,n1.symm,?_⟩
 ·rw [n2];omega
 ·have:-c*u=-(c*u):=by grind
  rw [this,n3];omega
 rw [n2];omega
def unL (D:Int):List (Int × Int):=if D=-3 then [(2,0),(-2,0),(1,1),(1,-1),(-1,1),(-1,-1)] else if D=-4 then [(2,0),(-2,0),(0,1),(0,-1)] else [(2,0),(-2,0)]
theorem y7 {u:Int} (h:u*u≤1):u=0∨u=1∨u=-1:=by
 rcases Int.lt_or_le u (-1) with g | g
 ·have:2*2≤-u * -u:=Int.mul_le_mul (by omega) (by omega) (by omega) (by omega)
  have e:-u * -u=u*u:=by grind
  omega
 rcases Int.lt_or_le 1 u with g' | g'
 ·have:2*2≤u*u:=Int.mul_le_mul (by omega) (by omega) (by omega) (by omega)
  omega
 omega
theorem tf {t:Int} (h:t*t≤4):-2≤t∧t≤2:=by
 constructor
 ·rcases Int.lt_or_le t (-2) with g | g
  ·have:3*3≤-t * -t:=Int.mul_le_mul (by omega) (by omega) (by omega) (by omega)
   have e:-t * -t=t*t:=by grind
   omega
  exact g
 rcases Int.lt_or_le 2 t with g | g
 ·have:3*3≤t*t:=Int.mul_le_mul (by omega) (by omega) (by omega) (by omega)
  omega
 exact g
theorem pk (t:Int):0≤t*t:=by
 rcases Int.lt_or_le t 0 with g | g
 ·exact Int.mul_nonneg_of_nonpos_of_nonpos (by omega) (by omega)
 exact Int.mul_nonneg g g
theorem nB {D:Int} (hD:D < 0) (h4:D % 4=0∨D % 4=1) {t u:Int}:(t,u)∈unL D↔t*t - D*(u*u)=4:=by
 have ht:=pk t
 have hu:=pk u
 have two:t*t=4→t=2∨t=-2:=fun h=>by
  have:=tf (t:=t) (by omega)
  have:t=-2∨t=-1∨t=0∨t=1∨t=2:=by omega
  rcases this with rfl | rfl | rfl | rfl | rfl <;> simp at h ⊢
 unfold unL
 by_cases h1:D=-3
 ·subst h1
  rw [if_pos rfl]
  constructor
  ·intro h;simp at h
   rcases h with ⟨rfl,rfl⟩ | ⟨rfl,rfl⟩ | ⟨rfl,rfl⟩ | ⟨rfl,rfl⟩ | ⟨rfl,rfl⟩ | ⟨rfl,rfl⟩ <;> decide
  intro h
  have hu1:=y7 (u:=u) (by omega)
  have ht2:=tf (t:=t) (by omega)
  have:t=-2∨t=-1∨t=0∨t=1∨t=2:=by omega
  rcases hu1 with rfl | rfl | rfl <;> rcases this with rfl | rfl | rfl | rfl | rfl <;> simp at h ⊢
 rw [if_neg h1]
 by_cases h2:D=-4
 ·subst h2
  rw [if_pos rfl]
  constructor
  ·intro h;simp at h
   rcases h with ⟨rfl,rfl⟩ | ⟨rfl,rfl⟩ | ⟨rfl,rfl⟩ | ⟨rfl,rfl⟩ <;> decide
  intro h
  have hu1:=y7 (u:=u) (by omega)
  have ht2:=tf (t:=t) (by omega)
  have:t=-2∨t=-1∨t=0∨t=1∨t=2:=by omega
  rcases hu1 with rfl | rfl | rfl <;> rcases this with rfl | rfl | rfl | rfl | rfl <;> simp at h ⊢
 rw [if_neg h2]
 constructor
 ·intro h;simp at h
  rcases h with ⟨rfl,rfl⟩ | ⟨rfl,rfl⟩ <;> simp
 intro h
 have hu0:u*u=0:=by
  rcases Int.lt_or_le 0 (u*u) with g | g
  ·have:-D*1≤-D*(u*u):=Int.mul_le_mul_of_nonneg_left (by omega) (by omega)
   have e:-D*(u*u)=-(D*(u*u)):=by grind
   omega
  omega
 have:u=0:=by rcases Int.mul_eq_zero.1 hu0 with g | g <;> exact g
 subst this
 have:=two (by omega)
 rcases this with rfl | rfl <;> simp
end
section
open Go Go.RowKit
def smf (f g:Fm):Bool:=smB f.a f.b f.c g.a g.b g.c
def smm (f g:Fm):Mt:=smM f.a f.b f.c g.a g.b g.c
def ml (f:Fm) (D n b:Int) (p:Int × Int):Mt:=(smm f (frq D n b)).mul (auM (frq D n b) p.1 p.2)
def col (f:Fm) (D n b:Int) (p:Int × Int):Int × Int:=((ml f D n b p).a,(ml f D n b p).c)
def prL (D n:Int) (f:Fm):List (Int × Int):=(rbL D n).flatMap fun b=>if smf f (frq D n b)=true then (unL D).map (col f D n b) else []
section
variable {D n:Int} {f:Fm}
theorem lD {D:Int} {f:Fm} (h:Cl D f):D % 4=0∨D % 4=1:=by
 have:=h.disc
 unfold dsc at this
 rw [Int.mul_assoc] at this
 generalize f.a*f.c=t at *
 have hb:f.b % 2=0∨f.b % 2=1:=by omega
 rcases hb with g | g
 ·obtain ⟨q,hq⟩:∃ q,f.b=2*q:=⟨f.b / 2,by omega⟩
  have e:f.b*f.b=4*(q*q):=by rw [hq];grind
  omega
 obtain ⟨q,hq⟩:∃ q,f.b=2*q+1:=⟨f.b / 2,by omega⟩
 have e:f.b*f.b=4*(q*q+q)+1:=by rw [hq];grind
 omega
theorem gH {D:Int} {f:Fm} (h:Cl D f):D < 0:=by have h1:dsc f.a f.b f.c < 0:=h.pos.2;rw [h.disc] at h1;exact h1
theorem qj {g:Fm} (hf:f.pos) (hg:g.pos):smf f g=true↔f.rd=g.rd:=by
 unfold smf smB
 rw [decide_eq_true_iff]
 exact ⟨fun h=>h.2.2,fun h=>⟨jh hf,jh hg,h⟩⟩
theorem Hs {m:Mt} (h:m.det=1):Int.gcd m.a m.c=1:=by
 unfold Mt.det at h
 have h1:((Int.gcd m.a m.c:Nat):Int) ∣ 1:=by
  rw [← h]
  exact Int.dvd_sub (Int.dvd_trans (Int.gcd_dvd_left ..) ⟨m.d,rfl⟩) (Int.dvd_trans (Int.gcd_dvd_right ..) ⟨m.b,Int.mul_comm _ _⟩)
 have h2:Int.gcd m.a m.c ∣ 1:=by exact_mod_cast h1
 exact Nat.dvd_one.1 h2
theorem lC (h:Cl D f) (hn:0 < n) {b:Int} (hb:b∈rbL D n) (hs:smf f (frq D n b)=true) {p:Int × Int} (hp:p∈unL D):(ml f D n b p).det=1∧f.app (ml f D n b p)=frq D n b:=by
 have hg:=mZ hn (gH h) (rbL_mem.1 hb).2
 have hu:=(nB (gH h) (lD h)).1 hp
 obtain ⟨s1,s2⟩:=tg h.pos hg.pos hs
 unfold ml
 refine ⟨by rw [fM,AD hg.disc hu];rw [show (smm f (frq D n b)).det=1 from s1];rfl,?_⟩
 rw [← fP,show f.app (smm f (frq D n b))=frq D n b from s2]
 exact KO hg.disc hu
theorem j9 (h:Cl D f) (hn:0 < n) {x y:Int}:(x,y)∈prL D n f↔Int.gcd x y=1∧vl f.a f.b f.c x y=n:=by
 unfold prL
 rw [List.mem_flatMap]
 constructor
 ·rintro ⟨b,hb,hm⟩
  split at hm
  ·rename_i hs
   obtain ⟨p,hp,e⟩:=List.mem_map.1 hm
   obtain ⟨k1,k2⟩:=lC h hn hb hs hp
   have e1:(ml f D n b p).a=x:=congrArg Prod.fst e
   have e2:(ml f D n b p).c=y:=congrArg Prod.snd e
   rw [← e1,← e2]
   exact ⟨Hs k1,congrArg Fm.a k2⟩
  cases hm
 rintro ⟨hg,hv⟩
 obtain ⟨b,M,hb,hM,e1,e2,e3⟩:=BK h hg hv
 have hc:=mZ hn (gH h) (rbL_mem.1 hb).2
 have hs:smf f (frq D n b)=true:=(qj h.pos hc.pos).2 (by rw [← e3];exact (wa h.pos hM).symm)
 refine ⟨b,hb,?_⟩
 rw [if_pos hs,List.mem_map]
 obtain ⟨s1,s2⟩:=tg h.pos hc.pos hs
 obtain ⟨S,hS⟩:∃ S,S=smm f (frq D n b):=⟨_,rfl⟩
 have s1':S.det=1:=by rw [hS];exact s1
 have s2':f.app S=frq D n b:=by rw [hS];exact s2
 have hN:(S.adj.mul M).det=1:=by rw [fM,od,s1',hM];rfl
 have hmul:S.mul (S.adj.mul M)=M:=by
  have h1:S.a*S.d - S.b*S.c=1:=s1'
  unfold Mt.mul Mt.adj
  ext <;> simp only <;> grind
 have e:(frq D n b).app (S.adj.mul M)=frq D n b:=by
  have:(f.app S).app (S.adj.mul M)=f.app M:=by rw [fP,hmul]
  rw [← s2',this,e3,s2']
 obtain ⟨t,u,k1,k2⟩:=KP hc hN e
 refine ⟨(t,u),(nB (gH h) (lD h)).2 k1,?_⟩
 have:ml f D n b (t,u)=M:=by
  unfold ml
  rw [← hS]
  show S.mul (auM (frq D n b) t u)=M
  rw [← k2,hmul]
 unfold col
 rw [this,e1,e2]
theorem zk:(rbL D n).Nodup:=by
 unfold rbL
 refine List.Pairwise.filter _ ?_
 refine List.pairwise_map.2 ?_
 refine List.Pairwise.imp (fun h e=>h (by omega)) List.nodup_range
theorem yU:(unL D).Nodup:=by
 unfold unL
 split
 ·decide
 split <;> decide
theorem zC (h:Cl D f) (hn:0 < n):(prL D n f).Nodup:=by
 unfold prL
 refine List.pairwise_flatMap.2 ⟨fun b hb=>?_,?_⟩
 ·split
  ·rename_i hs
   have hc:=mZ hn (gH h) (rbL_mem.1 hb).2
   have hb':=(rbL_mem.1 hb).1
   refine List.pairwise_map.2 (List.Pairwise.imp_of_mem (fun {p q} hp hq hne e=>hne ?_) yU)
   obtain ⟨k1,k2⟩:=lC h hn hb hs hp
   obtain ⟨l1,l2⟩:=lC h hn hb hs hq
   have hm:=(tu hn hb' hb' k1 l1 (congrArg Prod.fst e) (congrArg Prod.snd e) k2 l2).1
   obtain ⟨s1,s2⟩:=tg h.pos hc.pos hs
   have hA:auM (frq D n b) p.1 p.2=auM (frq D n b) q.1 q.2:=by
    have inv:∀ X:Mt,(smm f (frq D n b)).adj.mul ((smm f (frq D n b)).mul X)=X:=fun X=>by
     have h1:(smm f (frq D n b)).a*(smm f (frq D n b)).d - (smm f (frq D n b)).b*(smm f (frq D n b)).c=1:=s1
     generalize smm f (frq D n b)=S at h1
     unfold Mt.mul Mt.adj
     ext <;> simp only <;> grind
    rw [← inv (auM (frq D n b) p.1 p.2),← inv (auM (frq D n b) q.1 q.2)]
    exact congrArg _ hm
   have hup:=(nB (gH h) (lD h)).1 hp
   have huq:=(nB (gH h) (lD h)).1 hq
   obtain ⟨p1,s1,e1,e2,e3⟩:=oa hc.disc hup
   obtain ⟨q1,s1',e1',e2',e3'⟩:=oa hc.disc huq
   rw [e1,e1'] at hA
   simp only [Mt.mk.injEq] at hA
   obtain ⟨g1,_,g3,g4⟩:=hA
   have hu:p.2=q.2:=Int.eq_of_mul_eq_mul_left (show (frq D n b).a≠0 by have:=hc.pos.1;omega) g3
   exact Prod.ext (by omega) hu
  exact List.Pairwise.nil
 refine List.Pairwise.imp_of_mem (fun {b b'} hb hb' hne x hx y hy e=>hne ?_) (zk (D:=D) (n:=n))
 subst e
 split at hx
 ·rename_i hs
  split at hy
  ·rename_i hs'
   obtain ⟨p,hp,e⟩:=List.mem_map.1 hx
   obtain ⟨q,hq,e'⟩:=List.mem_map.1 hy
   obtain ⟨k1,k2⟩:=lC h hn hb hs hp
   obtain ⟨l1,l2⟩:=lC h hn hb' hs' hq
   rw [← e'] at e
   exact (tu hn (rbL_mem.1 hb).1 (rbL_mem.1 hb').1 k1 l1 (congrArg Prod.fst e) (congrArg Prod.snd e) k2 l2).2
  cases hy
 cases hx
def unN (D:Int):Nat:=if D=-3 then 6 else if D=-4 then 4 else 2
theorem vO:(unL D).length=unN D:=by
 unfold unL unN
 split
 ·rfl
 split <;> rfl
theorem wY {α β:Type} {w:Nat} (P:α→Bool) (L:α→List β) (hL:∀ a,(L a).length=w):∀ l:List α,(l.flatMap fun a=>if P a=true then L a else []).length=w*(l.filter P).length
 | []=>by simp
 | a :: l=>by
  rw [List.flatMap_cons,List.length_append,wY P L hL l,List.filter_cons]
  by_cases h:P a=true
  ·rw [if_pos h,if_pos h,hL,List.length_cons,Nat.mul_succ,Nat.add_comm]
  rw [if_neg h,if_neg h,List.length_nil,Nat.zero_add]
theorem wq:(prL D n f).length=unN D*((rbL D n).filter fun b=>smf f (frq D n b)).length:=by
 unfold prL
 exact wY (fun b=>smf f (frq D n b)) (fun b=>(unL D).map (col f D n b)) (fun b=>by rw [List.length_map,vO]) _
end
end
section
open Go Go.RowKit
abbrev Pr2:=Int × Int
def lt2 (p q:Pr2):Bool:=decide (p.1 < q.1∨(p.1=q.1∧p.2 < q.2))
theorem lt2_iff {p q:Pr2}:lt2 p q=true↔p.1 < q.1∨(p.1=q.1∧p.2 < q.2):=decide_eq_true_iff
theorem zR {p q r:Pr2} (h:lt2 p q=true) (k:lt2 q r=true):lt2 p r=true:=by rw [lt2_iff] at *;omega
theorem GO {p q:Pr2} (h:p≠q) (k:lt2 p q=false):lt2 q p=true:=by
 rw [lt2_iff]
 have k':¬ (p.1 < q.1∨(p.1=q.1∧p.2 < q.2)):=fun x=>by rw [lt2_iff.2 x] at k;cases k
 have:¬ (p.1=q.1∧p.2=q.2):=fun x=>h (Prod.ext x.1 x.2)
 omega
def kW (p:Pr2):List Pr2→List Pr2
 | []=>[p]
 | q :: l=>if lt2 q p=true then q :: kW p l else p :: q :: l
theorem insP_mem {p x:Pr2}:∀ {l:List Pr2},x∈kW p l↔x=p∨x∈l
 | []=>by simp [kW]
 | q :: l=>by
  unfold kW
  split
  ·rw [List.mem_cons,insP_mem,List.mem_cons]
   constructor
   ·rintro (h | h | h)
    ·exact .inr (.inl h)
    ·exact .inl h
    exact .inr (.inr h)
   rintro (h | h | h)
   ·exact .inr (.inl h)
   ·exact .inl h
   exact .inr (.inr h)
  rw [List.mem_cons]
abbrev o7 (l:List Pr2):Prop:=l.Pairwise fun x y=>lt2 x y=true
theorem uw {p:Pr2}:∀ {l:List Pr2},o7 l→p ∉ l→o7 (kW p l)
 | [],_,_=>List.pairwise_singleton _ _
 | q :: l,h,hp=>by
  have h':=List.pairwise_cons.1 h
  unfold kW
  split
  ·rename_i hq
   refine List.pairwise_cons.2 ⟨fun x hx=>?_,uw h'.2 fun e=>hp (by simp [e])⟩
   rcases insP_mem.1 hx with rfl | hx
   ·exact hq
   exact h'.1 x hx
  rename_i hq
  have hpq:lt2 p q=true:=GO (fun e=>hp (by simp [e])) (by simpa using hq)
  refine List.pairwise_cons.2 ⟨fun x hx=>?_,h⟩
  rcases List.mem_cons.1 hx with rfl | hx
  ·exact hpq
  exact zR hpq (h'.1 x hx)
def srP:List Pr2→List Pr2
 | []=>[]
 | p :: l=>kW p (srP l)
theorem srP_mem {x:Pr2}:∀ {l:List Pr2},x∈srP l↔x∈l
 | []=>Iff.rfl
 | p :: l=>by show x∈kW p (srP l)↔_;rw [insP_mem,srP_mem,List.mem_cons]
theorem vR:∀ {l:List Pr2},l.Nodup→o7 (srP l)
 | [],_=>List.Pairwise.nil
 | _ :: _,h=>uw (vR (List.nodup_cons.1 h).2) fun e=>(List.nodup_cons.1 h).1 (srP_mem.1 e)
def prS (D n:Int) (f:Fm):List Pr2:=srP (prL D n f)
theorem Gp {D n:Int} {f:Fm} (h:Cl D f) (hn:0 < n):o7 (prS D n f):=vR (zC h hn)
def iJ (g:Fm) (n:Int) (p:Pr2):Bool:=decide (Int.gcd p.1 p.2=1) && decide (vl g.a g.b g.c p.1 p.2=n)
def okP (p:Pr2):Bool:=decide (0 < p.2∨(p.2=0∧0≤p.1))
def btr (p q:Pr2):Bool:=decide (p.2 < q.2∨(p.2=q.2∧p.1 < q.1))
def fv (b:Option Pr2) (p:Pr2):Option Pr2:=if okP p=true then (match b with | none=>some p | some q=>if btr p q=true then some p else some q) else b
def dK (l:List Pr2):Option Pr2:=l.foldl fv none
structure IsBest (l:List Pr2) (b:Option Pr2):Prop where
 no:b=none→∀ p∈l,okP p=false
 so:∀ q,b=some q→q∈l∧okP q=true∧∀ p∈l,okP p=true→btr p q=false
theorem IsBest.step {l:List Pr2} {b:Option Pr2} (h:IsBest l b) (p:Pr2):IsBest (l ++ [p]) (fv b p):=by
 unfold fv
 by_cases hp:okP p=true
 ·rw [if_pos hp]
  cases b with
  | none =>
   refine ⟨fun e=>(by cases e),fun q e=>?_⟩
   cases e
   refine ⟨by simp,hp,fun x hx ho=>?_⟩
   rcases List.mem_append.1 hx with hx | hx
   ·rw [h.no rfl x hx] at ho;cases ho
   rw [List.mem_singleton] at hx;subst hx
   unfold btr;exact decide_eq_false (by omega)
  | some q =>
   obtain ⟨h1,h2,h3⟩:=h.so q rfl
   by_cases hq:btr p q=true
   ·simp only [hq,if_true]
    refine ⟨fun e=>(by cases e),fun q' e=>?_⟩
    cases e
    refine ⟨by simp,hp,fun x hx ho=>?_⟩
    rcases List.mem_append.1 hx with hx | hx
    ·have:=h3 x hx ho
     unfold btr at *
     have a1:=dF0 this
     have a2:=dT0 hq
     exact decide_eq_false (by omega)
    rw [List.mem_singleton] at hx;subst hx
    unfold btr;exact decide_eq_false (by omega)
   simp only [hq]
   refine ⟨fun e=>(by cases e),fun q' e=>?_⟩
   have e':q=q':=by simpa using e
   subst e'
   refine ⟨by simp [h1],h2,fun x hx ho=>?_⟩
   rcases List.mem_append.1 hx with hx | hx
   ·exact h3 x hx ho
   rw [List.mem_singleton] at hx;subst hx
   simpa using hq
 rw [if_neg hp]
 refine ⟨fun e x hx=>?_,fun q e=>?_⟩
 ·rcases List.mem_append.1 hx with hx | hx
  ·exact h.no e x hx
  rw [List.mem_singleton] at hx;subst hx;simpa using hp
 obtain ⟨h1,h2,h3⟩:=h.so q e
 refine ⟨by simp [h1],h2,fun x hx ho=>?_⟩
 rcases List.mem_append.1 hx with hx | hx
 ·exact h3 x hx ho
 rw [List.mem_singleton] at hx;subst hx;exact absurd ho hp
theorem ox:∀ (l l0:List Pr2) (b:Option Pr2),IsBest l0 b→IsBest (l0 ++ l) (l.foldl fv b)
 | [],l0,b,h=>by simpa using h
 | p :: l,l0,b,h=>by
  have:=ox l (l0 ++ [p]) (fv b p) (h.step p)
  simpa using this
theorem o6 (l:List Pr2):IsBest l (dK l):=by
 have:=ox l [] none ⟨fun _ p hp=>by simp at hp,fun q e=>by cases e⟩
 rw [List.nil_append] at this
 exact this
theorem sj {D n:Int} {f:Fm} (h:Cl D f) (hn:0 < n):dK (prL D n f)=none↔prL D n f=[]:=by
 constructor
 ·intro e
  have hb:=(o6 (prL D n f)).no e
  rw [List.eq_nil_iff_forall_not_mem]
  rintro ⟨x,y⟩ hx
  have h1:=hb _ hx
  have hm:=(j9 h hn).1 hx
  have hx':(-x,-y)∈prL D n f:=(j9 h hn).2 ⟨by rw [Int.gcd_neg,Int.neg_gcd];exact hm.1,by rw [← hm.2];unfold vl;grind⟩
  have h2:=hb _ hx'
  unfold okP at h1 h2
  have a1:=dF0 h1
  have a2:=dF0 h2
  simp only at a1 a2
  have:¬ (x=0∧y=0):=by rintro ⟨rfl,rfl⟩;have:=hm.1;simp at this
  omega
 intro e;rw [e];rfl
end
section
open Go Go.RowKit
theorem KM (a b:Int):∃ u v:Int,u*a+v*b=(Int.gcd a b:Nat):=⟨_,_,sy b.natAbs a b (Nat.le_refl _)⟩
theorem lB {g x y:Int} (h:Int.gcd g x=1) (k:g ∣ x*y):g ∣ y:=by
 obtain ⟨u,v,e⟩:=KM g x
 rw [h] at e
 have e':u*g+v*x=1:=e
 obtain ⟨t,ht⟩:=k
 refine ⟨u*y+v*t,?_⟩
 have:y=(u*g+v*x)*y:=by rw [e'];omega
 grind
theorem vC {g m b:Int} (h:g ∣ m) (k:Int.gcd m b=1):Int.gcd g b=1:=by
 have h1:((Int.gcd g b:Nat):Int) ∣ ((Int.gcd m b:Nat):Int):=Int.dvd_coe_gcd (Int.dvd_trans (Int.gcd_dvd_left ..) h) (Int.gcd_dvd_right ..)
 rw [k] at h1
 exact Nat.dvd_one.1 (by exact_mod_cast h1)
theorem crt {m M b1 b2:Int} (h:Int.gcd m M=1):∃ b,m ∣ b - b1∧M ∣ b - b2:=by
 obtain ⟨u,v,e⟩:=KM m M
 rw [h] at e
 have e':u*m+v*M=1:=e
 refine ⟨b1*(v*M)+b2*(u*m),⟨u*(b2 - b1),?_⟩,⟨v*(b1 - b2),?_⟩⟩
 ·have:b1=(u*m+v*M)*b1:=by rw [e'];omega
  grind
 have:b2=(u*m+v*M)*b2:=by rw [e'];omega
 grind
structure Rt (D n b c:Int):Prop where
 eq:b*b - D=4*n*c
 pr:prim n b c=true
theorem Ke {D n b:Int} (h:isR D n b=true):Rt D n b ((b*b - D) / (4*n)):=⟨z7 h,by
 unfold isR at h
 rw [Bool.and_eq_true] at h
 exact h.2⟩
theorem Rt.isR {D n b c:Int} (hn:0 < n) (h:Rt D n b c):isR D n b=true:=by
 have e:(b*b - D) / (4*n)=c:=by rw [h.eq];exact Int.mul_ediv_cancel_left _ (by omega)
 unfold AM.isR
 rw [e,Bool.and_eq_true,decide_eq_true_iff]
 exact ⟨by rw [Int.emod_eq_emod_iff_emod_sub_eq_zero,h.eq];exact Int.mul_emod_right _ _,h.pr⟩
theorem Rt.all {D n b c:Int} (h:Rt D n b c) {g:Int} (h1:g ∣ n) (h2:g ∣ b) (h3:g ∣ c):g ∣ 1:=by
 have:=h.pr
 unfold prim at this
 rw [decide_eq_true_iff] at this
 have k:g ∣ ((Int.gcd n (Int.gcd b c:Int):Nat):Int):=Int.dvd_coe_gcd h1 (Int.dvd_coe_gcd h2 h3)
 rw [this] at k
 exact k
theorem Rt.mk' {D n b c:Int} (h:b*b - D=4*n*c) (k:∀ g:Int,g ∣ n→g ∣ b→g ∣ c→g ∣ 1):Rt D n b c:=by
 refine ⟨h,?_⟩
 unfold prim
 rw [decide_eq_true_iff]
 have:=k ((Int.gcd n (Int.gcd b c:Int):Nat):Int) (Int.gcd_dvd_left ..) (Int.dvd_trans (Int.gcd_dvd_right ..) (Int.gcd_dvd_left ..)) (Int.dvd_trans (Int.gcd_dvd_right ..) (Int.gcd_dvd_right ..))
 exact Nat.dvd_one.1 (by exact_mod_cast this)
theorem pE {D n:Int} (hn:0 < n):rbL D n≠[]↔∃ b c,Rt D n b c:=by
 constructor
 ·intro h
  obtain ⟨b,hb⟩:=List.exists_mem_of_ne_nil _ h
  exact ⟨_,_,Ke (rbL_mem.1 hb).2⟩
 rintro ⟨b,c,h⟩ e
 have hm:b % (2*n)∈rbL D n:=by
  refine rbL_mem.2 ⟨⟨Int.emod_nonneg _ (by omega),Int.emod_lt_of_pos _ (by omega)⟩,?_⟩
  obtain ⟨k,hk⟩:∃ k,k=b / (2*n):=⟨_,rfl⟩
  have hb:b % (2*n)=b - 2*n*k:=by rw [hk];exact Int.emod_def _ _
  rw [hb]
  refine (Rt.mk' (c:=c - b*k+n*k*k) ?_ fun g h1 h2 h3=>?_).isR hn
  ·have:=h.eq;grind
  have g2:g ∣ b:=by
   have:b=(b - 2*n*k)+n*(2*k):=by grind
   rw [this];exact Int.dvd_add h2 (gh h1 _)
  refine h.all h1 g2 ?_
  have:c=(c - b*k+n*k*k)+(b*k - n*(k*k)):=by grind
  rw [this];exact Int.dvd_add h3 (Int.dvd_sub (gh g2 _) (gh h1 _))
 rw [e] at hm;cases hm
theorem uc {g c:Int} (hg:g % 2=1) (h:g ∣ 4*c):g ∣ c:=by
 refine lB (x:=4) ?_ h
 have h1:((Int.gcd g 4:Nat):Int) ∣ g:=Int.gcd_dvd_left ..
 have h2:Int.gcd g 4 ∣ 4:=by have:((Int.gcd g 4:Nat):Int) ∣ 4:=Int.gcd_dvd_right ..;exact_mod_cast this
 have h3:Int.gcd g 4≤4:=Nat.le_of_dvd (by decide) h2
 generalize Int.gcd g 4=k at *
 have:k=0∨k=1∨k=2∨k=3∨k=4:=by omega
 rcases this with rfl | rfl | rfl | rfl | rfl
 ·simp at h2
 ·rfl
 ·omega
 ·exact absurd h2 (by decide)
 omega
theorem w4 {g m:Int} (h:g ∣ m) (hm:m % 2=1):g % 2=1:=by
 obtain ⟨t,ht⟩:=h
 rcases Int.emod_two_eq g with e | e
 ·exfalso
  have:g=2*(g / 2):=by omega
  rw [this] at ht
  have:m=2*(g / 2*t):=by rw [ht];grind
  omega
 exact e
theorem Rt.mul_odd {D m n b1 c1 b2 c2:Int} (hm:m % 2=1) (hg:Int.gcd m n=1) (h1:Rt D m b1 c1) (h2:Rt D n b2 c2):∃ b c,Rt D (m*n) b c:=by
 have hg2:Int.gcd m (2*n)=1:=by
  have k:((Int.gcd m (2*n):Nat):Int) ∣ n:=lB (x:=2) (by
   have:=w4 (Int.gcd_dvd_left m (2*n)) hm
   have k2:Int.gcd ((Int.gcd m (2*n):Nat):Int) 2 ∣ 2:=by have:((Int.gcd ((Int.gcd m (2*n):Nat):Int) 2:Nat):Int) ∣ 2:=Int.gcd_dvd_right ..;exact_mod_cast this
   have k3:((Int.gcd ((Int.gcd m (2*n):Nat):Int) 2:Nat):Int) ∣ ((Int.gcd m (2*n):Nat):Int):=Int.gcd_dvd_left ..
   have k4:=Nat.le_of_dvd (by decide) k2
   generalize Int.gcd ((Int.gcd m (2*n):Nat):Int) 2=r at *
   have:r=0∨r=1∨r=2:=by omega
   rcases this with rfl | rfl | rfl
   ·simp at k2
   ·rfl
   omega) (Int.gcd_dvd_right ..)
  have k1:((Int.gcd m (2*n):Nat):Int) ∣ ((Int.gcd m n:Nat):Int):=Int.dvd_coe_gcd (Int.gcd_dvd_left ..) k
  rw [hg] at k1
  exact Nat.dvd_one.1 (by exact_mod_cast k1)
 obtain ⟨b,⟨k,hk⟩,⟨s,hs⟩⟩:=crt (b1:=b1) (b2:=b2) hg2
 have e1:=h1.eq
 have e2:=h2.eq
 have d1:m ∣ b*b - D:=⟨4*c1+k*(b+b1),by
  have:b*b - D=(b1*b1 - D)+(b - b1)*(b+b1):=by grind
  rw [this,e1,hk];grind⟩
 have hb2:b=b2+2*n*s:=by omega
 have d2:b*b - D=n*(4*(c2+s*b2+n*s*s)):=by
  have:b*b - D=(b2*b2 - D)+(b - b2)*(b+b2):=by grind
  rw [this,e2,hs,hb2];grind
 rw [d2] at d1
 have d3:m ∣ c2+s*b2+n*s*s:=uc hm (lB hg d1)
 obtain ⟨c,hc⟩:=d3
 have e3:b*b - D=4*(m*n)*c:=by rw [d2,hc];grind
 refine ⟨b,c,Rt.mk' e3 fun g g1 g2 g3=>?_⟩
 have q1:Int.gcd g m=1:=by
  have u1:((Int.gcd g m:Nat):Int) ∣ g:=Int.gcd_dvd_left ..
  have u2:((Int.gcd g m:Nat):Int) ∣ m:=Int.gcd_dvd_right ..
  have u3:=Int.dvd_trans u1 g2
  have u4:((Int.gcd g m:Nat):Int) ∣ b1:=by
   have:b1=b - m*k:=by omega
   rw [this];exact Int.dvd_sub u3 (gh u2 _)
  have u5:((Int.gcd g m:Nat):Int) ∣ c1:=by
   refine uc (w4 u2 hm) ?_
   have hm0:m≠0:=by omega
   have:m*(4*c1)=m*(4*(n*c) - k*(b+b1)):=by
    have h3:b1*b1 - D=(b*b - D) - (b - b1)*(b+b1):=by grind
    rw [e1,e3,hk] at h3
    grind
   rw [Int.eq_of_mul_eq_mul_left hm0 this]
   refine Int.dvd_sub ?_ ?_
   ·have:4*(n*c)=c*(4*n):=by grind
    rw [this];exact gh (Int.dvd_trans u1 g3) _
   rw [Int.mul_comm];exact gh (Int.dvd_add u3 u4) _
  exact Nat.dvd_one.1 (by exact_mod_cast h1.all u2 u4 u5)
 have u1:g ∣ n:=lB q1 g1
 have u4:g ∣ b2:=by
  have:b2=b - n*(2*s):=by rw [hb2];grind
  rw [this];exact Int.dvd_sub g2 (gh u1 _)
 refine h2.all u1 u4 ?_
 have:c2=c*m - (b2*s+n*(s*s)):=by
  have:c*m=c2+s*b2+n*s*s:=by rw [hc,Int.mul_comm]
  rw [this];grind
 rw [this]
 exact Int.dvd_sub (gh g3 _) (Int.dvd_add (gh u4 _) (gh u1 _))
theorem Rt.left {D m n b c:Int} (hg:Int.gcd m n=1) (h:Rt D (m*n) b c):Rt D m b (n*c):=by
 refine Rt.mk' (by rw [h.eq];grind) fun g g1 g2 g3=>?_
 exact h.all (gh g1 _) g2 (lB (vC g1 hg) g3)
theorem FY {D m n:Int} (hm:0 < m) (hn:0 < n) (hg:Int.gcd m n=1):rbL D (m*n)≠[]↔rbL D m≠[]∧rbL D n≠[]:=by
 rw [pE (Int.mul_pos hm hn),pE hm,pE hn]
 constructor
 ·rintro ⟨b,c,h⟩
  refine ⟨⟨b,_,h.left hg⟩,b,m*c,?_⟩
  have h':Rt D (n*m) b c:=by rw [Int.mul_comm];exact h
  exact h'.left (by rw [Int.gcd_comm];exact hg)
 rintro ⟨⟨b1,c1,h1⟩,b2,c2,h2⟩
 by_cases ho:m % 2=1
 ·exact h1.mul_odd ho hg h2
 have:n % 2=1:=by
  rcases Int.emod_two_eq n with e | e
  ·exfalso
   have k:(2:Int) ∣ ((Int.gcd m n:Nat):Int):=Int.dvd_coe_gcd (by omega) (by omega)
   rw [hg] at k
   exact absurd k (by decide)
  exact e
 rw [Int.mul_comm]
 exact h2.mul_odd this (by rw [Int.gcd_comm];exact hg) h1
end
section
open Go Go.RowKit
def fu (p:Nat):Nat→Nat→Nat→Nat × Nat
 | 0,n,q=>(n,q)
 | f+1,n,q=>if n % p=0 then fu p f (n / p) (q*p) else (n,q)
def ptN (p n:Nat):Nat × Nat:=fu p n n 1
def ppL:Nat→Nat→Nat→List Nat
 | 0,_,_=>[]
 | f+1,n,p=>if n≤1 then [] else (if 1 < (ptN p n).2 then [(ptN p n).2] else []) ++ ppL f (ptN p n).1 (p+1)
def parts (n:Nat):List Nat:=ppL n n 2
theorem s7 {p:Nat} (hp:2≤p):∀ (f n q:Nat),0 < n→n≤f→0 < (fu p f n q).1∧(fu p f n q).1*(fu p f n q).2=n*q∧(fu p f n q).1 % p≠0∧∃ k,(fu p f n q).2=q*p ^ k
 | 0,n,q,h0,hf=>by omega
 | f+1,n,q,h0,hf=>by
  unfold fu
  by_cases h:n % p=0
  ·rw [if_pos h]
   have hd:p ∣ n:=Nat.dvd_of_mod_eq_zero h
   have hpn:p≤n:=Nat.le_of_dvd h0 hd
   have h1:0 < n / p:=Nat.div_pos hpn (by omega)
   have h2:n / p < n:=Nat.div_lt_self h0 (by omega)
   obtain ⟨k1,k2,k3,k,k4⟩:=s7 hp f (n / p) (q*p) h1 (by omega)
   refine ⟨k1,?_,k3,k+1,?_⟩
   ·rw [k2]
    have:=Nat.div_mul_cancel hd
    calc n / p*(q*p)=n / p*p*q:=by rw [Nat.mul_comm q p,Nat.mul_assoc]
     _=n*q:=by rw [this]
   rw [k4,Nat.pow_succ,Nat.mul_assoc,Nat.mul_comm p]
  rw [if_neg h]
  exact ⟨h0,rfl,h,0,by simp⟩
theorem pN {p n:Nat} (hp:2≤p) (hn:0 < n):0 < (ptN p n).1∧(ptN p n).1*(ptN p n).2=n∧(ptN p n).1 % p≠0∧∃ k,(ptN p n).2=p ^ k:=by
 obtain ⟨h1,h2,h3,k,h4⟩:=s7 hp n n 1 hn (Nat.le_refl _)
 exact ⟨h1,by rw [Nat.mul_one] at h2;exact h2,h3,k,by rw [Nat.one_mul] at h4;exact h4⟩
theorem qY {a p:Nat} (h:Nat.gcd a p=1):∀ k,Nat.gcd a (p ^ k)=1
 | 0=>by simp
 | k+1=>by
  rw [Nat.pow_succ]
  exact Nat.Coprime.mul_right (qY h k) h
theorem sF {p n:Nat} (hp:2≤p) (hn:0 < n) (h:Nd n p):Nat.gcd (ptN p n).1 (ptN p n).2=1∧Nd (ptN p n).1 (p+1):=by
 obtain ⟨h1,h2,h3,k,h4⟩:=pN hp hn
 have hd:(ptN p n).1 ∣ n:=⟨_,h2.symm⟩
 have hnd:Nd (ptN p n).1 p:=fun e e2 e3 e4=>h e e2 e3 (Nat.dvd_trans e4 hd)
 refine ⟨?_,fun e e2 e3 e4=>?_⟩
 ·rw [h4]
  refine qY ?_ k
  have g1:Nat.gcd (ptN p n).1 p ∣ (ptN p n).1:=Nat.gcd_dvd_left ..
  have g2:Nat.gcd (ptN p n).1 p ∣ p:=Nat.gcd_dvd_right ..
  have g3:Nat.gcd (ptN p n).1 p≤p:=Nat.le_of_dvd (by omega) g2
  have g4:0 < Nat.gcd (ptN p n).1 p:=Nat.gcd_pos_of_pos_left _ h1
  generalize Nat.gcd (ptN p n).1 p=g at *
  rcases Nat.lt_or_ge g 2 with x | x
  ·omega
  rcases Nat.lt_or_ge g p with y | y
  ·exact absurd g1 (hnd g x y)
  have:g=p:=by omega
  subst this
  exact absurd (Nat.mod_eq_zero_of_dvd g1) h3
 rcases Nat.lt_or_ge e p with x | x
 ·exact hnd e e2 x e4
 have:e=p:=by omega
 subst this
 exact h3 (Nat.mod_eq_zero_of_dvd e4)
theorem tx {D:Int} (h4:D % 4=0∨D % 4=1):rbL D 1≠[]:=by
 refine (pE (by decide)).2 ⟨D % 2,(D % 2*(D % 2) - D) / 4,Rt.mk' ?_ fun g h _ _=>h⟩
 have:D % 2=0∨D % 2=1:=by omega
 rcases this with e | e <;> rw [e] <;> omega
theorem wt {D:Int} (h4:D % 4=0∨D % 4=1):∀ (f n p:Nat),0 < n→2≤p→Nd n p→n+2≤f+p→(rbL D (n:Int)≠[]↔∀ q∈ppL f n p,rbL D (q:Int)≠[])
 | 0,n,p,hn,hp,hd,hf=>by
  have h1:n=1:=by
   rcases Nat.lt_or_ge n 2 with x | x
   ·omega
   exact absurd (Nat.dvd_refl n) (hd n x (by omega))
  subst h1
  exact ⟨fun _ q hq=>(by cases hq),fun _=>tx h4⟩
 | f+1,n,p,hn,hp,hd,hf=>by
  unfold ppL
  by_cases h:n≤1
  ·rw [if_pos h]
   have h1:n=1:=by omega
   subst h1
   exact ⟨fun _ q hq=>(by cases hq),fun _=>tx h4⟩
  rw [if_neg h]
  obtain ⟨h1,h2,h3,k,h5⟩:=pN hp hn
  obtain ⟨g1,g2⟩:=sF hp hn hd
  have hle:(ptN p n).1≤n:=Nat.le_of_dvd hn ⟨_,h2.symm⟩
  have hq:0 < (ptN p n).2:=by rw [h5];exact Nat.pow_pos (by omega)
  have ih:=wt h4 f (ptN p n).1 (p+1) h1 (by omega) g2 (by omega)
  have hm:rbL D (n:Int)≠[]↔rbL D ((ptN p n).1:Int)≠[]∧rbL D ((ptN p n).2:Int)≠[]:=by
   have:=FY (D:=D) (m:=((ptN p n).1:Int)) (n:=((ptN p n).2:Int)) (by omega) (by omega) (by rw [Int.gcd_natCast_natCast];exact g1)
   rw [← this,← Int.natCast_mul,h2]
  rw [hm,ih]
  generalize (ptN p n).2=q at *
  constructor
  ·rintro ⟨a,b⟩ x hx
   rcases List.mem_append.1 hx with hx | hx
   ·split at hx
    ·rw [List.mem_singleton] at hx;subst hx;exact b
    cases hx
   exact a x hx
  intro a
  refine ⟨fun x hx=>a x (List.mem_append.2 (.inr hx)),?_⟩
  by_cases h1:1 < q
  ·exact a q (List.mem_append.2 (.inl (by rw [if_pos h1];simp)))
  have:q=1:=by omega
  subst this
  exact tx h4
theorem pO {D:Int} (h4:D % 4=0∨D % 4=1) {n:Nat} (hn:0 < n):rbL D (n:Int)≠[]↔∀ q∈parts n,rbL D (q:Int)≠[] :=
 wt h4 n n 2 hn (by decide) (fun e e1 e2=>by omega) (by omega)
def blk (D:Int) (n:Nat):Option Nat:=(parts n).find? fun q=>(rbL D (q:Int)).isEmpty
theorem C3 {D:Int} (h4:D % 4=0∨D % 4=1) {n:Nat} (hn:0 < n):blk D n=none↔rbL D (n:Int)≠[]:=by
 unfold blk
 rw [List.find?_eq_none,pO h4 hn]
 constructor
 ·intro h q hq e;exact h q hq (by rw [e];rfl)
 intro h q hq e;exact h q hq (List.isEmpty_iff.1 e)
theorem JC {D:Int} {n:Int} {f:Fm} (hx:prL D n f≠[]):rbL D n≠[]:=by
 intro e
 unfold prL at hx
 rw [e] at hx
 exact hx rfl
end
section
open Go Go.RowKit
end
section
open Go Go.RowKit
end
section
open Go Go.RowKit
end
section
open Go Go.RowKit
end
section
open Go Go.RowKit
section
end
end
section
open Go Go.RowKit
end
section
open Go Go.RowKit
section
variable {A B C:Int}
theorem ie {p:Nat} (hp:Pr p) (pf:prim A B C=true) {a m k:Nat} (e:a=p ^ k*m) (hm:¬ p ∣ m) {b:Nat} (ih:∃ x y:Nat,Nat.Coprime (vl A B C x y).natAbs m∧x≤b∧y≤b) :
  ∃ x y:Nat,Nat.Coprime (vl A B C x y).natAbs a∧x≤b+2*m∧y≤b+2*m:=by
 obtain ⟨x,y,hc,hbx,hby⟩:=ih
 obtain ⟨i,j,hi,hj,hv⟩:=Kg hp pf hm (x:Int) (y:Int)
 have mi:m*i≤m*2:=Nat.mul_le_mul_left m hi
 have mj:m*j≤m*2:=Nat.mul_le_mul_left m hj
 refine ⟨x+m*i,y+m*j,?_,by omega,by omega⟩
 have ex:((x+m*i:Nat):Int)=(x:Int)+m*i:=by rw [Int.natCast_add,Int.natCast_mul]
 have ey:((y+m*j:Nat):Int)=(y:Int)+m*j:=by rw [Int.natCast_add,Int.natCast_mul]
 rw [ex,ey]
 have c1:Nat.Coprime (vl A B C ((x:Int)+m*i) (y+m*j)).natAbs m:=by
  have hg:=sV (A:=A) (B:=B) (C:=C) (m:=(m:Int)) (x:Int) (y:Int) i j
  generalize vl A B C ((x:Int)+m*i) (y+m*j)=V at *
  generalize vl A B C (x:Int) (y:Int)=W at *
  have d1:=Nat.gcd_dvd_left V.natAbs m
  have d2:=Nat.gcd_dvd_right V.natAbs m
  have d3:((Nat.gcd V.natAbs m:Nat):Int) ∣ W:=by
   have e1:((Nat.gcd V.natAbs m:Nat):Int) ∣ V:=Int.ofNat_dvd_left.2 d1
   have e2:((Nat.gcd V.natAbs m:Nat):Int) ∣ (m:Int):=Int.natCast_dvd_natCast.2 d2
   have e3:=Int.dvd_sub e1 (Int.dvd_trans e2 hg)
   have:V - (V - W)=W:=by omega
   rwa [this] at e3
  have d4:=Nat.dvd_gcd (Int.ofNat_dvd_left.1 d3) d2
  unfold Nat.Coprime at hc ⊢
  rw [hc] at d4
  exact Nat.eq_one_of_dvd_one d4
 have c2:Nat.Coprime (vl A B C ((x:Int)+m*i) (y+m*j)).natAbs p:=tH hp (fun h=>hv (Int.ofNat_dvd_left.2 h))
 rw [e]
 exact Nat.Coprime.mul_right (Nat.Coprime.pow_right k c2) c1
theorem nX (pf:prim A B C=true):∀ (n a:Nat),a≤n→1≤a→∃ x y:Nat,Nat.Coprime (vl A B C x y).natAbs a∧x≤2*a∧y≤2*a
 | 0,a,h,h1=>by omega
 | n+1,a,h,h1=>by
  by_cases h2:a=1
  ·subst h2
   exact ⟨0,0,Nat.coprime_one_right _,by omega,by omega⟩
  obtain ⟨p,hp,hpa⟩:=pW a a (Nat.le_refl a) (by omega)
  obtain ⟨k,m,e,hm,m1,hle⟩:=lP hp a a (Nat.le_refl a) h1
  have hle:=hle hpa
  have h3:2*m≤p*m:=Nat.mul_le_mul_right m hp.1
  obtain ⟨x,y,hc,hx,hy⟩:=ie hp pf e hm (nX pf n m (by omega) m1)
  exact ⟨x,y,hc,by omega,by omega⟩
theorem L0 {q:Nat} (hq:Pr q) (h:q≤23):q ∣ 223092870:=by
 have h2:=hq.1
 rcases Nat.lt_or_ge 16 q with g | g
 ·rcases (show q=17∨q=18∨q=19∨q=20∨q=21∨q=22∨q=23 by omega) with rfl | rfl | rfl | rfl | rfl | rfl | rfl
  ·decide
  ·rcases hq.2 2 9 (by decide) with g | g <;> revert g <;> decide
  ·decide
  ·rcases hq.2 4 5 (by decide) with g | g <;> revert g <;> decide
  ·rcases hq.2 3 7 (by decide) with g | g <;> revert g <;> decide
  ·rcases hq.2 2 11 (by decide) with g | g <;> revert g <;> decide
  decide
 exact Nat.dvd_trans (tG hq g) ⟨7429,by decide⟩
theorem nO:Pr 19:=⟨by omega,fun x y h=>by
 have e:(x*y) % 19=((x % 19)*(y % 19)) % 19:=Nat.mul_mod ..
 have h1:(x*y) % 19=0:=Nat.mod_eq_zero_of_dvd h
 have key:∀ u v:Fin 19,(u.val*v.val) % 19=0→u.val=0∨v.val=0:=by decide +kernel
 rcases key ⟨x % 19,Nat.mod_lt _ (by omega)⟩ ⟨y % 19,Nat.mod_lt _ (by omega)⟩ (by rw [← e];exact h1) with g | g
 ·exact .inl (Nat.dvd_of_mod_eq_zero g)
 exact .inr (Nat.dvd_of_mod_eq_zero g)⟩
theorem qx:Pr 23:=⟨by omega,fun x y h=>by
 have e:(x*y) % 23=((x % 23)*(y % 23)) % 23:=Nat.mul_mod ..
 have h1:(x*y) % 23=0:=Nat.mod_eq_zero_of_dvd h
 have key:∀ u v:Fin 23,(u.val*v.val) % 23=0→u.val=0∨v.val=0:=by decide +kernel
 rcases key ⟨x % 23,Nat.mod_lt _ (by omega)⟩ ⟨y % 23,Nat.mod_lt _ (by omega)⟩ (by rw [← e];exact h1) with g | g
 ·exact .inl (Nat.dvd_of_mod_eq_zero g)
 exact .inr (Nat.dvd_of_mod_eq_zero g)⟩
theorem qW {q n g:Nat} (hq:Pr q) (h:g ∣ q*n) (hg:¬ q ∣ g):g ∣ n :=
 Nat.Coprime.dvd_of_dvd_mul_left (tH hq hg) h
theorem w9 {m:Nat} (h:m ∣ 510510) (h2:m < 510510):m≤255255:=by
 obtain ⟨k,hk⟩:=h
 rcases (show k=0∨k=1∨2≤k by omega) with rfl | rfl | g
 ·omega
 ·omega
 have:=Nat.mul_le_mul_left m g
 omega
theorem MC (pf:prim A B C=true) {g:Nat} (h1:1≤g) (h2:g≤8388608) (hd:g ∣ 223092870):∃ x y:Nat,Nat.Coprime (vl A B C x y).natAbs g∧x≤1400000∧y≤1400000:=by
 by_cases h23:23 ∣ g
 ·obtain ⟨m,rfl⟩:=h23
  have hm:m ∣ 9699690:=Nat.dvd_of_mul_dvd_mul_left (by omega:0 < 23) (show 23*m ∣ 23*9699690 from hd)
  have hn:¬ 23 ∣ m:=fun h=>by have:=Nat.dvd_trans h hm;revert this;decide
  rcases Nat.lt_or_ge 350000 m with q | q
  ·by_cases h19:19 ∣ m
   ·obtain ⟨t,rfl⟩:=h19
    have ht:t ∣ 510510:=Nat.dvd_of_mul_dvd_mul_left (by omega:0 < 19) (show 19*t ∣ 19*510510 from hm)
    have hn2:¬ 19 ∣ t:=fun h=>by have:=Nat.dvd_trans h ht;revert this;decide
    have c1:=ie nO pf (a:=19*t) (k:=1) (by omega) hn2 (nX pf t t (Nat.le_refl t) (by omega))
    obtain ⟨x,y,hc,hx,hy⟩:=ie qx pf (a:=23*(19*t)) (k:=1) (by omega) hn c1
    exact ⟨x,y,hc,by omega,by omega⟩
   have h5:m ∣ 510510:=qW nO (show m ∣ 19*510510 from hm) h19
   have:=w9 h5 (by omega)
   omega
  obtain ⟨x,y,hc,hx,hy⟩:=ie qx pf (a:=23*m) (k:=1) (by omega) hn (nX pf m m (Nat.le_refl m) (by omega))
  exact ⟨x,y,hc,by omega,by omega⟩
 have hm:g ∣ 9699690:=qW qx (show g ∣ 23*9699690 from hd) h23
 by_cases h19:19 ∣ g
 ·obtain ⟨t,rfl⟩:=h19
  have ht:t ∣ 510510:=Nat.dvd_of_mul_dvd_mul_left (by omega:0 < 19) (show 19*t ∣ 19*510510 from hm)
  have hn2:¬ 19 ∣ t:=fun h=>by have:=Nat.dvd_trans h ht;revert this;decide
  have:=w9 ht (by omega)
  obtain ⟨x,y,hc,hx,hy⟩:=ie nO pf (a:=19*t) (k:=1) (by omega) hn2 (nX pf t t (Nat.le_refl t) (by omega))
  exact ⟨x,y,hc,by omega,by omega⟩
 have h5:g ∣ 510510:=qW nO (show g ∣ 19*510510 from hm) h19
 have:=Nat.le_of_dvd (by omega) h5
 obtain ⟨x,y,hc,hx,hy⟩:=nX pf g g (Nat.le_refl g) h1
 exact ⟨x,y,hc,by omega,by omega⟩
theorem Ht (pf:prim A B C=true) {a:Nat} (h1:1≤a) (h2:a≤8388608):∃ x y:Nat,Nat.Coprime (vl A B C x y).natAbs a∧x≤1400000∧y≤1400000:=by
 by_cases h:∃ p,Pr p∧p ∣ a∧24≤p
 ·obtain ⟨p,hp,hpa,h24⟩:=h
  obtain ⟨k,m,e,hm,m1,hle⟩:=lP hp a a (Nat.le_refl a) h1
  have hle:=hle hpa
  have h3:24*m≤p*m:=Nat.mul_le_mul_right m h24
  obtain ⟨x,y,hc,hx,hy⟩:=ie hp pf e hm (nX pf m m (Nat.le_refl m) m1)
  exact ⟨x,y,hc,by omega,by omega⟩
 have hg1:1≤Nat.gcd a 223092870:=Nat.gcd_pos_of_pos_left _ (by omega)
 have hg2:=Nat.le_of_dvd (by omega) (Nat.gcd_dvd_left a 223092870)
 obtain ⟨x,y,hc,hx,hy⟩:=MC pf hg1 (by omega) (Nat.gcd_dvd_right a 223092870)
 refine ⟨x,y,?_,hx,hy⟩
 by_cases g:Nat.Coprime (vl A B C x y).natAbs a
 ·exact g
 exfalso
 obtain ⟨q,hq,d1,d2⟩:=wE h1 g
 have h16:q≤23:=by
  rcases Nat.lt_or_ge 23 q with g | g
  ·exact absurd ⟨q,hq,d2,g⟩ h
  exact g
 have d3:=Nat.dvd_gcd d1 (Nat.dvd_gcd d2 (L0 hq h16))
 unfold Nat.Coprime at hc
 rw [hc] at d3
 have:=Nat.le_of_dvd (by omega) d3
 have:=hq.1
 omega
end
theorem Hu {d:Int} {g:Fm} (hg:Cl d g) (h0:d < 0) (hd:-4194304≤d):∃ x y:Int,0≤x∧x≤1400000∧0≤y∧y≤1400000∧Int.gcd (vl g.a g.b g.c x y) (2*d)=1:=by
 obtain ⟨x,y,h1,h2,h3⟩:=Ht hg.prim (a:=(2*d).natAbs) (by omega) (by omega)
 exact ⟨x,y,by omega,by omega,by omega,by omega,h1⟩
theorem En {f:Fm}:gpE f=0→∃ x y:Int,0≤x∧x≤1400000∧0≤y∧y≤1400000∧Int.gcd (vl f.rd.a f.rd.b f.rd.c x y) (2*dsc f.a f.b f.c)=1:=fun h=>by
 obtain ⟨h1,h2⟩:=uz h
 obtain ⟨_,h3,h4⟩:=pX h2
 exact Hu h1.rd h3 h4
end
section
open Go Go.RowKit
theorem Hc {w w':World} (os:w'.os=w.os) (tp:w'.tape=w.tape) (out:OutD w' w) (sz:w.heap.size≤w'.heap.size) (old:∀ k,k < w.heap.size→w'.heap[k]?=w.heap[k]?) :
  ∃ q os',w'=Sort.grow (w.drewN q) os':=by
 obtain ⟨o1,o2⟩:=out
 refine ⟨w'.drawn - w.drawn,w'.heap.extract w.heap.size w'.heap.size,?_⟩
 have hh:w'.heap=w.heap ++ w'.heap.extract w.heap.size w'.heap.size:=by
  apply Array.ext_getElem?
  intro k
  rw [Array.getElem?_append]
  by_cases hk:k < w.heap.size
  ·rw [if_pos hk,old k hk]
  rw [if_neg hk,Array.getElem?_extract]
  by_cases h2:k < w'.heap.size
  ·rw [if_pos (by omega),show w.heap.size+(k - w.heap.size)=k by omega]
  rw [if_neg (by omega),Array.getElem?_eq_none (by omega)]
 have hd:w'.drawn=w.drawn+(w'.drawn - w.drawn):=by omega
 unfold Sort.grow World.drewN
 generalize w'.heap.extract w.heap.size w'.heap.size=x at hh
 generalize w'.drawn - w.drawn=y at hd
 cases w'
 simp only at os tp o1 hh hd
 subst os tp o1 hh hd
 rfl
section
variable {β:Type} {encD:β→List DV} {k:Nat}
theorem oW (hL:∀ b,(encD b).length=k):∀ (l:List β) (t:Nat) (dv:DV),(l.flatMap encD)[t]?=some dv→∃ b,l[t / k]?=some b∧(encD b)[t % k]?=some dv
 | [],t,dv,h=>by simp at h
 | b :: l,t,dv,h=>by
  rw [List.flatMap_cons,List.getElem?_append] at h
  rw [hL b] at h
  by_cases ht:t < k
  ·rw [if_pos ht] at h
   rw [Nat.div_eq_of_lt ht,Nat.mod_eq_of_lt ht]
   exact ⟨b,rfl,h⟩
  rw [if_neg ht] at h
  obtain ⟨b',h1,h2⟩:=oW hL l (t - k) dv h
  have hk:0 < k:=by
   rcases Nat.eq_zero_or_pos k with e | e
   ·subst e
    have:=List.length_eq_zero_iff.1 (hL b')
    rw [this] at h2;simp at h2
   exact e
  have e1:t / k=(t - k) / k+1:=by
   rw [Nat.div_eq_sub_div hk (by omega)]
  have e2:t % k=(t - k) % k:=Nat.mod_eq_sub_mod (by omega)
  rw [e1,e2]
  exact ⟨b',by simpa using h1,h2⟩
theorem dC (hL:∀ b,(encD b).length=k) (l:List β):(l.flatMap encD).length=l.length*k:=by
 induction l with
 | nil=>simp
 | cons b l ih=>rw [List.flatMap_cons,List.length_append,ih,hL,List.length_cons,Nat.add_mul];omega
def ElS (h:Hp) (encD:β→List DV) (k:Nat):Type:={x:List Value × β // x.1.length=k∧DReps h (encD x.2) fun i=>x.1[i]?}
def ElS.enc {h:Hp} (x:ElS h encD k):List Value:=x.1.1
def ElS.ob {h:Hp} (x:ElS h encD k):β:=x.1.2
theorem ElS.one {h:Hp} (hL:∀ b,(encD b).length=k) (x:ElS h encD k):∀ v∈x.enc,v.oneCell'=true:=by
 intro v hv
 obtain ⟨i,hi⟩:=List.mem_iff_getElem?.1 hv
 have hlt:=(List.getElem?_eq_some_iff.1 hi).1
 have e1:x.enc.length=k:=x.2.1
 obtain ⟨y,y1,y2⟩:=x.2.2.get i ((encD x.1.2)[i]'(by rw [hL];omega)) (List.getElem?_eq_getElem _)
 have e2:x.enc[i]?=some y:=y1
 rw [hi] at e2;cases e2
 exact y2.one
end
theorem j0 {α:Type} [Inhabited α] (enc:α→List Value) (k:Nat) (w:World) (blk off n:Nat) (d:Array α) (os:Array Obj) (i:Nat) (hi:i < w.heap.size) :
  (Proofs.sortWorldK enc k w blk off n d os).heap[i]?=if i=blk then (w.heap[i]?).map (Sort.onCells (Sort.putCells id off (Sort.flatK enc k d))) else w.heap[i]?:=by
 unfold Proofs.sortWorldK
 rw [Sort.heap_grow_old _ _ (by show i < (Sort.putRow _ _ _ _ _).heap.size;rw [Sort.size_putRow];exact hi)]
 show (w.heap.modify blk _)[i]?=_
 rw [Array.getElem?_modify]
 by_cases e:blk=i
 ·subst e;rw [if_pos rfl]
 rw [if_neg e,if_neg (fun x=>e x.symm)]
open Go.Proofs in
theorem xo {P:Program} {ρ:Shelf.Ren} (L:SlLaysF0.n6 P ρ) {tt:TT} (hT:dW P tt) {j:TyI} (he:tt (ρ.t 24)=some j) (hag:j.sh.agg=true) {k:Nat} (hjs:j.size=k) (hk0:0 < k) {β:Type} {encD:β→List DV} (hL:∀ b,(encD b).length=k)
  (cb:β→β→Int) (hO:Sort.SWO (ltOf cb)) {g:Nat} (hc:∀ x y:β,aJ P g [.p (.a (encD x)),.p (.a (encD y))] (.p (.c (.v (.int .i64 (cb x y)))))) {m:Nat} {e:TypeId} {l l':List β} (hp:l'.Perm l) (hs:l'.Pairwise fun x y=>¬ cb y x < 0)
  (ha:∀ x∈l,∀ y∈l,¬ cb x y < 0→¬ cb y x < 0→x=y) :
  CallM P (ρ.f 6) [.vec m,.p (.c (.v (.func (.func g) #[] #[])))] (upd O m (some ⟨true,k,e,l.flatMap encD⟩)) (.t []) (upd O m (some ⟨true,k,e,l'.flatMap encD⟩)) where
 fn:=by
  obtain ⟨nm,hn,hf⟩:=L.f6
  exact ⟨_,hf,hn,rfl⟩
 go h r w cargs hrep hbef:=by
  obtain ⟨cl⟩:=cargs
  match cl,hrep with
  | [a,b],hrep =>
  obtain ⟨ha1,hb1,_⟩:=hrep
  simp only [AVRep] at ha1
  have hb2:b=.func (.func g) #[] #[]:=b7 hb1
  subst ha1 hb2
  have hB:=hbef.ow m _ (upd_same _ _ _)
  unfold BlkRep at hB
  obtain ⟨aa,n,cap,hr,hn,hcap,hn47,hmem⟩:=hB
  simp only at hn hmem
  rw [dC hL] at hn
  have hnl:n=l.length:=Nat.eq_of_mul_eq_mul_right hk0 hn
  have hown:∀ q,upd O m (some (⟨true,k,e,l.flatMap encD⟩:Blk)) q≠none→q=m:=fun q hq=>by
   by_cases hqm:q=m
   ·exact hqm
   rw [aR _ _ _ _ hqm] at hq;exact absurd rfl hq
  have hown':∀ q b,upd O m (some (⟨true,k,e,l'.flatMap encD⟩:Blk)) q=some b→q=m∧b=⟨true,k,e,l'.flatMap encD⟩:=fun q b hq=>by
   by_cases hqm:q=m
   ·subst hqm;rw [upd_same] at hq;cases hq;exact ⟨rfl,rfl⟩
   rw [aR _ _ _ _ hqm] at hq;cases hq
  have hself:upd O m (some (⟨true,k,e,l.flatMap encD⟩:Blk)) m≠none:=by rw [upd_same];simp
  rcases List.eq_nil_or_concat l with hl | ⟨l0,b0,hl⟩
  ·subst hl
   have hl':l'=[]:=List.Perm.eq_nil hp
   subst hl'
   have hn0:n=0:=by simpa using hnl
   subst hn0
   rw [hr]
   refine (AnyF.slices_SortFunc_none L aa cap (.func (.func g) #[] #[]) w).mono ?_
   rintro e' w' ⟨rfl,rfl⟩
   refine ⟨_,h,rfl,⟨[],rfl,trivial⟩,⟨fun q b hq=>?_,fun q hq=>?_,hbef.hi,fun q i hq=>hbef.ho q i ?_,rfl,rfl,.refl _,Nat.le_refl _,fun _ _ _=>rfl,.refl _,fun _ hq=>.inl hq⟩⟩
   ·obtain ⟨rfl,rfl⟩:=hown' q b hq
    exact hbef.ow q _ (upd_same _ _ _)
   ·exact hq
   exact hq
  have hlen:0 < l.length:=by rw [hl];simp
  have hcap0:cap≠0:=by omega
  rcases hmem with hmem | ⟨kk,c,haa,hheap,hcs,hrd⟩
  ·exact absurd hmem hcap0
  subst haa
  have hkk:kk < w.heap.size:=(Array.getElem?_eq_some_iff.1 hheap).1
  have hrm:bo (r m)=some kk:=by rw [hr];simp [bo,hcap0]
  have hkn:h kk=none:=hbef.ho m kk hself hrm
  have hel:∀ i:Fin n,(((c.toList.drop (i.val*k)).take k).length=k∧DReps h (encD (l[i.val]'(by omega))) fun q=>((c.toList.drop (i.val*k)).take k)[q]?):=fun i=>by
   have hik:i.val*k+k≤c.size:=by
    rw [hcs]
    have:=Nat.mul_le_mul_right k (show i.val+1≤cap by omega)
    rw [Nat.add_mul,Nat.one_mul] at this;exact this
   refine ⟨by rw [List.length_take,List.length_drop,Array.length_toList];omega,?_⟩
   rw [DReps.iff]
   intro q d hq
   have hqk:q < k:=by have:=(List.getElem?_eq_some_iff.1 hq).1;rwa [hL] at this
   have hfl:(l.flatMap encD)[i.val*k+q]?=some d:=by
    have hlt:i.val*k+q < (l.flatMap encD).length:=by
     rw [dC hL]
     have:=Nat.mul_le_mul_right k (show i.val+1≤l.length by omega)
     rw [Nat.add_mul,Nat.one_mul] at this;omega
    obtain ⟨b',g1,g2⟩:=oW hL l (i.val*k+q) _ (List.getElem?_eq_getElem hlt)
    have e1:(i.val*k+q) / k=i.val:=by rw [Nat.mul_comm,Nat.mul_add_div hk0,Nat.div_eq_of_lt hqk];rfl
    have e2:(i.val*k+q) % k=q:=by rw [Nat.mul_comm,Nat.mul_add_mod,Nat.mod_eq_of_lt hqk]
    rw [e1,List.getElem?_eq_getElem (by omega)] at g1
    rw [e2] at g2
    cases g1
    rw [hq] at g2
    rw [List.getElem?_eq_getElem hlt,← g2]
   obtain ⟨y,y1,y2⟩:=hrd.get _ d hfl
   refine ⟨y,?_,y2⟩
   rw [List.getElem?_take,if_pos hqk,List.getElem?_drop,Array.getElem?_toList];exact y1
  let mk:Fin n→ElS h encD k:=fun i=>⟨((c.toList.drop (i.val*k)).take k,l[i.val]'(by omega)),hel i⟩
  let D:Array (ElS h encD k):=Array.ofFn mk
  have hDs:D.size=n:=by simp [D]
  haveI:Inhabited (ElS h encD k):=⟨mk ⟨0,by omega⟩⟩
  have hDob:D.toList.map ElS.ob=l:=by
   apply List.ext_getElem
   ·simp [hDs,hnl]
   intro i h1 h2
   rw [List.getElem_map,Array.getElem_toList]
   have e3:D[i]'(by simpa using h1)=mk ⟨i,by simpa [hDs] using h1⟩:=by simp [D]
   rw [e3];rfl
  have hDget:∀ i,(hi:i < n)→D[i]! = mk ⟨i,hi⟩:=fun i hi=>by
   rw [getElem!_pos D i (by omega)]
   simp [D]
  have hH:Sort.HoldsK ElS.enc k w kk 0 D:=by
   intro q hq
   have hq':q < n*k:=by rw [Sort.size_flatK,hDs] at hq;exact hq
   have hqn:q / k < n:=(Nat.div_lt_iff_lt_mul hk0).2 hq'
   rw [Sort.get_flatK _ _ _ _ (by rw [hDs];exact hq'),hDget _ hqn,Nat.zero_add]
   have hqc:q < c.size:=by
    rw [hcs]
    exact Nat.lt_of_lt_of_le hq' (Nat.mul_le_mul_right k hcap)
   have ev:((mk ⟨q / k,hqn⟩).enc)[q % k]! = c[q]:=by
    have hmod:=Nat.mod_lt q hk0
    have edm:q / k*k+q % k=q:=by rw [Nat.mul_comm];exact Nat.div_add_mod q k
    show ((c.toList.drop (q / k*k)).take k)[q % k]! = c[q]
    rw [List.getElem!_eq_getElem?_getD,List.getElem?_take,if_pos hmod,List.getElem?_drop,edm,Array.getElem?_toList,Array.getElem?_eq_getElem hqc]
    rfl
   rw [ev]
   refine ⟨?_,?_⟩
   ·simp [World.cell?,hheap,hqc]
   simp [World.frozen?,hheap]
  have hnot:∀ i o,h i=some o→i≠kk:=fun i o ho hik=>by subst hik;rw [hkn] at ho;cases ho
  have hcmp:CmpLays P g #[] ElS.enc k (fun x y:ElS h encD k=>cb x.ob y.ob) kk 0 D.size w:=by
   intro m0 os0 dk hdk x y
   have hWi:∀ i o,h i=some o→(sortWorldK ElS.enc k w kk 0 m0 dk os0).heap[i]?=some o:=fun i o ho=>by
    have hiw:i < w.heap.size:=(Array.getElem?_eq_some_iff.1 (hbef.hi i o ho)).1
    rw [j0 _ _ _ _ _ _ _ _ _ hiw,if_neg (hnot i o ho)]
    exact hbef.hi i o ho
   have hW:Before h r O (sortWorldK ElS.enc k w kk 0 m0 dk os0):=⟨fun q b hq=>(by cases hq),fun q _ _ hq=>absurd rfl hq,hWi,fun q _ hq=>absurd rfl hq,hbef.gl⟩
   have e0:(#[Value.agg x.enc.toArray,Value.agg y.enc.toArray] ++ #[]:Array Value)=#[Value.agg x.enc.toArray,Value.agg y.enc.toArray]:=by simp
   rw [e0]
   have rx:∀ z:ElS h encD k,AVRep h r (.p (.a (encD z.ob))) (Value.agg z.enc.toArray):=fun z=>by
    refine ⟨z.1.1.toArray,rfl,by rw [hL,List.size_toArray];exact z.2.1,?_⟩
    show DReps h (encD z.1.2) fun i=>(z.1.1).toArray[i]?
    simp only [List.getElem?_toArray]
    exact z.2.2
   have hcx:=(hc x.ob y.ob).go h r _ #[.agg x.enc.toArray,.agg y.enc.toArray] ⟨rx x,rx y,trivial⟩ hW
   refine hcx.mono ?_
   rintro e' w' ⟨v,h',rfl,hv,q⟩
   refine ⟨by rw [b7 hv],Hc q.os q.tape q.output q.size fun i hi=>q.old i hi ?_⟩
   rintro ⟨m1,hm1,_⟩
   exact hm1 rfl
  have hO':Sort.SWO (ltOf fun x y:ElS h encD k=>cb x.ob y.ob):=⟨fun x=>hO.irrefl x.ob,fun x y z=>hO.trans x.ob y.ob z.ob,fun x y z=>hO.ntrans x.ob y.ob z.ob⟩
  have eg:∀ args w,(callFunc g args).run P w=.ok (.enter g args) w:=fun args w=>cL (hc (mk ⟨0,by omega⟩).ob (mk ⟨0,by omega⟩).ob).fn args w
  have hcon:=AnyQ.slices_SortFunc L k (fun w=>by rw [(hT _ _ he).isAgg w,hag]) (fun w=>by rw [(hT _ _ he).size w,hjs]) ElS.enc (fun x=>x.2.1) (fun x=>x.one hL) (fun x y:ElS h encD k=>cb x.ob y.ob) hO' g #[] kk 0 cap D w eg hcmp hH hkk (by omega)
  rw [hDs] at hcon
  rw [hr]
  refine hcon.mono ?_
  rintro e' w' ⟨rfl,d',n',os',hperm,hsort,rfl⟩
  obtain ⟨hsz,_,hpm⟩:=hperm
  have e1:d'.extract 0 n=d':=by rw [← hDs,← hsz];exact Array.extract_size
  have e2:D.extract 0 n=D:=by rw [← hDs];exact Array.extract_size
  rw [e1,e2] at hpm
  have hpl:(d'.toList.map ElS.ob).Perm l:=by rw [← hDob];exact hpm.map _
  have hds:d'.size=n:=by rw [hsz,hDs]
  have hsl:(d'.toList.map ElS.ob).Pairwise fun x y=>¬ cb y x < 0:=by
   rw [List.pairwise_iff_getElem]
   intro i j hi hj hij
   simp only [List.length_map,Array.length_toList] at hi hj
   have:=hsort i j (Nat.zero_le _) hij (by omega)
   unfold ltOf at this
   have:=dF0 this
   rw [getElem!_pos d' j hj,getElem!_pos d' i hi] at this
   simpa using this
  have hll:d'.toList.map ElS.ob=l':=by
   refine List.Perm.eq_of_pairwise (le:=fun x y=>¬ cb y x < 0) ?_ hsl hs (hpl.trans hp.symm)
   intro x y hx hy h1 h2
   exact ha x (hpl.mem_iff.1 hx) y (hp.mem_iff.1 hy) h2 h1
  refine ⟨_,h,rfl,⟨[],rfl,trivial⟩,⟨fun q b hq=>?_,fun q hq=>?_,fun i o ho=>?_,fun q i hq=>?_,rfl,rfl,⟨rfl,Nat.le_add_right _ _⟩,?_,fun i hi hno=>?_,.refl _,fun _ hq=>.inl hq⟩⟩
  ·obtain ⟨rfl,rfl⟩:=hown' q b hq
   unfold BlkRep
   simp only
   refine ⟨_,n,cap,hr,by rw [dC hL,← hll];simp [hds],hcap,hn47,.inr ⟨kk,Sort.putCells id 0 (Sort.flatK ElS.enc k d') c,rfl,?_,?_,?_⟩⟩
   ·rw [j0 _ _ _ _ _ _ _ _ _ hkk,if_pos rfl,hheap];rfl
   ·simp [Sort.putCells,hcs]
   rw [DReps.iff]
   intro t dv ht
   obtain ⟨b',g1,g2⟩:=oW hL l' t dv ht
   have hlt:t < l'.length*k:=by have:=(List.getElem?_eq_some_iff.1 ht).1;rwa [dC hL] at this
   have hl'n:l'.length=n:=by rw [← hll];simp [hds]
   rw [hl'n] at hlt
   have htn:t / k < n:=(Nat.div_lt_iff_lt_mul hk0).2 hlt
   have htc:t < c.size:=by rw [hcs];exact Nat.lt_of_lt_of_le hlt (Nat.mul_le_mul_right k hcap)
   rw [← hll,List.getElem?_map,Array.getElem?_toList,Array.getElem?_eq_getElem (by omega)] at g1
   simp only [Option.map_some,Option.some.injEq] at g1
   subst g1
   obtain ⟨y,y1,y2⟩:=(d'[t / k]'(by omega)).2.2.get _ dv g2
   refine ⟨y,?_,y2⟩
   simp only [Sort.putCells,Array.getElem?_mapIdx,Array.getElem?_eq_getElem htc,Option.map_some]
   rw [if_pos ⟨Nat.zero_le _,by rw [Sort.size_flatK,hds];omega⟩,Nat.sub_zero,Sort.get_flatK _ _ _ _ (by rw [hds];exact hlt),getElem!_pos d' (t / k) (by omega)]
   have y3:((d'[t / k]'(by omega)).enc)[t % k]?=some y:=y1
   rw [List.getElem!_eq_getElem?_getD,y3]
   rfl
  ·have:=hown' q
   cases hq2:upd O m (some (⟨true,k,e,l'.flatMap encD⟩:Blk)) q with
   | none=>exact absurd hq2 hq
   | some b=>obtain ⟨rfl,_⟩:=hown' q b hq2;exact hself
  ·have hiw:i < w.heap.size:=(Array.getElem?_eq_some_iff.1 (hbef.hi i o ho)).1
   rw [j0 _ _ _ _ _ _ _ _ _ hiw,if_neg (hnot i o ho)];exact hbef.hi i o ho
  ·intro hqi
   cases hq2:upd O m (some (⟨true,k,e,l'.flatMap encD⟩:Blk)) q with
   | none=>exact absurd hq2 hq
   | some b=>obtain ⟨rfl,_⟩:=hown' q b hq2;exact hbef.ho q i hself hqi
  ·exact size_sortWorldK_c _ _ _ _ _ _ _ _
  rw [j0 _ _ _ _ _ _ _ _ _ hi,if_neg]
  intro hik
  exact hno ⟨m,hself,by rw [hrm,hik]⟩
end
section
open Go Go.RowKit
end
section
open Go Go.RowKit
end
section
open Go Go.RowKit
section
variable {β:Type} {encD:β→List DV} {z:Nat}
abbrev SL (encD:β→List DV) (l:List β):DV:=.sl l.length (l.flatMap encD)
abbrev VB (z:Nat) (e:TypeId) (encD:β→List DV) (l:List β):Blk:=⟨true,z,e,l.flatMap encD⟩
theorem r9 (hL:∀ b,(encD b).length=z):∀ (l:List β) (i:Nat) (h:i < l.length),(l.flatMap encD).drop (i*z)=encD l[i] ++ (l.drop (i+1)).flatMap encD
 | x :: l,0,_=>by simp
 | x :: l,i+1,h=>by
  have ih:=r9 hL l i (by simpa using h)
  have e:(i+1)*z=(encD x).length+i*z:=by rw [hL,Nat.add_mul,Nat.one_mul,Nat.add_comm]
  rw [e,List.flatMap_cons,List.drop_length_add_append,ih]
  simp
variable {P:Program} {tt:TT} (hT:dW P tt)
variable {dst:Option Nat} {ty:TypeId} {pos:String} {af:Array Edge} {gd:Option (Nat × Bool)} {d:Nat} {ρ:Operand→AV} {own:Own}
variable {T e:TypeId} {i j:TyI} {x y:Operand}
include hT
theorem b5 (hL:∀ b,(encD b).length=z) (hz:0 < z) (b0:β) {k:IntKind} {n:Int} {l:List β} (ht:tt T=some i) (hs:i.sh=.sl e) (he:tt e=some j) (hj:j.size=z) (hx:ρ x=.p (.c (SL encD l))) (hy:ρ y=.p (.c (.v (.int k n)))) (hn:0≤n∧n < l.length) :
  Eff P ⟨dst,.indexAddr T x y,ty,pos,af,gd⟩ d ρ own (.ip (encD (l.getD n.toNat b0) ++ (l.drop (n.toNat+1)).flatMap encD)) [] none []:=by
 have hi:n.toNat < l.length:=by omega
 have h:=b6 (dst:=dst) (ty:=ty) (pos:=pos) (af:=af) (gd:=gd) (d:=d) (own:=own) hT ht hs he hx (l:=l.length) (xs:=l.flatMap encD) (by rfl) hy hn (by
  intro h0
  have:=dC hL l
  rw [h0] at this
  have h1:1*1≤l.length*z:=Nat.mul_le_mul (by omega) hz
  simp at this
  omega)
 rw [hj,r9 hL l n.toNat hi] at h
 have e1:l.getD n.toNat b0=l[n.toNat]:=by simp [List.getD,hi]
 rw [e1];exact h
theorem jY (hL:∀ b,(encD b).length=z) (hz:Nat.blt 0 z=true) {m:Nat} {l:List β} {b:β} (ht:tt T=some i) (hs:i.sh=.sl e) (he:tt e=some j) (hj:j.size=z) (hjb:Nat.ble j.bytes (32*z)=true) (hx:ρ x=.vec m) (hb:own m=some (VB z e encD l)) (hy:ρ y=.p (.c (.sl 1 (encD b)))) (hfit:l.length≤10000000) (hmd:m≠d) (hzb:Nat.ble z 96=true) :
  Eff P ⟨dst,.call ⟨.builtin .append,#[x,y],#[T,T]⟩,ty,pos,af,gd⟩ d ρ own (.vec d) [(m,none)] (some (VB z e encD (l ++ [b]))) [m]:=by
 have hl:(VB z e encD l).cs.length=l.length*z:=dC hL l
 have hz2:=bL0 hzb
 have h1:l.length*z≤10000000*96:=Nat.mul_le_mul hfit hz2
 have h:=eY (dst:=dst) (ty:=ty) (pos:=pos) (af:=af) (gd:=gd) hT ht hs he hx hb rfl hj.symm rfl hy (by rfl) (by rw [hj,Nat.one_mul];exact hL b) (by rw [hj];exact hjb) (by rw [hl,hj];omega) (by rw [hj];exact hz) hmd
 unfold VB
 rw [List.flatMap_append]
 rw [hj] at h
 simpa using h
end
section
variable {β:Type} {encD:β→List DV} {z:Nat}
theorem fi {P:Program} {B:Bool} {N np:Nat} {Q:Exit→St→Prop} {s:St} {c:Code} (hL:∀ b,(encD b).length=z) (hz:Nat.blt 0 z=true) {t m:Nat} {l:List β} {e:TypeId} (ht:s.regs t=.vec m) (hb:s.own m=some (VB z e encD l)) (h:AWp P B N np c Q ⟨upd s.regs t (.p (.c (SL encD l))),upd s.own m none⟩):AWp P B N np c Q s :=
 iT (n:=l.length) ht hb rfl (dC hL l).symm (show 0 < z by simpa using hz) h
end
section
end
end
section
open Go Go.RowKit
end
section
open Go Go.RowKit
end
section
open Go Go.RowKit
def ow (o s k:Int):Int:=if k % 2=1 then o*s else o
theorem Gx {o s k:Int} (h:s*s=1):ow o s k*s=ow o s (k+1):=by
 unfold ow
 by_cases hk:k % 2=1
 ·rw [if_pos hk,if_neg (by omega),Int.mul_assoc,h,Int.mul_one]
 rw [if_neg hk,if_pos (by omega)]
theorem Nk {o s k:Int} (h:-1≤o∧o≤1) (hs:-1≤s∧s≤1):-1≤ow o s k∧ow o s k≤1:=by
 unfold ow
 split
 ·rcases (show o=-1∨o=0∨o=1 by omega) with rfl | rfl | rfl <;> omega
 exact h
theorem Eb {o n k a b:Int} (h:tw a=(b,k)):ow o (sg8 n) k=k1F o a n:=by unfold ow k1F;rw [h]
theorem Ka {o n k a b:Int} (h:tw a=(b,k)) (h1:b % 4=3) (h2:n % 4=3):0 - ow o (sg8 n) k=k2F (k1F o a n) a n:=by
 unfold k2F;rw [Eb h,h,if_pos ⟨h1,h2⟩];omega
theorem Ek {o n k a b:Int} (h:tw a=(b,k)) (h1:¬ (b % 4=3∧n % 4=3)):ow o (sg8 n) k=k2F (k1F o a n) a n:=by
 unfold k2F;rw [Eb h,h,if_neg h1]
theorem xY {a:Int} (h:a % 2=1):c7 a=true:=by unfold c7;rw [h];rfl
theorem Ee {a:Int} (h:a % 2=0):c7 a=false:=by unfold c7;rw [h];rfl
theorem G0 {a n:Int} (h0:0 < n) (ho:n % 2=1):k1K a n=1∧tw (n.natAbs:Int)=(n,0):=by
 have e:(n.natAbs:Int)=n:=by omega
 have ht:tw n=(n,0):=jG (xY ho)
 refine ⟨?_,by rw [e,ht]⟩
 unfold k1K k0K
 rw [e,ht,if_neg (show ¬ (0:Int) % 2=1 by decide),if_neg (by omega)]
theorem KrI.startO {a n:Int} (h0:0 < n) (ho:n % 2=1) (ha:L 40 a) (hn:L 40 n):KrI (RK_ a n) (a % n).natAbs.succ 1 (a % n) n:=by
 have h:=KrI.start (a:=a) (n:=n) (by omega) ha hn
 obtain ⟨e1,e2⟩:=G0 (a:=a) h0 ho
 rw [e1,e2] at h
 exact h
theorem zX {a n:Int} (_h0:0 < n) (ho:n % 2=1):kr a n=if (RK_ a n).2=1 then (RK_ a n).1 else 0:=sJ (by omega) (fun x=>by rw [xY ho] at x;cases x.2)
theorem KrI.nextO {R:Int × Int} {f:Nat} {k a n b e:Int} (h:KrI R f k a n) (ha:0 < a) (ht:tw a=(b,e)):KrI R (f - 1) (k2F (k1F k a n) a n) (n % b) b∧(n % b).natAbs < a.natAbs:=by
 have:=h.next ha
 rw [ht] at this
 exact this
theorem pT {a:Int} (h:¬ a % 2=0):a % 2=1:=by omega
theorem Lc {a:Int} (h:a % 8 % 2=0):(0:Int)=if a % 2=0 then 0 else sg8 a:=by rw [if_pos (by omega)]
theorem DO {a:Int} (_h:¬ a % 8 % 2=0) (h1:a % 8=3∨a % 8=5):(-1:Int)=if a % 2=0 then 0 else sg8 a:=by
 rw [if_neg (by omega)];unfold sg8;repeat' split <;> omega
theorem Lb {a:Int} (h:¬ a % 8 % 2=0) (h1:¬ (a % 8=3∨a % 8=5)):(1:Int)=if a % 2=0 then 0 else sg8 a:=by
 rw [if_neg (by omega)];unfold sg8;repeat' split <;> omega
theorem mf {c n:Int} (hn:0 < n) (ho:n % 2=1) (hc:c=-4∨c=8∨c=-8):kr c n=cv c n:=by
 rw [jL hc]
 have h2:kr 2 n=sg8 n:=by
  have hcp:=lA (n:=n) ho
  rw [jD hn ho,if_pos hcp,vi hn ho]
 have hm1:kr (-1) n=if n % 4=1 then 1 else -1:=kr_m1 hn ho
 have h4:kr (-4) n=kr (-1) n*(kr 2 n*kr 2 n):=by rw [← di hn ho,← di hn ho];rfl
 have h8:kr 8 n=kr 2 n*(kr 2 n*kr 2 n):=by rw [← di hn ho,← di hn ho];rfl
 have h8m:kr (-8) n=kr (-1) n*(kr 2 n*(kr 2 n*kr 2 n)):=by rw [← di hn ho,← di hn ho,← di hn ho];rfl
 have hs:sg8 n*sg8 n=1:=nE ho
 rw [h2,hs] at h4 h8 h8m
 rw [hm1] at h4 h8m
 obtain ⟨r,hr⟩:=nW n
 have key:∀ r:Fin 8,r.val % 2=1→spv (-4) r.val=(if (r.val:Int) % 4=1 then 1 else -1)∧spv 8 r.val=sg8 r.val∧spv (-8) r.val=(if (r.val:Int) % 4=1 then 1 else -1)*sg8 r.val:=by decide +kernel
 obtain ⟨k1,k2,k3⟩:=key r (by omega)
 have e4:n % 4=(r.val:Int) % 4:=by omega
 have e8:sg8 n=sg8 r.val:=by unfold sg8;rw [hr,show ((r.val:Int)) % 8=(r.val:Int) by have:=r.isLt;omega]
 rw [hr]
 rcases hc with rfl | rfl | rfl
 ·rw [h4,k1,e4,Int.mul_one]
 ·rw [h8,k2,e8,Int.mul_one]
 rw [h8m,k3,e4,e8,Int.mul_one]
where
 kr_m1 {n:Int} (hn:0 < n) (ho:n % 2=1):kr (-1) n=if n % 4=1 then 1 else -1:=by
  have hc:Cop (-1) n:=Cop.of_inv (b:=-1) ⟨0,by omega⟩
  rw [jD hn ho,if_pos hc]
  exact SS_m1 hn ho
 SS_m1 {n:Int} (hn:0 < n) (ho:n % 2=1):SS (-1) n=if n % 4=1 then 1 else -1:=by
  have e:bN ((rg n).map fun x=>up n (-1*x))=n / 2:=by
   rw [← uk n hn]
   refine dA fun x hx=>?_
   have:=(fE hn).1 hx
   have e1:(-1*x) % n=n - x:=by
    rw [← Int.add_emod_right (-1*x) n,Int.emod_eq_of_lt (by omega) (by omega)];omega
   unfold up
   rw [e1,if_neg (by omega)]
  rw [vj,e]
  unfold par
  split <;> split <;> omega
end
section
open Go Go.RowKit
theorem uy {d:Int} {f:Fm} (hf:Cl d f) (hd:-4194304≤d) (hE:szE d=0):(gvL f).length=(chs d).length:=by
 unfold gvL
 rw [if_pos (p9 hf hd hE),hf.disc,List.length_map]
theorem IZ {d N:Int} {f:Fm} (hf:Cl d f) (h0:d < 0) (hN:RpN f N) (cN:Int.gcd N (2*d)=1):0 < N∧N % 2=1:=by
 have h1:=DX hf hN h0
 have h2:=qP cN
 omega
end
section
open Go Go.RowKit
def agL (D n:Int) (f:Fm):List Int:=if Int.gcd (2*D) n=1 then (((chs D).zip (gvL f)).filter fun p=>decide (cv p.1 n≠p.2)).map Prod.fst else []
structure Ans where
 kind:Int
 x:Int
 y:Int
 m:Int
 roots:List Int
 forms:List Fm
def fmL (D n:Int):List Fm:=(rbL D n).map fun b=>(frq D n b).rd
def fnd (D:Int) (n:Nat) (f:Fm):Ans :=
 match dK (prL D n f) with
 | some p=>⟨1,p.1,p.2,0,[],[]⟩
 | none=>match blk D n with
  | some q=>⟨2,0,0,q,[],[]⟩
  | none=>match agL D n f with
   | c :: _=>⟨2,0,0,c,[],[]⟩
   | []=>⟨3,0,0,0,rbL D n,fmL D n⟩
section
variable {D:Int} {n:Nat} {f g:Fm}
theorem EH {l:List Int} (F:Int→Int):∀ p∈l.zip (l.map F),p.2=F p.1:=by
 induction l with
 | nil=>intro p hp;simp at hp
 | cons a l ih =>
  intro p hp
  rw [List.map_cons,List.zip_cons_cons] at hp
  rcases List.mem_cons.1 hp with rfl | hp
  ·rfl
  exact ih p hp
theorem vI {F:Int→Int}:∀ {l v:List Int},l.length=v.length→(∀ p∈l.zip v,p.2=F p.1)→v=l.map F
 | [],[],_,_=>rfl
 | [],_ :: _,h,_=>by simp at h
 | _ :: _,[],h,_=>by simp at h
 | a :: l,b :: v,h,k=>by
  rw [List.map_cons,← vI (l:=l) (v:=v) (by simpa using h) fun p hp=>k p (by simp [hp])]
  have:b=F a:=k (a,b) (by simp)
  rw [this]
theorem HK (hf:Cl D f) (hd:-4194304≤D) (hE:szE D=0) (hg:Int.gcd (2*D) n=1):agL D n f=[]↔gvL f=(chs D).map fun c=>cv c n:=by
 unfold agL
 rw [if_pos hg,List.map_eq_nil_iff,List.filter_eq_nil_iff]
 constructor
 ·intro h
  exact vI (uy hf hd hE).symm fun p hp=>by
   have:=h p hp
   simp only [ne_eq,decide_not,Bool.not_eq_true',decide_eq_false_iff_not,Decidable.not_not] at this
   exact this.symm
 intro h p hp
 rw [h] at hp
 have:=EH (fun c=>cv c n) p hp
 simp [this]
theorem JD (hn:0 < n) (hf:Cl D f):prL D n f≠[]↔∃ x y,Int.gcd x y=1∧vl f.a f.b f.c x y=n:=by
 constructor
 ·intro h
  obtain ⟨p,hp⟩:=List.exists_mem_of_ne_nil _ h
  exact ⟨p.1,p.2,(j9 hf (by omega)).1 hp⟩
 rintro ⟨x,y,h⟩ e
 have:=(j9 hf (n:=(n:Int)) (by omega)).2 h
 rw [e] at this;cases this
theorem JE (hn:0 < n) (hf:Cl D f) (hd:-4194304≤D) (hE:szE D=0) (hg:Int.gcd (2*D) n=1) (h:prL D n f≠[]):gvL f=(chs D).map fun c=>cv c n:=by
 obtain ⟨x,y,h1,h2⟩:=(JD hn hf).1 h
 exact (ux hf hd (gH hf) hE (Ja hf ⟨x,y,h2.symm⟩) (by rw [Int.gcd_comm];exact hg)).symm
theorem oV {p:Pr2} (h:dK (prL D n f)=some p):fnd D n f=⟨1,p.1,p.2,0,[],[]⟩:=by unfold fnd;rw [h]
theorem qT {q:Nat} (h:dK (prL D n f)=none) (k:blk D n=some q):fnd D n f=⟨2,0,0,q,[],[]⟩:=by unfold fnd;rw [h,k]
theorem uH {c:Int} {l:List Int} (h:dK (prL D n f)=none) (k:blk D n=none) (j:agL D n f=c :: l):fnd D n f=⟨2,0,0,c,[],[]⟩:=by unfold fnd;rw [h,k];simp only [j]
theorem qS (h:dK (prL D n f)=none) (k:blk D n=none) (j:agL D n f=[]):fnd D n f=⟨3,0,0,0,rbL D n,fmL D n⟩:=by unfold fnd;rw [h,k];simp only [j]
theorem Kw (hn:0 < n) (hf:Cl D f):(fnd D n f).kind=1↔prL D n f≠[]:=by
 have hb:=sj hf (n:=(n:Int)) (by omega)
 cases h:dK (prL D n f) with
 | some p =>
  rw [oV h]
  exact ⟨fun _ e=>(by rw [hb.2 e] at h;cases h),fun _=>rfl⟩
 | none =>
  refine ⟨fun e=>?_,fun e=>absurd (hb.1 h) e⟩
  exfalso
  cases k:blk D n with
  | some q=>rw [qT h k] at e;exact absurd (show (2:Int)=1∨(3:Int)=1∨(1:Int)=2∨(3:Int)=2 from by first | exact .inl e | exact .inr (.inl e) | exact .inr (.inr (.inl e)) | exact .inr (.inr (.inr e))) (by decide)
  | none =>
   cases j:agL D n f with
   | cons c l=>rw [uH h k j] at e;exact absurd (show (2:Int)=1∨(3:Int)=1∨(1:Int)=2∨(3:Int)=2 from by first | exact .inl e | exact .inr (.inl e) | exact .inr (.inr (.inl e)) | exact .inr (.inr (.inr e))) (by decide)
   | nil=>rw [qS h k j] at e;exact absurd (show (2:Int)=1∨(3:Int)=1∨(1:Int)=2∨(3:Int)=2 from by first | exact .inl e | exact .inr (.inl e) | exact .inr (.inr (.inl e)) | exact .inr (.inr (.inr e))) (by decide)
end
end
section
open Go Go.RowKit
end
section
open Go Go.RowKit
theorem ri {p r:Nat} (hp:2≤p) (hr:Nat.gcd p r=1) (hr0:0 < r):∀ (f f' a q:Nat),0 < a→a≤f'→a*r≤f→(fu p f (a*r) q).2=(fu p f' a q).2
 | 0,f',a,q,h0,_,h=>by have:=Nat.mul_pos h0 hr0;omega
 | f+1,0,a,q,h0,h1,_=>by omega
 | f+1,f'+1,a,q,h0,h1,h2=>by
  unfold fu
  by_cases h:a % p=0
  ·have hd:p ∣ a:=Nat.dvd_of_mod_eq_zero h
   have hd2:p ∣ a*r:=Nat.dvd_trans hd ⟨r,rfl⟩
   rw [if_pos h,if_pos (Nat.mod_eq_zero_of_dvd hd2)]
   have e:a*r / p=a / p*r:=by
    rw [Nat.mul_comm,Nat.mul_div_assoc _ hd,Nat.mul_comm]
   have hlt:a / p < a:=Nat.div_lt_self h0 (by omega)
   have hpos:0 < a / p:=Nat.div_pos (Nat.le_of_dvd h0 hd) (by omega)
   rw [e]
   refine ri hp hr hr0 f f' (a / p) (q*p) hpos (by omega) ?_
   have:a / p*r < a*r:=Nat.mul_lt_mul_of_pos_right hlt hr0
   omega
  have h3:¬ a*r % p=0:=fun x=>h (by
   have hd:p ∣ r*a:=by rw [Nat.mul_comm];exact Nat.dvd_of_mod_eq_zero x
   exact Nat.mod_eq_zero_of_dvd (Nat.Coprime.dvd_of_dvd_mul_left hr hd))
  rw [if_neg h,if_neg h3]
theorem Ju {p a r:Nat} (hp:2≤p) (h0:0 < a) (hr0:0 < r) (hr:Nat.gcd p r=1):(ptN p (a*r)).2=(ptN p a).2 :=
 ri hp hr hr0 (a*r) a a 1 h0 (Nat.le_refl _) (Nat.le_refl _)
theorem Gk {p n:Nat} (h:n % p≠0) (hn:0 < n):ptN p n=(n,1):=by
 unfold ptN
 cases n with
 | zero=>omega
 | succ n=>unfold fu;rw [if_neg h]
structure BkI (D:Int) (n0 left p:Nat):Prop where
 two:2≤p
 pos:0 < left
 nd:Nd left p
 ex:∃ r,n0=left*r∧0 < r∧Nat.gcd left r=1
 fd:∃ f,left+2≤f+p∧blk D n0=(ppL f left p).find? fun (q:Nat)=>(rbL D (q:Int)).isEmpty
section
end
end
section
open Go Go.RowKit
def Prm (p:Nat):Prop:=2≤p∧∀ k,2≤k→k*k≤p→¬ k ∣ p
theorem Gl {p d:Nat} (h:Prm p) (hd:d ∣ p):d=1∨d=p:=by
 obtain ⟨h2,hk⟩:=h
 obtain ⟨e,he⟩:=hd
 have hd0:d≠0:=fun x=>by rw [x,Nat.zero_mul] at he;omega
 have he0:e≠0:=fun x=>by rw [x,Nat.mul_zero] at he;omega
 rcases Nat.lt_or_ge d 2 with x | x
 ·exact .inl (by omega)
 rcases Nat.lt_or_ge e 2 with y | y
 ·have:e=1:=by omega
  exact .inr (by rw [he,this,Nat.mul_one])
 exfalso
 rcases Nat.le_total d e with z | z
 ·exact hk d x (by rw [he];exact Nat.mul_le_mul_left d z) ⟨e,he⟩
 exact hk e y (by rw [he];exact Nat.mul_le_mul_right e z) ⟨d,by rw [Nat.mul_comm];exact he⟩
theorem JP {p left:Nat} (hp:2≤p) (h:Nd left p) (hd:p ∣ left):Prm p:=by
 refine ⟨hp,fun k hk hkk hkd=>?_⟩
 have hlt:k < p:=by
  rcases Nat.lt_or_ge k p with x | x
  ·exact x
  have:p*2≤k*k:=Nat.mul_le_mul x hk
  omega
 exact h k hk hlt (Nat.dvd_trans hkd hd)
theorem Gm {p p':Nat} (h:Prm p') (hp:2≤p) (hlt:p < p'):Nat.gcd p' p=1:=by
 have h1:Nat.gcd p' p ∣ p':=Nat.gcd_dvd_left ..
 have h2:Nat.gcd p' p ∣ p:=Nat.gcd_dvd_right ..
 rcases Gl h h1 with e | e
 ·exact e
 rw [e] at h2
 have:=Nat.le_of_dvd (by omega) h2
 omega
theorem qy {n0:Nat}:∀ (f left p:Nat),2≤p→0 < left→Nd left p→(∃ r,n0=left*r∧0 < r∧Nat.gcd left r=1)→left+2≤f+p →
  ∀ q,q∈ppL f left p↔∃ p',p≤p'∧Prm p'∧p' ∣ left∧q=(ptN p' n0).2
 | 0,left,p,hp,hl,hd,hr,hf,q=>by
  have h1:left=1:=by
   rcases Nat.lt_or_ge left 2 with x | x
   ·omega
   exact absurd (Nat.dvd_refl left) (hd left x (by omega))
  subst h1
  refine ⟨fun h=>(by cases h),?_⟩
  rintro ⟨p',h1,h2,h3,_⟩
  have:=Nat.le_of_dvd (by decide) h3
  omega
 | f+1,left,p,hp,hl,hd,hr,hf,q=>by
  unfold ppL
  by_cases h:left≤1
  ·rw [if_pos h]
   refine ⟨fun h=>(by cases h),?_⟩
   rintro ⟨p',h1,h2,h3,_⟩
   have:=Nat.le_of_dvd hl h3
   omega
  rw [if_neg h]
  by_cases hm:left % p=0
  ·have hB:BkI 0 left left 2∨True:=.inr trivial
   obtain ⟨h1,h2,h3,k,h5⟩:=pN hp hl
   obtain ⟨g1,g2⟩:=sF hp hl hd
   have hdv:p ∣ left:=Nat.dvd_of_mod_eq_zero hm
   have hq1:1 < (ptN p left).2:=by
    rcases Nat.lt_or_ge 1 (ptN p left).2 with x | x
    ·exact x
    exfalso
    have:0 < (ptN p left).2:=by rw [h5];exact Nat.pow_pos (by omega)
    have e:(ptN p left).2=1:=by omega
    rw [e,Nat.mul_one] at h2
    rw [h2] at h3
    exact h3 hm
   have hle:(ptN p left).1≤left:=Nat.le_of_dvd hl ⟨_,h2.symm⟩
   obtain ⟨r,r1,r2,r3⟩:=hr
   have hpart:(ptN p n0).2=(ptN p left).2:=by
    rw [r1]
    refine Ju hp hl r2 ?_
    have hx:Nat.gcd p r ∣ Nat.gcd left r:=Nat.dvd_gcd (Nat.dvd_trans (Nat.gcd_dvd_left ..) hdv) (Nat.gcd_dvd_right ..)
    rw [r3] at hx
    exact Nat.dvd_one.1 hx
   have ih:=qy (n0:=n0) f (ptN p left).1 (p+1) (by omega) h1 g2 ⟨(ptN p left).2*r,by rw [← Nat.mul_assoc,h2];exact r1,Nat.mul_pos (by omega) r2,by
    refine Nat.Coprime.mul_right g1 ?_
    have hx:Nat.gcd (ptN p left).1 r ∣ Nat.gcd left r:=Nat.dvd_gcd (Nat.dvd_trans (Nat.gcd_dvd_left ..) ⟨_,h2.symm⟩) (Nat.gcd_dvd_right ..)
    rw [r3] at hx
    exact Nat.dvd_one.1 hx⟩ (by omega) q
   rw [if_pos hq1,List.singleton_append,List.mem_cons,ih]
   constructor
   ·rintro (rfl | ⟨p',a1,a2,a3,a4⟩)
    ·exact ⟨p,Nat.le_refl _,JP hp hd hdv,hdv,hpart.symm⟩
    exact ⟨p',by omega,a2,Nat.dvd_trans a3 ⟨_,h2.symm⟩,a4⟩
   rintro ⟨p',a1,a2,a3,a4⟩
   rcases Nat.lt_or_ge p p' with x | x
   ·refine .inr ⟨p',x,a2,?_,a4⟩
    have hc:=qY (Gm a2 hp x) k
    rw [← h5] at hc
    rw [← h2] at a3
    exact Nat.Coprime.dvd_of_dvd_mul_right hc a3
   have:p'=p:=by omega
   subst this
   exact .inl (by rw [a4,hpart])
  have e:=Gk hm hl
  rw [e]
  have ih:=qy (n0:=n0) f left (p+1) (by omega) hl (fun e e1 e2 e3=>by
   rcases Nat.lt_or_ge e p with x | x
   ·exact hd e e1 x e3
   have:e=p:=by omega
   subst this
   exact hm (Nat.mod_eq_zero_of_dvd e3)) hr (by omega) q
  simp only [Nat.lt_irrefl,if_false,List.nil_append]
  rw [ih]
  constructor
  ·rintro ⟨p',a1,a⟩;exact ⟨p',by omega,a⟩
  rintro ⟨p',a1,a2,a3,a4⟩
  rcases Nat.lt_or_ge p p' with x | x
  ·exact ⟨p',x,a2,a3,a4⟩
  have:p'=p:=by omega
  subst this
  exact absurd (Nat.mod_eq_zero_of_dvd a3) hm
theorem kJ {n q:Nat} (hn:0 < n):q∈parts n↔∃ p,Prm p∧p ∣ n∧q=(ptN p n).2:=by
 unfold parts
 rw [qy (n0:=n) n n 2 (by decide) hn (fun e e1 e2=>by omega) ⟨1,by omega,by decide,by simp⟩ (by omega)]
 constructor
 ·rintro ⟨p,_,a⟩;exact ⟨p,a⟩
 rintro ⟨p,a⟩;exact ⟨p,a.1.1,a⟩
def eQ (D:Int) (n:Nat) (f:Fm) (m:Int):Bool:=decide (m∈agL D n f) || (decide (m∈(parts n).map fun (q:Nat)=>(q:Int)) && decide (rbL D m=[]))
def eP (D:Int) (n:Nat) (f:Fm) (roots:List Int) (forms:List Fm):Bool:=decide (rbL D n≠[]) && decide (roots=rbL D n) && decide (forms=fmL D n) && !decide (f.rd∈fmL D n)
def rgt (D:Int) (n:Nat) (f:Fm) (a:Ans):Bool :=
 if a.kind=1 then decide (a.m=0) && decide (a.roots=[]∧a.forms=[]) && iJ f n (a.x,a.y)
 else if a.kind=2 then decide (a.x=0∧a.y=0) && decide (a.roots=[]∧a.forms=[]) && eQ D n f a.m
 else if a.kind=3 then decide (a.x=0∧a.y=0) && decide (a.m=0) && eP D n f a.roots a.forms
 else false
theorem wW {D:Int} {n:Nat} {f:Fm} (hf:Cl D f) (hn:0 < n):f.rd∈fmL D n↔prL D n f≠[]:=by
 have hc:∀ b∈rbL D (n:Int),Cl D (frq D n b):=fun b hb=>mZ (by omega) (gH hf) (rbL_mem.1 hb).2
 unfold fmL
 rw [List.mem_map]
 constructor
 ·rintro ⟨b,hb,e⟩ h
  have hl:=wq (D:=D) (n:=n) (f:=f)
  rw [h,List.length_nil] at hl
  have hm:b∈(rbL D n).filter fun b=>smf f (frq D n b):=List.mem_filter.2 ⟨hb,(qj hf.pos (hc b hb).pos).2 e.symm⟩
  have h1:0 < ((rbL D n).filter fun b=>smf f (frq D n b)).length:=List.length_pos_of_mem hm
  have h2:0 < unN D:=by unfold unN;split <;> (try split) <;> decide
  have:=Nat.mul_pos h2 h1
  omega
 intro h
 obtain ⟨p,hp⟩:=List.exists_mem_of_ne_nil _ h
 unfold prL at hp
 obtain ⟨b,hb,hx⟩:=List.mem_flatMap.1 hp
 split at hx
 ·rename_i hs
  exact ⟨b,hb,((qj hf.pos (hc b hb).pos).1 hs).symm⟩
 cases hx
theorem Hh {D:Int} {n:Nat} {f:Fm} (hf:Cl D f) (hn:0 < n):rgt D n f (fnd D n f)=true:=by
 cases h:dK (prL D n f) with
 | some p =>
  rw [oV h]
  have hp:=((o6 (prL D n f)).so p h).1
  have:=(j9 hf (n:=(n:Int)) (by omega)).1 hp
  unfold rgt iJ
  simp [this]
 | none =>
  have h0:=(sj hf (n:=(n:Int)) (by omega)).1 h
  cases k:blk D n with
  | some q =>
   rw [qT h k]
   unfold blk at k
   have k1:=List.mem_of_find?_eq_some k
   have k2:=List.find?_some k
   have k3:rbL D (q:Int)=[]:=List.isEmpty_iff.1 k2
   unfold rgt eQ
   simp only [k3]
   simp
   exact .inr ⟨q,k1,rfl⟩
  | none =>
   cases j:agL D n f with
   | cons c l =>
    rw [uH h k j]
    unfold rgt eQ
    simp [j]
   | nil =>
    rw [qS h k j]
    have h1:=(C3 (lD hf) hn).1 k
    have h2:¬ f.rd∈fmL D n:=fun x=>(wW hf hn).1 x h0
    unfold rgt eP
    simp [h1,h2]
theorem FQ {D:Int} {n:Nat} {f:Fm} (hf:Cl D f) (hn:0 < n) (hd:-4194304≤D) (hE:szE D=0) (h:(fnd D n f).kind=1) {a:Ans} (hk:a.kind≠1):rgt D n f a=false:=by
 have hp:=(Kw hn hf).1 h
 have hr:=JC hp
 unfold rgt
 rw [if_neg hk]
 by_cases h2:a.kind=2
 ·rw [if_pos h2]
  have:eQ D n f a.m=false:=by
   have h1:agL D n f=[]:=by
    by_cases e:Int.gcd (2*D) n=1
    ·exact (HK hf hd hE e).2 (JE hn hf hd hE e hp)
    unfold agL;rw [if_neg e]
   unfold eQ
   rw [h1]
   by_cases h3:a.m∈(parts n).map fun (q:Nat)=>(q:Int)
   ·obtain ⟨q,hq,e⟩:=List.mem_map.1 h3
    have:=(pO (lD hf) hn).1 hr q hq
    rw [← e]
    simp [this]
   simp [h3]
  rw [this,Bool.and_false]
 rw [if_neg h2]
 by_cases h3:a.kind=3
 ·rw [if_pos h3]
  have:eP D n f a.roots a.forms=false:=by
   unfold eP
   have:=(wW hf hn).2 hp
   simp [this]
  rw [this,Bool.and_false]
 rw [if_neg h3]
end
section
open Go Go.RowKit
theorem Mm {f:Fm} (h:ck f.a f.b f.c=0) (h1:¬ szE (dsc f.a f.b f.c)=0):AV.t [PE 0,PE (szE (dsc f.a f.b f.c))]=.t [PE (gpV f),PE (gpE f)]:=by
 have h2:=Kh h h1
 have e:gnV (dsc f.a f.b f.c)=0:=by unfold gnV;rw [if_neg h1]
 rw [e] at h2;exact h2
theorem Mn {f:Fm} (h:ck f.a f.b f.c=0) (h1:szE (dsc f.a f.b f.c)=0) (h2:prim f.a f.b f.c=true):AV.t [PE (gnV (dsc f.a f.b f.c)),PE 0]=.t [PE (gpV f),PE (gpE f)]:=by
 have h3:=Ki h h1 h2
 rw [h1] at h3;exact h3
def sA1 (m:Int):List Int:=if m % 4=1∨m % 8=4∨m % 8=0 then [-4] else []
def sA2 (m:Int):List Int:=if m % 8=6∨m % 8=0 then [8] else []
def sA3 (m:Int):List Int:=if m % 8=2 then [-8] else []
theorem Ln {d:Int} (h:d.tmod 4=0):sA1 (-d / 4) ++ sA2 (-d / 4) ++ sA3 (-d / 4)=spC d:=by
 unfold sA1 sA2 sA3 spC
 rw [if_neg (nD h)]
 generalize -d / 4=m
 have h1:=Int.emod_nonneg m (show (8:Int)≠0 by omega)
 have h2:=Int.emod_lt_of_pos m (show (0:Int) < 8 by omega)
 have h4:m % 4=m % 8 % 4:=by omega
 rw [h4]
 generalize m % 8=r at *
 rcases (show r=0∨r=1∨r=2∨r=3∨r=4∨r=5∨r=6∨r=7 by omega) with rfl | rfl | rfl | rfl | rfl | rfl | rfl | rfl <;> rfl
theorem IY {d:Int} (h:d.tmod 4=0):fY (rmp (-d) 2) ++ sA1 (-d / 4) ++ sA2 (-d / 4) ++ sA3 (-d / 4)=chs d:=by
 unfold chs
 rw [← Ln h,List.append_assoc,List.append_assoc,List.append_assoc]
theorem lG {l m:List Int} {c:Int} (h:m=[c]):l ++ [c]=l ++ m:=by rw [h]
theorem vf {l m:List Int} (h:m=[]):l=l ++ m:=by rw [h,List.append_nil]
def oP (n p:Int) (out:List Int):List Int:=if n % p=0 then out ++ [p] else out
theorem OcI.stepR {n0 n p:Int} {out:List Int} (i:OcI n0 n p out) (h:p*p≤n):OcI n0 (rmp n p) (p+2) (oP n p out):=by
 have hp:=i.p3
 have h9:3*3≤p*p:=Int.mul_le_mul hp hp (by omega) (by omega)
 unfold oP
 by_cases hd:n % p=0
 ·rw [if_pos hd];exact i.take (by omega) (by omega) hd
 rw [if_neg hd,iF hd];exact i.next (by omega) (by omega) hd
theorem OcI.endR {n0 n p:Int} {out:List Int} (i:OcI n0 n p out) (h:¬ p*p≤n):(if n > 1 then out ++ [n] else out)=fY n0:=by
 split
 ·next hn=>exact (i.last hn (by omega)).fin (by omega)
 next hn=>exact i.fin hn
section
variable {P:Program} {B:Bool} {N np:Nat} {Q:Exit→St→Prop} {s:St}
theorem gj (m d:Nat) {ι:Type} {x y:Code} (I:ι→St) (F:ι→Prop) (hmd:Nat.beq m d=false) (hnp:Nat.ble np d=true)
  (h:AWp P B N np x (j7 (fun s'=>∃ i,F i∧(Le s' (I i)∨∃ b,s'.own m=some b∧lnk b=[]∧Le (rnS m d b s') (I i))) Q) s) (k:∀ i,F i→AWp P B N np y Q (I i)):AWp P B N np (.seq x y) Q s:=by
 refine ao (AWp.mono h ?_)
 intro e s' hq
 cases e with
 | normal =>
  obtain ⟨i,hF,hle | ⟨b,h1,h2,hle⟩⟩:=hq
  ·exact dq hle (k i hF)
  exact cr m d h1 hmd hnp (dq hle (k i hF)) h2
 | _=>exact hq
end
def NoS (g:Fm) (d:Int) (s:Int):Prop:=∀ u v:Int,0≤u→0≤v→1≤u+v→u+v < s→Int.gcd (vl g.a g.b g.c u v) (2*d)≠1
def NoT (g:Fm) (d:Int) (s x:Int):Prop:=∀ u:Int,0≤u→u < x→Int.gcd (vl g.a g.b g.c u (s - u)) (2*d)≠1
theorem NoS.start {g:Fm} {d:Int}:NoS g d 1:=fun u v _ _ h3 h4=>by omega
theorem NoT.start {g:Fm} {d s:Int}:NoT g d s 0:=fun u h1 h2=>by omega
theorem NoT.next {g:Fm} {d s x:Int} (h:NoT g d s x) (h1:Int.gcd (vl g.a g.b g.c x (s - x)) (2*d)≠1):NoT g d s (x+1):=fun u g1 g2=>by
 rcases (show u < x∨u=x by omega) with q | q
 ·exact h u g1 q
 subst q;exact h1
theorem NoS.next {g:Fm} {d s x:Int} (h:NoS g d s) (h1:NoT g d s x) (hx:¬ x≤s):NoS g d (s+1):=fun u v g1 g2 g3 g4=>by
 rcases (show u+v < s∨u+v=s by omega) with q | q
 ·exact h u v g1 g2 g3 q
 have:=h1 u g1 (by omega)
 rwa [show s - u=v by omega] at this
theorem NoS.le {g:Fm} {d s:Int} (h:NoS g d s) (h0:d < 0) (hx:∃ x y:Int,0≤x∧x≤1400000∧0≤y∧y≤1400000∧Int.gcd (vl g.a g.b g.c x y) (2*d)=1):s≤2800000:=by
 obtain ⟨x,y,h1,h2,h3,h4,h5⟩:=hx
 rcases Int.lt_or_le 2800000 s with q | q
 ·exfalso
  rcases (show (x=0∧y=0)∨1≤x+y by omega) with ⟨rfl,rfl⟩ | z
  ·have e:vl g.a g.b g.c 0 0=0:=by unfold vl;simp
   rw [e,Int.gcd_zero_left] at h5
   omega
  exact h x y h1 h3 z (by omega) h5
 exact q
theorem Mo {x y:Int} (h:decide (((Int.gcd x y:Nat):Int)=1)=true):Int.gcd x y=1:=by
 have:=dT0 h
 omega
theorem Mp {x y:Int} (h:decide (((Int.gcd x y:Nat):Int)=1)=false):Int.gcd x y≠1:=by
 have:=dF0 h
 omega
end
section
open Go Go.RowKit
section
end
section
end
end
section
open Go Go.RowKit
abbrev enI (z:Int):List DV:=[zn z,zm z]
theorem dj (z:Int):(enI z).length=2:=rfl
end
section
open Go Go.RowKit
section
variable {P:Program} {n0:Nat} {J:Nat→Hp→(Nat→Prop)→World→Prop} {N np:Nat} {Q:Exit→Nat→St→Prop} {ops:Array Oper} {os:List Oper} {i k:Nat} {s:St}
theorem RY.split {t:Nat} {b:Bool} (_h:s.regs t=.p (.c (.v (.bool b)))) (h1:b=true→RY P n0 J N np Q ops os i k s) (h2:b=false→RY P n0 J N np Q ops os i k s):RY P n0 J N np Q ops os i k s:=by
 cases b
 ·exact h2 rfl
 exact h1 rfl
theorem x7 {n k:Nat} {b:Bool} (h:b=true):nx n k b=k+1:=by rw [h];rfl
theorem x8 {n k:Nat} {b:Bool} (h:b=false):n≤nx n k b:=by rw [h];show n≤n+1+k;omega
end
theorem Hy (a b:Int):(bA a b == 0)=decide (a=b):=by
 by_cases h:a=b
 ·rw [decide_eq_true h,cmpI_eq_zero.2 h];rfl
 rw [decide_eq_false h]
 exact beq_eq_false_iff_ne.2 fun x=>h (cmpI_eq_zero.1 x)
theorem vV (a:Int):(sgn a == 0)=decide (a=0):=by
 unfold sgn
 by_cases h:a=0
 ·subst h;rfl
 rw [decide_eq_false h,if_neg h]
 split <;> rfl
def cmP (p q:Pr2):Int:=if bA p.1 q.1≠0 then bA p.1 q.1 else bA p.2 q.2
def rgE (n:Int):Int:=if n < 1 then 1 else if 65536 < n then 2 else 0
theorem Lw {n:Int} (h:n < 1):rgE n=1:=by unfold rgE;rw [if_pos h]
theorem Lv {n:Int} (h:65536 < n):rgE n=2:=by unfold rgE;rw [if_neg (by omega),if_pos h]
theorem xA {n:Int} (h1:¬ n < 1) (h2:¬ 65536 < n):rgE n=0:=by unfold rgE;rw [if_neg h1,if_neg h2]
theorem pC {D:Int} {m:Nat}:∀ x∈(rbL D m).map (fun b=>([PI b,PF (frq D m b)]:List PV)),x.length=2:=by
 intro x hx
 obtain ⟨b,_,rfl⟩:=List.mem_map.1 hx
 rfl
theorem LN {D:Int} {m k:Nat} {x:List PV} (h:((rbL D m).map (fun b=>([PI b,PF (frq D m b)]:List PV)))[k]?=some x):decide (rbL D m=[])=false :=
 decide_eq_false fun e=>by rw [e] at h;cases h
theorem pD {D:Int} {m k:Nat} {x:List PV} (h:((rbL D m).map (fun b=>([PI b,PF (frq D m b)]:List PV)))[k]?=some x):∃ b,(rbL D m)[k]?=some b∧x=[PI b,PF (frq D m b)]:=by
 rw [List.getElem?_map] at h
 cases e:(rbL D (m:Int))[k]? with
 | none=>rw [e] at h;cases h
 | some b=>rw [e] at h;exact ⟨b,rfl,(Option.some.inj h).symm⟩
theorem ll (D:Int) (m:Nat) (hm:m≤65536):(rbL D m).length≤131072:=by
 have:(rbL D m).length≤(2*(m:Int)).toNat:=by
  unfold rbL
  exact Nat.le_trans (List.length_filter_le _ _) (by rw [List.length_map,List.length_range];exact Nat.le_refl _)
 omega
theorem D4 {D:Int} {m k:Nat} {b:Int} (h:(rbL D m)[k]?=some b):(rbL D m).take (k+1)=(rbL D m).take k ++ [b]:=by
 obtain ⟨hk,e⟩:=List.getElem?_eq_some_iff.1 h
 rw [List.take_succ_eq_append_getElem hk,e]
theorem Jc {D:Int} {m:Nat}:(rbL D m).take ((rbL D m).map (fun b=>([PI b,PF (frq D m b)]:List PV))).length=rbL D m:=by
 rw [List.length_map,List.take_length]
theorem uI (D:Int) (m:Nat) (hm:m≤65536):(fmL D m).length≤131072:=by
 unfold fmL;rw [List.length_map];exact ll D m hm
theorem Er {D:Int} {m k:Nat} {b:Int} (h:(rbL D m)[k]?=some b):(fmL D m).take (k+1)=(fmL D m).take k ++ [(frq D m b).rd]:=by
 unfold fmL
 rw [← List.map_take,← List.map_take,D4 h,List.map_append];rfl
theorem Kx {D:Int} {m:Nat}:(fmL D m).take ((rbL D m).map (fun b=>([PI b,PF (frq D m b)]:List PV))).length=fmL D m:=by
 rw [List.length_map];unfold fmL;rw [← List.map_take,List.take_length]
theorem Jb {D:Int} {m:Nat} (h:((rbL D m).map (fun b=>([PI b,PF (frq D m b)]:List PV))).length=0):decide (rbL D m=[])=true :=
 decide_eq_true (by simpa using h)
def rbT (D n:Int) (i:Nat):List Int:=((List.range i).map fun (j:Nat)=>(j:Int)).filter (isR D n)
theorem nJ {D n:Int} {i:Nat}:rbT D n (i+1)=rbT D n i ++ if isR D n i=true then [(i:Int)] else []:=by
 unfold rbT
 rw [List.range_succ,List.map_append,List.filter_append]
 congr 1
 simp only [List.map_cons,List.map_nil,List.filter_cons,List.filter_nil]
theorem zj {D n:Int} {i:Nat} (h:isR D n i=false):(rbT D n (i+1)).length=(rbT D n i).length:=by
 rw [nJ,h];simp
theorem FT {D n:Int} {i:Nat} (h:isR D n i=true):(rbT D n (i+1)).length=(rbT D n i).length+1:=by
 rw [nJ,h];simp
theorem qp {D n:Int}:rbT D n (2*n).toNat=rbL D n:=rfl
theorem FU {D n:Int} {i j:Nat} (h:i≤j):∃ l,rbT D n j=rbT D n i ++ l:=by
 obtain ⟨d,rfl⟩:∃ d,j=i+d:=⟨j - i,by omega⟩
 clear h
 induction d with
 | zero=>exact ⟨[],by simp⟩
 | succ d ih =>
  obtain ⟨l,hl⟩:=ih
  refine ⟨l ++ (if isR D n ((i+d:Nat):Int)=true then [((i+d:Nat):Int)] else []),?_⟩
  rw [← Nat.add_assoc,nJ,hl,List.append_assoc]
theorem FW {D n:Int} {i:Nat} (h:isR D n i=true) (hi:(i:Int) < 2*n):(rbL D n)[(rbT D n i).length]?=some (i:Int):=by
 obtain ⟨l,hl⟩:=FU (D:=D) (n:=n) (i:=i+1) (j:=(2*n).toNat) (by omega)
 rw [← qp,hl,nJ,if_pos h,List.append_assoc,List.getElem?_append_right (Nat.le_refl _),Nat.sub_self]
 rfl
theorem wP {D n:Int} {b:Int} (h:¬ b*b % (4*n)=D % (4*n)):isR D n b=false:=by
 unfold isR;rw [decide_eq_false h];rfl
theorem wO {D n:Int} {b:Int} (h:prim n b ((b*b - D) / (4*n))=false):isR D n b=false:=by
 unfold isR;rw [h,Bool.and_false]
theorem wM {D n:Int} {b:Int} (h1:b*b % (4*n)=D % (4*n)) (h:prim n b ((b*b - D) / (4*n))=true):isR D n b=true:=by
 unfold isR;rw [h,decide_eq_true h1];rfl
end
section
open Go Go.RowKit
section
variable {α β:Type}
theorem eE {l:List α} {k:Nat} {x:α} (h:l[k]?=some x):l.take (k+1)=l.take k ++ [x]:=by
 rw [List.take_add_one,h];rfl
theorem qN {l:List α} {k:Nat} {x:α} (h:l[k]?=some x):∃ r,l=l.take k ++ x :: r:=by
 obtain ⟨hk,e⟩:=List.getElem?_eq_some_iff.1 h
 refine ⟨l.drop (k+1),?_⟩
 rw [← e,List.getElem_cons_drop,List.take_append_drop]
def fA (p:α→Bool) (l:List α) (k:Nat):Nat:=((l.take k).filter p).length
theorem Cz {p:α→Bool} {l:List α} {k:Nat} {x:α} (h:l[k]?=some x) (hp:p x=true):fA p l (k+1)=fA p l k+1:=by
 unfold fA
 rw [eE h,List.filter_append,List.length_append,List.filter_cons,if_pos hp]
 rfl
theorem Hl {p:α→Bool} {l:List α} {k:Nat} {x:α} (h:l[k]?=some x) (hp:p x=false):fA p l (k+1)=fA p l k:=by
 unfold fA
 rw [eE h,List.filter_append,List.length_append,List.filter_cons,if_neg (by rw [hp];decide)]
 rfl
theorem CA {p:α→Bool} {l:List α} {k:Nat} {x:α} (h:l[k]?=some x) (hp:p x=true):(l.filter p)[fA p l k]?=some x:=by
 obtain ⟨r,e⟩:=qN h
 have:l.filter p=(l.take k).filter p ++ x :: r.filter p:=by
  conv=>lhs;rw [e]
  rw [List.filter_append,List.filter_cons,if_pos hp]
 rw [this]
 unfold fA
 rw [List.getElem?_append_right (Nat.le_refl _),Nat.sub_self]
 rfl
theorem CC {p:α→Bool} {l:List α} {k:Nat} (h:l.length≤k):fA p l k=(l.filter p).length:=by
 unfold fA;rw [List.take_of_length_le h]
def fmN (G:α→List β) (l:List α) (k:Nat):Nat:=((l.take k).flatMap G).length
theorem fmN_0 {G:α→List β} {l:List α}:fmN G l 0=0:=by unfold fmN;simp
theorem Es {G:α→List β} {l:List α} {k:Nat} {x:α} (h:l[k]?=some x):fmN G l (k+1)=fmN G l k+(G x).length:=by
 unfold fmN
 rw [eE h,List.flatMap_append,List.length_append]
 simp
theorem Hi {G:α→List β} {l:List α} {k j:Nat} {x:α} {y:β} (h:l[k]?=some x) (hy:(G x)[j]?=some y):(l.flatMap G)[fmN G l k+j]?=some y:=by
 obtain ⟨r,e⟩:=qN h
 have:l.flatMap G=(l.take k).flatMap G ++ (G x ++ r.flatMap G):=by
  conv=>lhs;rw [e]
  rw [List.flatMap_append,List.flatMap_cons]
 rw [this]
 unfold fmN
 rw [List.getElem?_append_right (Nat.le_add_right _ _),Nat.add_sub_cancel_left,List.getElem?_append_left (List.getElem?_eq_some_iff.1 hy).1,hy]
theorem Hj {G:α→List β} {l:List α}:fmN G l l.length=(l.flatMap G).length:=by
 unfold fmN;rw [List.take_length]
end
def atV (m n:Int):Int:=if m=-4 then 2 - n % 4 else if m=8 then kr 2 n else if m=-8 then kr (-2) n else kr n m
theorem MK {m n:Int} (h:m=-4):2 - n % 4=atV m n:=by unfold atV;rw [if_pos h]
theorem MJ {m n:Int} (h:m=8):kr 2 n=atV m n:=by unfold atV;rw [if_neg (by omega),if_pos h]
theorem MI {m n:Int} (h:m=-8):kr (-2) n=atV m n:=by unfold atV;rw [if_neg (by omega),if_neg (by omega),if_pos h]
theorem MH {m n:Int} (h1:¬ m=-4) (h2:¬ m=8) (h3:¬ m=-8):kr n m=atV m n:=by unfold atV;rw [if_neg h1,if_neg h2,if_neg h3]
theorem KQ {m n:Int} (hn:0 < n) (ho:n % 2=1):atV m n=cv m n:=by
 have h2:kr 2 n=sg8 n:=by
  have hcp:=lA (n:=n) ho
  rw [jD hn ho,if_pos hcp,vi hn ho]
 have hs:sg8 n*sg8 n=1:=nE ho
 have hm1:kr (-1) n=if n % 4=1 then 1 else -1:=by
  have:=mf hn ho (c:=-4) (.inl rfl)
  have h4:kr (-4) n=kr (-1) n*(kr 2 n*kr 2 n):=by rw [← di hn ho,← di hn ho];rfl
  rw [h2,hs,Int.mul_one] at h4
  rw [← h4,this,jL (.inl rfl)]
  have:n % 8=1∨n % 8=3∨n % 8=5∨n % 8=7:=by omega
  rcases this with e | e | e | e
  ·rw [e,if_pos (by omega)];decide
  ·rw [e,if_neg (by omega)];decide
  ·rw [e,if_pos (by omega)];decide
  rw [e,if_neg (by omega)];decide
 unfold atV
 split
 ·next h =>
  subst h
  have h4:kr (-4) n=kr (-1) n*(kr 2 n*kr 2 n):=by rw [← di hn ho,← di hn ho];rfl
  rw [h2,hs,Int.mul_one,mf hn ho (.inl rfl),hm1] at h4
  rw [h4];split <;> omega
 split
 ·next h =>
  subst h
  have h8:kr 8 n=kr 2 n*(kr 2 n*kr 2 n):=by rw [← di hn ho,← di hn ho];rfl
  rw [mf hn ho (.inr (.inl rfl)),h2,hs,Int.mul_one] at h8
  rw [h8,h2]
 split
 ·next h =>
  subst h
  have h8:kr (-8) n=kr (-1) n*(kr 2 n*(kr 2 n*kr 2 n)):=by rw [← di hn ho,← di hn ho,← di hn ho];rfl
  have hm2:kr (-2) n=kr (-1) n*kr 2 n:=by rw [← di hn ho];rfl
  rw [mf hn ho (.inr (.inr rfl)),h2,hs,Int.mul_one] at h8
  rw [h8,hm2,h2]
 next h1 h2 h3 =>
 unfold cv
 rw [if_neg (by omega)]
abbrev enP (p:Pr2):List DV:=[zn p.1,zm p.1,zn p.2,zm p.2]
theorem jt (p:Pr2):(enP p).length=4:=rfl
theorem iR {p q:Pr2}:cmP p q < 0↔p.1 < q.1∨(p.1=q.1∧p.2 < q.2):=by
 unfold cmP
 split
 ·next h =>
  rw [cmpI_lt_zero]
  have:p.1≠q.1:=fun e=>h (cmpI_eq_zero.2 e)
  constructor
  ·exact .inl
  rintro (h | h)
  ·exact h
  exact absurd h.1 this
 next h =>
 have e:p.1=q.1:=cmpI_eq_zero.1 (Decidable.not_not.1 h)
 rw [cmpI_lt_zero]
 constructor
 ·exact fun h=>.inr ⟨e,h⟩
 rintro (h | h)
 ·omega
 exact h.2
theorem Hz:Sort.SWO (Proofs.ltOf cmP) where
 irrefl x:=by unfold Proofs.ltOf;rw [decide_eq_false_iff_not,iR];omega
 trans x y z:=by unfold Proofs.ltOf;rw [decide_eq_true_iff,decide_eq_true_iff,decide_eq_true_iff,iR,iR,iR];omega
 ntrans x y z:=by unfold Proofs.ltOf;rw [decide_eq_false_iff_not,decide_eq_false_iff_not,decide_eq_false_iff_not,iR,iR,iR];omega
theorem CW {x y:Pr2} (h1:¬ cmP x y < 0) (h2:¬ cmP y x < 0):x=y:=by
 rw [iR] at h1 h2
 obtain ⟨a,b⟩:=x
 obtain ⟨c,d⟩:=y
 simp only at h1 h2
 have e1:a=c:=by omega
 have e2:b=d:=by omega
 subst e1 e2
 rfl
theorem FD {l:List Pr2} (h:o7 l):l.Pairwise fun x y=>¬ cmP y x < 0 :=
 List.Pairwise.imp (fun {x y} k=>by have:=lt2_iff.1 k;rw [iR];omega) h
theorem r8 {p:Pr2}:∀ l:List Pr2,(kW p l).Perm (p :: l)
 | []=>List.Perm.refl _
 | q :: l=>by
  unfold kW
  split
  ·exact ((r8 l).cons q).trans (List.Perm.swap p q l)
  exact List.Perm.refl _
theorem te:∀ l:List Pr2,(srP l).Perm l
 | []=>List.Perm.refl _
 | p :: l=>(r8 _).trans ((te l).cons p)
end
section
open Go Go.RowKit
def PtI (p n m q:Nat):Prop:=0 < m∧0 < q∧m*q≤n∧∃ f,m≤f∧fu p f m q=ptN p n
theorem PtI.start {p n:Nat} (hn:0 < n):PtI p n n 1:=⟨hn,by decide,by omega,n,Nat.le_refl _,rfl⟩
theorem PtI.next {p n m q:Nat} (hp:2≤p) (h:PtI p n m q) (hm:m % p=0):PtI p n (m / p) (q*p)∧m / p < m∧q*p≤n:=by
 obtain ⟨h1,h2,h3,f,h4,h5⟩:=h
 have hd:p ∣ m:=Nat.dvd_of_mod_eq_zero hm
 have hpm:p≤m:=Nat.le_of_dvd h1 hd
 have k1:0 < m / p:=Nat.div_pos hpm (by omega)
 have k2:m / p < m:=Nat.div_lt_self h1 (by omega)
 have k3:=Nat.div_mul_cancel hd
 have e:m / p*(q*p)=m*q:=by
  calc m / p*(q*p)=m / p*p*q:=by rw [Nat.mul_comm q p,Nat.mul_assoc]
   _=m*q:=by rw [k3]
 have hq:q*p≤n:=by
  have:1*(q*p)≤m / p*(q*p):=Nat.mul_le_mul_right _ k1
  omega
 refine ⟨⟨k1,Nat.mul_pos h2 (by omega),by omega,?_⟩,k2,hq⟩
 cases f with
 | zero=>omega
 | succ f =>
  refine ⟨f,by omega,?_⟩
  rw [← h5]
  conv=>rhs;unfold fu
  rw [if_pos hm]
theorem PtI.done {p n m q:Nat} (h:PtI p n m q) (hm:¬ m % p=0):m=(ptN p n).1∧q=(ptN p n).2:=by
 obtain ⟨h1,h2,h3,f,h4,h5⟩:=h
 cases f with
 | zero=>omega
 | succ f =>
  rw [← h5]
  unfold fu
  rw [if_neg hm]
  exact ⟨rfl,rfl⟩
theorem PtI.b {p n m q:Nat} (h:PtI p n m q):0 < m∧m≤n∧0 < q∧q≤n:=by
 obtain ⟨h1,h2,h3,_⟩:=h
 have a1:m*1≤m*q:=Nat.mul_le_mul_left _ h2
 have a2:1*q≤m*q:=Nat.mul_le_mul_right _ h1
 omega
structure PaI (n0 m p d:Nat):Prop where
 two:2≤p
 pos:0 < m
 le:m≤n0
 nd:Nd m p
 ex:∃ done f,parts n0=done ++ ppL f m p∧done.length=d∧m+2≤f+p
theorem PaI.start {n:Nat} (hn:0 < n):PaI n n 2 0:=⟨Nat.le_refl _,hn,Nat.le_refl _,fun e h1 h2=>by omega,[],n,rfl,rfl,Nat.le_refl _⟩
theorem PaI.ple {n0 m p d:Nat} (h:PaI n0 m p d) (hm:1 < m):p≤m:=by
 rcases Nat.lt_or_ge m p with x | x
 ·exact absurd (Nat.dvd_refl m) (h.nd m hm x)
 exact x
theorem D9 {f m p:Nat} (h:1 < m):ppL (f+1) m p=(if 1 < (ptN p m).2 then [(ptN p m).2] else []) ++ ppL f (ptN p m).1 (p+1):=by
 conv=>lhs;unfold ppL
 rw [if_neg (by omega)]
theorem L2 {f m p:Nat} (h:¬ 1 < m):ppL f m p=[]:=by
 cases f with
 | zero=>rfl
 | succ f=>unfold ppL;rw [if_pos (by omega)]
theorem PaI.pt1 {n0 m p d:Nat} (h:PaI n0 m p d):0 < (ptN p m).1∧(ptN p m).1≤m:=by
 obtain ⟨h1,h2,h3,k,h4⟩:=pN h.two h.pos
 exact ⟨h1,Nat.le_of_dvd h.pos ⟨_,h2.symm⟩⟩
theorem PaI.yes {n0 m p d:Nat} (h:PaI n0 m p d) (hm:1 < m) (hq:1 < (ptN p m).2):(parts n0)[d]?=some (ptN p m).2∧PaI n0 (ptN p m).1 (p+1) (d+1):=by
 have hp:=h.ple hm
 obtain ⟨k1,k2⟩:=h.pt1
 obtain ⟨done,f,h1,h2,h3⟩:=h.ex
 cases f with
 | zero=>omega
 | succ f =>
  rw [D9 hm,if_pos hq] at h1
  refine ⟨?_,⟨by have:=h.two;omega,k1,by have:=h.le;omega,(sF h.two h.pos h.nd).2,done ++ [(ptN p m).2],f,?_,by rw [List.length_append,h2];rfl,by omega⟩⟩
  ·rw [h1,List.getElem?_append_right (by omega),h2,Nat.sub_self];rfl
  rw [h1];simp
theorem PaI.no {n0 m p d:Nat} (h:PaI n0 m p d) (hm:1 < m) (hq:¬ 1 < (ptN p m).2):PaI n0 (ptN p m).1 (p+1) d:=by
 have hp:=h.ple hm
 obtain ⟨k1,k2⟩:=h.pt1
 obtain ⟨done,f,h1,h2,h3⟩:=h.ex
 cases f with
 | zero=>omega
 | succ f =>
  rw [D9 hm,if_neg hq] at h1
  exact ⟨by have:=h.two;omega,k1,by have:=h.le;omega,(sF h.two h.pos h.nd).2,done,f,by rw [h1];simp,h2,by omega⟩
theorem PaI.done {n0 m p d:Nat} (h:PaI n0 m p d) (hm:¬ 1 < m):(parts n0).length=d:=by
 obtain ⟨done,f,h1,h2,h3⟩:=h.ex
 rw [h1,L2 hm,List.append_nil,h2]
theorem qz {n q:Nat} (hn:0 < n) (h:q∈parts n):2≤q∧q≤n:=by
 obtain ⟨p,h1,h2,rfl⟩:=(kJ hn).1 h
 obtain ⟨k1,k2,k3,k,k4⟩:=pN h1.1 hn
 have hd:(ptN p n).2 ∣ n:=⟨_,by rw [Nat.mul_comm];exact k2.symm⟩
 refine ⟨?_,Nat.le_of_dvd hn hd⟩
 cases k with
 | zero =>
  rw [Nat.pow_zero] at k4
  rw [k4,Nat.mul_one] at k2
  rw [k2] at k3
  exact absurd (Nat.mod_eq_zero_of_dvd h2) k3
 | succ k =>
  rw [k4,Nat.pow_succ]
  have:=h1.1
  have:1*p≤p ^ k*p:=Nat.mul_le_mul_right _ (Nat.pow_pos (by omega))
  omega
end
section
open Go Go.RowKit
def bk:Option Pr2→Int
 | none=>0
 | some _=>1
def bx (b:Option Pr2):Int:=(b.getD (0,0)).1
def by_ (b:Option Pr2):Int:=(b.getD (0,0)).2
theorem NK {b:Option Pr2} (h:bk b=0):b=none:=by
 cases b
 ·rfl
 cases h
theorem C5 {b:Option Pr2} (h:¬ bk b=0):b=some (bx b,by_ b):=by
 cases b
 ·exact absurd rfl h
 rfl
theorem s9 {b:Option Pr2} {p:Pr2} (h:p.2 < 0∨(p.2=0∧p.1 < 0)):fv b p=b:=by
 unfold fv okP
 rw [if_neg (by simp only [decide_eq_true_eq];omega)]
theorem y6 {p:Pr2} (h:¬ p.2 < 0) (h2:¬ (p.2=0∧p.1 < 0)):okP p=true:=by
 unfold okP;rw [decide_eq_true_eq];omega
theorem DT {b:Option Pr2} {p:Pr2} (ho:okP p=true) (h:bk b=0):fv b p=some p:=by
 rw [NK h];unfold fv;rw [if_pos ho]
theorem sB {b:Option Pr2} {p:Pr2} (ho:okP p=true) (h:¬ bk b=0) (hy:p.2 < by_ b∨(p.2=by_ b∧p.1 < bx b)):fv b p=some p:=by
 rw [C5 h];unfold fv;rw [if_pos ho]
 show (if btr p (bx b,by_ b)=true then some p else _)=some p
 rw [if_pos]
 unfold btr;rw [decide_eq_true_eq];exact hy
theorem sC {b:Option Pr2} {p:Pr2} (ho:okP p=true) (h:¬ bk b=0) (hy:¬ (p.2 < by_ b∨(p.2=by_ b∧p.1 < bx b))):fv b p=b:=by
 rw [C5 h];unfold fv;rw [if_pos ho]
 show (if btr p (bx b,by_ b)=true then some p else some (bx b,by_ b))=_
 rw [if_neg]
 unfold btr;rw [decide_eq_true_eq];exact hy
def dM (l:List Pr2) (k:Nat):Option Pr2:=(l.take k).foldl fv none
theorem HE (l:List Pr2):dM l 0=none:=by unfold dM;simp
theorem eT {l:List Pr2} {k:Nat} {p:Pr2} (h:l[k]?=some p):dM l (k+1)=fv (dM l k) p:=by
 unfold dM;rw [eE h,List.foldl_append];rfl
theorem AC {l:List Pr2} {k:Nat} (h:l.length≤k):dM l k=dK l:=by
 unfold dM;rw [List.take_of_length_le h];rfl
def LcI (n:Nat) (m:Int) (p:Nat):Prop:=∀ p',p' < p→Prm p'→p' ∣ n→m≠((ptN p' n).2:Int)
theorem LcI.start (n:Nat) (m:Int):LcI n m 2:=fun p' h1 h2=>by have:=h2.1;omega
def PrI (n p k:Nat) (b:Bool):Prop:=b=true↔n % p=0∧∀ j,2≤j→j < k→¬ j ∣ p
theorem PrI.start (n p:Nat):PrI n p 2 (decide ((n:Int) % (p:Int)=0)):=by
 unfold PrI
 rw [decide_eq_true_eq]
 constructor
 ·intro h;exact ⟨by omega,fun j h1 h2=>by omega⟩
 intro h;have:=h.1;omega
theorem PrI.next {n p k:Nat} {b b':Bool} (h:PrI n p k b) (hk:2≤k) (e:b'=(b && !decide ((p:Int) % (k:Int)=0))):PrI n p (k+1) b':=by
 unfold PrI at *
 have hd:((p:Int) % (k:Int)=0)↔k ∣ p:=by
  rw [← Int.natCast_emod]
  constructor
  ·intro e;exact Nat.dvd_of_mod_eq_zero (by omega)
  intro e;have:=Nat.mod_eq_zero_of_dvd e;omega
 rw [e,Bool.and_eq_true,h,Bool.not_eq_true',decide_eq_false_iff_not,hd]
 constructor
 ·rintro ⟨⟨h1,h2⟩,h3⟩
  refine ⟨h1,fun j j1 j2=>?_⟩
  by_cases e:j=k
  ·subst e;exact h3
  exact h2 j j1 (by omega)
 rintro ⟨h1,h2⟩
 exact ⟨⟨h1,fun j j1 j2=>h2 j j1 (by omega)⟩,h2 k hk (by omega)⟩
theorem PrI.done {n p k:Nat} {b:Bool} (h:PrI n p k b) (hp:2≤p) (hk:p < k*k) (h2:k=2∨(k - 1)*(k - 1)≤p):b=true↔Prm p∧p ∣ n:=by
 unfold PrI at h
 rw [h]
 constructor
 ·rintro ⟨h1,h2⟩
  refine ⟨⟨hp,fun j j1 j2 j3=>?_⟩,Nat.dvd_of_mod_eq_zero h1⟩
  rcases Nat.lt_or_ge j k with x | x
  ·exact h2 j j1 x j3
  have:=Nat.mul_le_mul x x;omega
 rintro ⟨⟨_,h1⟩,h3⟩
 refine ⟨Nat.mod_eq_zero_of_dvd h3,fun j j1 j2 j3=>?_⟩
 have:j*j≤(k - 1)*(k - 1):=Nat.mul_le_mul (by omega) (by omega)
 exact h1 j j1 (by omega) j3
theorem LcI.next {n:Nat} {m:Int} {p:Nat} (h:LcI n m p) (hn:¬ (Prm p∧p ∣ n)∨m≠((ptN p n).2:Int)):LcI n m (p+1):=by
 intro p' h1 h2 h3
 rcases Nat.lt_or_ge p' p with x | x
 ·exact h p' x h2 h3
 have:p'=p:=by omega
 subst this
 rcases hn with hn | hn
 ·exact absurd ⟨h2,h3⟩ hn
 exact hn
theorem LcI.done {D:Int} {n:Nat} {f:Fm} {m:Int} {p:Nat} (h:LcI n m p) (hn:0 < n) (hp:n < p) (ha:m ∉ agL D n f):eQ D n f m=false:=by
 unfold eQ
 rw [decide_eq_false ha,Bool.false_or,Bool.and_eq_false_iff]
 left
 rw [decide_eq_false_iff_not]
 intro hm
 obtain ⟨q,hq,rfl⟩:=List.mem_map.1 hm
 obtain ⟨p',h1,h2,rfl⟩:=(kJ hn).1 hq
 exact h p' (by have:=Nat.le_of_dvd hn h2;omega) h1 h2 rfl
theorem zd {D:Int} {n:Nat} {f:Fm} {m:Int} {p:Nat} (hn:0 < n) (ha:m ∉ agL D n f) (hp:Prm p∧p ∣ n) (e:m=((ptN p n).2:Int)):eQ D n f m=decide (rbL D m=[]):=by
 unfold eQ
 rw [decide_eq_false ha,Bool.false_or,decide_eq_true,Bool.true_and]
 exact List.mem_map.2 ⟨_,(kJ hn).2 ⟨p,hp.1,hp.2,rfl⟩,e.symm⟩
theorem v6 {D:Int} {n:Nat} {f:Fm} {m:Int} (ha:m∈agL D n f):eQ D n f m=true:=by
 unfold eQ;rw [decide_eq_true ha,Bool.true_or]
end
section
open Go Go.RowKit
def anS (a:Ans):List DV:=[.v (.int .i64 a.kind),zn a.x,zm a.x,zn a.y,zm a.y,zn a.m,zm a.m,SL enI a.roots,FS a.forms]
abbrev Rw:=Bool × List Nat
abbrev rC (r:Rw):List DV:=[.v (.bool r.1),W r.2]
theorem iH (r:Rw):(rC r).length=2:=rfl
def rV (r:Rw):Bool:=if r.2=[] then !r.1 else decide (r.2.getD (r.2.length - 1) 0≠0)
def rZ (r:Rw):Int:=sg r.1 (wv r.2)
theorem zr {r:Rw} (h:r.2≠[]) (hv:rV r=true):0 < wv r.2:=by
 unfold rV at hv
 rw [if_neg h,decide_eq_true_eq] at hv
 have hl:0 < r.2.length:=List.length_pos_iff.2 h
 rcases Nat.eq_zero_or_pos (wv r.2) with e | e
 ·exfalso
  have hs:=eC r.2 (r.2.length - 1) (by omega)
  have hd:r.2.drop (r.2.length - 1)=[r.2.getD (r.2.length - 1) 0]:=by
   rw [List.drop_eq_getElem_cons (by omega),show r.2.length - 1+1=r.2.length by omega,List.drop_length,List.getD_eq_getElem?_getD,List.getElem?_eq_getElem (by omega)]
   rfl
  rw [hd] at hs
  have:wv [r.2.getD (r.2.length - 1) 0]=r.2.getD (r.2.length - 1) 0:=by simp [wv]
  rw [this] at hs
  have hp:0 < 4294967296 ^ (r.2.length - 1)*r.2.getD (r.2.length - 1) 0:=Nat.mul_pos (Nat.pow_pos (by decide)) (by omega)
  omega
 exact e
theorem oJ {r:Rw} (ho:okW r.2) (hv:rV r=true):rC r=enI (rZ r):=by
 obtain ⟨neg,ws⟩:=r
 have e1:(rZ (neg,ws)).natAbs=wv ws:=by
  unfold rZ sg
  split <;> simp
 have e2:wl (wv ws)=ws:=by
  refine pg ho ?_
  by_cases h:ws=[]
  ·left;rw [h];rfl
  right
  unfold rV at hv
  rw [if_neg h,decide_eq_true_eq] at hv
  exact hv
 have e3:decide (rZ (neg,ws) < 0)=neg:=by
  by_cases h:ws=[]
  ·subst h
   have:neg=false:=by unfold rV at hv;simpa using hv
   subst this
   rfl
  have:=zr (r:=(neg,ws)) h hv
  simp only at this
  unfold rZ sg
  cases neg
  ·rw [if_neg (fun x=>by cases x)];exact decide_eq_false (by omega)
  rw [if_pos rfl];exact decide_eq_true (by show -((wv ws:Nat):Int) < 0;omega)
 show [DV.v (.bool neg),W ws]=[DV.v (.bool (decide (rZ (neg,ws) < 0))),W (wl (rZ (neg,ws)).natAbs)]
 rw [e3,e1,e2]
theorem BU {r:Rw} (hv:rV r=true):decide (r.2=[])=decide (rZ r=0):=by
 rw [decide_eq_decide]
 constructor
 ·intro h
  unfold rZ sg
  rw [h]
  split <;> simp [wv]
 intro h
 by_cases k:r.2=[]
 ·exact k
 have:=zr k hv
 exfalso
 unfold rZ sg at h
 split at h <;> omega
def eO (z:Int):Rw:=(decide (z < 0),wl z.natAbs)
theorem xH (z:Int):rZ (eO z)=z:=by
 unfold rZ eO sg
 simp only [bH,decide_eq_true_eq]
 split <;> omega
theorem LU (z:Int):rV (eO z)=true:=by
 unfold rV eO
 simp only
 split
 ·next h =>
  have:z.natAbs=0:=nA (by rw [h];rfl)
  rw [Bool.not_eq_true',decide_eq_false_iff_not];omega
 next h =>
 rw [decide_eq_true_eq]
 have:=qg h
 rw [List.getLast_eq_getElem] at this
 rw [List.getD_eq_getElem?_getD,List.getElem?_eq_getElem (by have:=List.length_pos_iff.2 h;omega)]
 exact this
theorem JN (z:Int):okW (eO z).2:=bG _
abbrev RF:=Rw × Rw × Rw
abbrev rfC (f:RF):List DV:=rC f.1 ++ (rC f.2.1 ++ rC f.2.2)
theorem nG (f:RF):(rfC f).length=6:=rfl
structure RA where
 kind:Int
 x:Rw
 y:Rw
 m:Rw
 roots:List Rw
 forms:List RF
def raS (a:RA):List DV:=[.v (.int .i64 a.kind),.v (.bool a.x.1),W a.x.2,.v (.bool a.y.1),W a.y.2,.v (.bool a.m.1),W a.m.2,SL rC a.roots,SL rfC a.forms]
def rfL (f:RF):List Rw:=[f.1,f.2.1,f.2.2]
def RA.nums (a:RA):List Rw:=[a.x,a.y,a.m] ++ a.roots ++ a.forms.flatMap rfL
def RA.ans (a:RA):Ans:=⟨a.kind,rZ a.x,rZ a.y,rZ a.m,a.roots.map rZ,a.forms.map fun f=>⟨rZ f.1,rZ f.2.1,rZ f.2.2⟩⟩
theorem wX:∀ {l:List Rw},(∀ r∈l,okW r.2∧rV r=true)→l.flatMap rC=(l.map rZ).flatMap enI
 | [],_=>rfl
 | r :: l,h=>by
  rw [List.flatMap_cons,List.map_cons,List.flatMap_cons,wX fun r hr=>h r (by simp [hr]),oJ (h r (by simp)).1 (h r (by simp)).2]
theorem uJ:∀ {l:List RF},(∀ f∈l,∀ r∈rfL f,okW r.2∧rV r=true)→l.flatMap rfC=(l.map fun f=>(⟨rZ f.1,rZ f.2.1,rZ f.2.2⟩:Fm)).flatMap FC
 | [],_=>rfl
 | f :: l,h=>by
  have h1:=h f (by simp)
  rw [List.flatMap_cons,List.map_cons,List.flatMap_cons,uJ fun f hf=>h f (by simp [hf])]
  show rC f.1 ++ (rC f.2.1 ++ rC f.2.2) ++ _=_
  rw [oJ (h1 f.1 (by simp [rfL])).1 (h1 f.1 (by simp [rfL])).2,oJ (h1 f.2.1 (by simp [rfL])).1 (h1 f.2.1 (by simp [rfL])).2,oJ (h1 f.2.2 (by simp [rfL])).1 (h1 f.2.2 (by simp [rfL])).2]
  rfl
theorem qt {a:RA} (h:∀ r∈a.nums,okW r.2∧rV r=true):raS a=anS a.ans:=by
 have hm:∀ r,r=a.x∨r=a.y∨r=a.m→okW r.2∧rV r=true:=fun r hr=>h r (by
  unfold RA.nums;rcases hr with rfl | rfl | rfl <;> simp)
 have e1:=oJ (hm a.x (.inl rfl)).1 (hm a.x (.inl rfl)).2
 have e2:=oJ (hm a.y (.inr (.inl rfl))).1 (hm a.y (.inr (.inl rfl))).2
 have e3:=oJ (hm a.m (.inr (.inr rfl))).1 (hm a.m (.inr (.inr rfl))).2
 have e4:=wX (l:=a.roots) fun r hr=>h r (by unfold RA.nums;simp [hr])
 have e5:=uJ (l:=a.forms) fun f hf r hr=>h r (by
  unfold RA.nums
  rw [List.mem_append]
  exact .inr (List.mem_flatMap.2 ⟨f,hf,hr⟩))
 simp only [List.cons.injEq,and_true] at e1 e2 e3
 unfold raS anS RA.ans SL FS
 rw [e1.1,e1.2,e2.1,e2.2,e3.1,e3.2,e4,e5]
 simp
def rgA (D:Int) (n:Nat) (f:Fm) (a:RA):Bool:=a.nums.all rV && rgt D n f a.ans
def gP (a:Ans):RA:=⟨a.kind,eO a.x,eO a.y,eO a.m,a.roots.map eO,a.forms.map fun f=>(eO f.a,eO f.b,eO f.c)⟩
theorem tz (a:Ans):(gP a).ans=a:=by
 unfold gP RA.ans
 simp only [xH,List.map_map]
 have e1:a.roots.map (rZ ∘ eO)=a.roots:=by
  rw [show (rZ ∘ eO)=id from funext xH,List.map_id]
 have e2:a.forms.map ((fun f:RF=>(⟨rZ f.1,rZ f.2.1,rZ f.2.2⟩:Fm)) ∘ fun f:Fm=>(eO f.a,eO f.b,eO f.c))=a.forms:=by
  have:((fun f:RF=>(⟨rZ f.1,rZ f.2.1,rZ f.2.2⟩:Fm)) ∘ fun f:Fm=>(eO f.a,eO f.b,eO f.c))=id:=by
   funext f;simp [xH]
  rw [this,List.map_id]
 rw [e1,e2]
theorem nK (a:Ans):∀ r∈(gP a).nums,okW r.2∧rV r=true:=by
 intro r hr
 have:∃ z,r=eO z:=by
  unfold RA.nums gP at hr
  simp only [List.mem_append,List.mem_cons,List.not_mem_nil,or_false,List.mem_map,List.mem_flatMap] at hr
  rcases hr with ((h | h | h) | ⟨z,_,h⟩) | ⟨f,⟨g,_,rfl⟩,h⟩
  ·exact ⟨_,h⟩
  ·exact ⟨_,h⟩
  ·exact ⟨_,h⟩
  ·exact ⟨z,h.symm⟩
  simp only [rfL,List.mem_cons,List.not_mem_nil,or_false] at h
  rcases h with h | h | h <;> exact ⟨_,h⟩
 obtain ⟨z,rfl⟩:=this
 exact ⟨JN z,LU z⟩
theorem zl (a:Ans):raS (gP a)=anS a:=by rw [qt (nK a),tz]
theorem ze {D:Int} {n:Nat} {f:Fm} (a:Ans):rgA D n f (gP a)=rgt D n f a:=by
 unfold rgA
 rw [tz,List.all_eq_true.2 fun r hr=>(nK a r hr).2,Bool.true_and]
end
section
open Go Go.RowKit
theorem CG:fnd (-23) 3 ⟨2,1,3⟩=⟨1,0,1,0,[],[]⟩:=by kernel_rfl
theorem Hm:fnd (-23) 5 ⟨2,1,3⟩=⟨2,0,0,5,[],[]⟩:=by kernel_rfl
theorem Kz:fnd (-23) 1 ⟨2,1,3⟩=⟨3,0,0,0,[1],[⟨1,1,6⟩]⟩:=by kernel_rfl
theorem CI:fnd (-20) 3 ⟨1,0,5⟩=⟨2,0,0,5,[],[]⟩:=by kernel_rfl
theorem KB:(prS (-4) 5 ⟨1,0,1⟩).length=8∧(prS (-4) 5 ⟨1,0,1⟩).getD 0 (0,0)=(-2,-1):=by decide +kernel
theorem CH:rbL (-23) 6=[1,5,7,11]:=by decide +kernel
theorem Ky:rgt (-23) 3 ⟨2,1,3⟩ ⟨1,0,1,0,[],[]⟩=true:=by kernel_rfl
theorem Mv:rgt (-23) 3 ⟨2,1,3⟩ ⟨3,0,0,0,[1],[⟨1,1,6⟩]⟩=false:=by kernel_rfl
end
section
open Go Go.RowKit
abbrev enU (p:Int × Int):List DV:=[.v (.int .i64 p.1),.v (.int .i64 p.2)]
theorem Hn (p:Int × Int):(enU p).length=2:=rfl
abbrev PA (p:Pr2):PV:=.a (enP p)
def prQ (D n:Int) (f:Fm) (b:Int):List Pr2:=if smf f (frq D n b)=true then (unL D).map (col f D n b) else []
def NI (M:Mt) (n b:Int) (p:Int × Int):Pr2:=(M.a*((p.1 - b*p.2) / 2)+M.b*(n*p.2),M.c*((p.1 - b*p.2) / 2)+M.d*(n*p.2))
theorem La {D:Int} {p:Int × Int} (h:p∈unL D):(-2≤p.1∧p.1≤2)∧(-1≤p.2∧p.2≤1):=by
 unfold unL at h
 split at h
 ·simp only [List.mem_cons,List.not_mem_nil,or_false] at h
  rcases h with rfl | rfl | rfl | rfl | rfl | rfl <;> decide
 split at h
 ·simp only [List.mem_cons,List.not_mem_nil,or_false] at h
  rcases h with rfl | rfl | rfl | rfl <;> decide
 simp only [List.mem_cons,List.not_mem_nil,or_false] at h
 rcases h with rfl | rfl <;> decide
theorem yV (D:Int):(unL D).length≤6:=by
 unfold unL
 split
 ·exact Nat.le_refl _
 split <;> exact bL0 rfl
theorem fp {α:Type} {l:List α} {d:α} {k:Nat} (h:k < l.length):l.getD k d∈l:=by
 rw [List.getD_eq_getElem?_getD,List.getElem?_eq_getElem h];exact List.getElem_mem h
theorem MZ {a b c p q r:Int} (h1:decide (a=p)=true) (h2:decide (b=q)=true):decide (c=r)=decide (a=p∧b=q∧c=r):=by
 rw [decide_eq_decide];exact ⟨fun h=>⟨dT0 h1,dT0 h2,h⟩,fun h=>h.2.2⟩
theorem M1 {a b c p q r:Int} (_h1:decide (a=p)=true) (h2:decide (b=q)=false):false=decide (a=p∧b=q∧c=r) :=
 (decide_eq_false fun h=>dF0 h2 h.2.1).symm
theorem M2 {a b c p q r:Int} (h1:decide (a=p)=false):false=decide (a=p∧b=q∧c=r) :=
 (decide_eq_false fun h=>dF0 h1 h.1).symm
theorem MW {D:Int} (h:D=-3):[((2:Int),(0:Int)),(-2,0),(1,1),(1,-1),(-1,1),(-1,-1)]=unL D:=by unfold unL;rw [if_pos h]
theorem MV {D:Int} (h:¬ D=-3) (h2:D=-4):[((2:Int),(0:Int)),(-2,0),(0,1),(0,-1)]=unL D:=by unfold unL;rw [if_neg h,if_pos h2]
theorem MX {D:Int} (h:¬ D=-3) (h2:¬ D=-4):[((2:Int),(0:Int)),(-2,0)]=unL D:=by unfold unL;rw [if_neg h,if_neg h2]
section
variable {D:Int} {m i j:Nat} {f:Fm} {b:Int}
theorem Jz (hb:(rbL D m)[i]?=some b) (hs:smf f (frq D m b)=true) (hj:j < (unL D).length) :
  ((prL D m f).map fun p=>([PA p]:List PV))[fmN (prQ D m f) (rbL D m) i+j]?=some [PA (NI (smm f (frq D m b)) m b ((unL D).getD j (0,0)))]:=by
 have h1:(prQ D m f b)[j]?=some (col f D m b ((unL D).getD j (0,0))):=by
  unfold prQ
  rw [if_pos hs,List.getElem?_map,List.getD_eq_getElem?_getD,List.getElem?_eq_getElem hj]
  rfl
 have h2:=Hi hb h1
 rw [List.getElem?_map]
 rw [show prL D m f=(rbL D m).flatMap (prQ D m f) from rfl,h2]
 rfl
theorem Nc (hb:(rbL D m)[i]?=some b) (hs:smf f (frq D m b)=true):fmN (prQ D m f) (rbL D m) (i+1)=fmN (prQ D m f) (rbL D m) i+(unL D).length:=by
 rw [Es hb];unfold prQ;rw [if_pos hs,List.length_map]
theorem Nf (hb:(rbL D m)[i]?=some b) (hs:smf f (frq D m b)=false):fmN (prQ D m f) (rbL D m) (i+1)=fmN (prQ D m f) (rbL D m) i:=by
 rw [Es hb];unfold prQ;rw [if_neg (by rw [hs];decide)];rfl
theorem JB:((prL D m f).map fun p=>([PA p]:List PV)).length≤fmN (prQ D m f) (rbL D m) ((rbL D m).map fun b=>([PI b,PF (frq D m b)]:List PV)).length:=by
 rw [List.length_map,List.length_map,Hj]
 exact Nat.le_refl _
theorem Jx:∀ x∈(prL D m f).map (fun p=>([PA p]:List PV)),x.length=1:=by
 intro x hx
 obtain ⟨p,_,rfl⟩:=List.mem_map.1 hx
 rfl
theorem LZ {x:List PV} {k:Nat} (h:((prL D m f).map fun p=>([PA p]:List PV))[k]?=some x):∃ p,(prL D m f)[k]?=some p∧x=[PA p]:=by
 rw [List.getElem?_map] at h
 obtain ⟨p,h1,rfl⟩:=Option.map_eq_some_iff.1 h
 exact ⟨p,h1,rfl⟩
end
def agZ (D:Int) (f:Fm):List (Int × Int):=(chs D).zip (gvL f)
def agP (n:Int) (p:Int × Int):Bool:=decide (cv p.1 n≠p.2)
theorem yI {D n:Int} {f:Fm} (h:Int.gcd (2*D) n=1):agL D n f=((agZ D f).filter (agP n)).map Prod.fst:=by unfold agL;rw [if_pos h];rfl
theorem ED {D n:Int} {f:Fm} (h:¬ Int.gcd (2*D) n=1):agL D n f=[]:=by unfold agL;rw [if_neg h]
section
variable {D n:Int} {f:Fm} {k:Nat}
theorem lH (hl:(gvL f).length=(chs D).length) (hk:k < (chs D).length):(agZ D f)[k]?=some ((chs D).getD k 0,(gvL f).getD k 0):=by
 unfold agZ
 rw [List.getElem?_eq_getElem (by rw [List.length_zip];omega),List.getElem_zip,List.getD_eq_getElem?_getD,List.getElem?_eq_getElem hk,List.getD_eq_getElem?_getD,List.getElem?_eq_getElem (by omega)]
 rfl
theorem KW (h:Int.gcd (2*D) n=1) (hl:(gvL f).length=(chs D).length) (hk:k < (chs D).length) (hne:¬ cv ((chs D).getD k 0) n=(gvL f).getD k 0) :
  ((agL D n f).map fun c=>([PE c]:List PV))[fA (agP n) (agZ D f) k]?=some [PE ((chs D).getD k 0)]:=by
 rw [yI h,List.getElem?_map,List.getElem?_map,CA (lH hl hk) (by unfold agP;rw [decide_eq_true_eq];exact hne)]
 rfl
theorem NL (hl:(gvL f).length=(chs D).length) (hk:k < (chs D).length) (hne:¬ cv ((chs D).getD k 0) n=(gvL f).getD k 0):fA (agP n) (agZ D f) (k+1)=fA (agP n) (agZ D f) k+1 :=
 Cz (lH hl hk) (by unfold agP;rw [decide_eq_true_eq];exact hne)
theorem NM (hl:(gvL f).length=(chs D).length) (hk:k < (chs D).length) (hne:cv ((chs D).getD k 0) n=(gvL f).getD k 0):fA (agP n) (agZ D f) (k+1)=fA (agP n) (agZ D f) k :=
 Hl (lH hl hk) (by unfold agP;rw [decide_eq_false_iff_not];exact fun x=>x hne)
theorem KX (h:Int.gcd (2*D) n=1) (hl:(gvL f).length=(chs D).length) (hk:(chs D).length≤k):((agL D n f).map fun c=>([PE c]:List PV)).length≤fA (agP n) (agZ D f) k:=by
 rw [yI h,List.length_map,List.length_map,CC (by unfold agZ;rw [List.length_zip];omega)]
 exact Nat.le_refl _
theorem HJ (h:¬ Int.gcd (2*D) n=1) (j:Nat):((agL D n f).map fun c=>([PE c]:List PV)).length≤j:=by
 rw [ED h];exact Nat.zero_le _
theorem AH:∀ x∈(agL D n f).map (fun c=>([PE c]:List PV)),x.length=1:=by
 intro x hx
 obtain ⟨p,_,rfl⟩:=List.mem_map.1 hx
 rfl
theorem EC {x:List PV} (h:((agL D n f).map fun c=>([PE c]:List PV))[k]?=some x):∃ c,(agL D n f)[k]?=some c∧x=[PE c]:=by
 rw [List.getElem?_map] at h
 obtain ⟨p,h1,rfl⟩:=Option.map_eq_some_iff.1 h
 exact ⟨p,h1,rfl⟩
end
end
section
open Go Go.RowKit
theorem Gn {l:List Pr2}:∀ x∈l.map (fun p=>([PA p]:List PV)),x.length=1:=by
 intro x hx
 obtain ⟨p,_,rfl⟩:=List.mem_map.1 hx
 rfl
theorem JA {l:List Pr2} {x:List PV} {k:Nat} (h:(l.map fun p=>([PA p]:List PV))[k]?=some x):∃ p,l[k]?=some p∧x=[PA p]:=by
 rw [List.getElem?_map] at h
 obtain ⟨p,h1,rfl⟩:=Option.map_eq_some_iff.1 h
 exact ⟨p,h1,rfl⟩
theorem Jy {D:Int} {m:Nat} {f:Fm} (hm:1≤m∧m≤65536):(prL D m f).length≤1000000:=by
 rw [wq]
 have h1:((rbL D m).filter fun b=>smf f (frq D m b)).length≤(rbL D m).length:=List.length_filter_le _ _
 have h2:=ll D m hm.2
 have h3:unN D≤6:=by rw [← vO];exact yV D
 have:unN D*((rbL D m).filter fun b=>smf f (frq D m b)).length≤6*131072:=Nat.mul_le_mul h3 (by omega)
 omega
def alE (f:Fm) (n:Int):Int:=if rfE f=0 then rgE n else rfE f
theorem MM {f:Fm} {n:Int} (h:¬ rfE f=0):rfE f=alE f n:=by unfold alE;rw [if_neg h]
theorem Ez {f:Fm} {n:Int} (h:rfE f=0):rgE n=alE f n:=by unfold alE;rw [if_pos h]
theorem yH {D:Int} {f:Fm} {m:Nat} (h:Cl D f) (hm:1≤m∧m≤65536):alE f m=0:=by
 rw [← Ez (Aq h)]
 exact xA (by omega) (by omega)
theorem L1 {D:Int} (hD:D < 0) (h4:D % 4=0∨D % 4=1):prE D=0:=by
 unfold prE
 rw [if_neg]
 rintro (k | k)
 ·omega
 rw [oT hD] at k;cases k
theorem Cd {a b:Nat} (h:a*b≤1000000000):(.i64:IntKind).wrap ((a:Int)*(b:Int))=((a*b:Nat):Int):=by
 rw [← Int.natCast_mul]
 generalize a*b=q at *
 exact iW0 _ (by omega)
theorem uE {D n:Int} (h:Int.gcd (2*D) n=1):n % 2=1:=by
 rcases Int.emod_two_eq n with e | e
 ·exfalso
  have h1:(2:Int) ∣ (Int.gcd (2*D) n:Nat):=Int.dvd_coe_gcd ⟨D,rfl⟩ (Int.dvd_of_emod_eq_zero e)
  rw [h] at h1
  omega
 exact e
end
end Go.AM
