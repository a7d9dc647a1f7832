import GoSem.Core.World
import Derived.Calls
import Derived.Orders
import Derived.OrdersIn
import Derived.RangeFuncLeaves
import Derived.RangeFuncRecord
import Derived.Laws.Sem
import Derived.Laws.World
import Derived.Laws.Cells
import Derived.Below
import Derived.MapKept
import Derived.Laws.AppendOwn
import Derived.IntWalk
import Derived.Laws.MakeOwn
import Derived.Laws.Small
import Derived.Laws.Slices
set_option maxRecDepth 100000
set_option maxHeartbeats 1000000
namespace Go.AM
abbrev Xe:=@Array.foldl_toList
abbrev VP:=@Array.getD_eq_getD_getElem?
abbrev U9:=@Array.getElem?_append_left
abbrev UR:=@Array.getElem?_eq_getElem
abbrev K0:=@Array.getElem?_eq_some_iff
abbrev V3:=@Array.getElem?_setIfInBounds
abbrev UJ:=@Array.getElem?_toList
abbrev Wa:=@Array.mem_append
abbrev VN:=@Array.mem_toList_iff
abbrev XJ:=@Array.size_setIfInBounds
abbrev W5:=@Array.toList_append
abbrev VU:=@Array.toList_map
abbrev XX:=@Array.toList_zip
abbrev Uw:=@Bool.and_eq_true
abbrev X9:=@Bool.and_false
abbrev Vg:=@Bool.eq_iff_iff
abbrev VE:=@Bool.or_eq_true
abbrev V6:=@Int.dvd_add
abbrev Xi:=@Int.dvd_coe_gcd
abbrev Ya:=@Int.dvd_gcd
abbrev Vo:=@Int.dvd_mul_of_dvd_left
abbrev Wr:=@Int.dvd_of_emod_eq_zero
abbrev VT:=@Int.dvd_sub
abbrev Vr:=@Int.dvd_trans
abbrev XC:=@Int.ediv_le_self
abbrev Xj:=@Int.ediv_nonneg
abbrev Xv:=@Int.emod_eq_emod_iff_emod_sub_eq_zero
abbrev W2:=@Int.emod_eq_zero_of_dvd
abbrev X2:=@Int.emod_lt
abbrev UK:=@Int.emod_lt_of_pos
abbrev UF:=@Int.emod_nonneg
abbrev WZ:=@Int.eq_ofNat_of_zero_le
abbrev U0:=@Int.eq_of_mul_eq_mul_left
abbrev XI:=@Int.gcd_comm
abbrev U7:=@Int.gcd_dvd_left
abbrev UX:=@Int.gcd_dvd_right
abbrev WK:=@Int.gcd_zero_right
abbrev Xa:=@Int.le_ediv_iff_mul_le
abbrev WJ:=@Int.le_of_dvd
abbrev WV:=@Int.le_of_lt
abbrev XZ:=@Int.le_refl
abbrev X6:=@Int.le_trans
abbrev Xf:=@Int.lt_or_eq_of_le
abbrev UY:=@Int.lt_or_le
abbrev UG:=@Int.mul_assoc
abbrev Xl:=@Int.mul_comm
abbrev UC:=@Int.mul_ediv_add_emod
abbrev U6:=@Int.mul_ediv_cancel_left
abbrev X5:=@Int.mul_eq_zero
abbrev Ve:=@Int.mul_le_mul
abbrev Up:=@Int.mul_le_mul_of_nonneg_left
abbrev UM:=@Int.mul_le_mul_of_nonneg_right
abbrev X3:=@Int.mul_ne_zero
abbrev VO:=@Int.mul_neg
abbrev Vd:=@Int.mul_nonneg
abbrev Vb:=@Int.mul_nonpos_of_nonneg_of_nonpos
abbrev Wy:=@Int.mul_nonpos_of_nonpos_of_nonneg
abbrev WO:=@Int.mul_one
abbrev VX:=@Int.mul_pos
abbrev WG:=@Int.natAbs_dvd_natAbs
abbrev VZ:=@Int.natAbs_mul
abbrev Xt:=@Int.natAbs_mul_self'
abbrev Wl:=@Int.natAbs_natCast
abbrev Xk:=@Int.natAbs_tmod
abbrev WS:=@Int.natCast_add
abbrev WA:=@Int.natCast_ediv
abbrev V5:=@Int.natCast_mul
abbrev Ww:=@Int.neg_mul
abbrev XQ:=@Int.neg_neg
abbrev WL:=@Int.ofNat_dvd_left
abbrev WP:=@Int.one_mul
abbrev Uz:=@Int.tdiv_eq_ediv_of_nonneg
abbrev UH:=@Int.tmod_eq_emod_of_nonneg
abbrev Vq:=@Int.toNat_natCast
abbrev W4:=@Int.toNat_of_nonneg
abbrev XT:=@Int.zero_dvd
abbrev VW:=@List.Pairwise.nil
abbrev Uo:=@List.all_eq_true
abbrev Xn:=@List.any_eq_false
abbrev Wz:=@List.any_eq_true
abbrev Wt:=@List.append_assoc
abbrev W9:=@List.append_eq_nil_iff
abbrev VD:=@List.append_nil
abbrev WN:=@List.cons.inj
abbrev XA:=@List.cons_append
abbrev Wp:=@List.dropLast_concat_getLast
abbrev Xy:=@List.drop_drop
abbrev Vn:=@List.drop_eq_getElem_cons
abbrev WQ:=@List.drop_eq_nil_iff
abbrev XB:=@List.drop_length
abbrev XE:=@List.drop_replicate
abbrev XF:=@List.drop_set_of_lt
abbrev W6:=@List.drop_succ_cons
abbrev XR:=@List.drop_zero
abbrev Ux:=@List.eq_nil_of_length_eq_zero
abbrev Xz:=@List.exists_mem_of_ne_nil
abbrev Xp:=@List.ext_getElem?
abbrev WM:=@List.filter_append
abbrev VV:=@List.filter_congr
abbrev V9:=@List.filter_cons
abbrev WW:=@List.filter_eq_self
abbrev X4:=@List.filter_map
abbrev Xw:=@List.findIdx_getElem
abbrev Xd:=@List.findIdx_lt_length
abbrev VF:=@List.flatMap_append
abbrev UP:=@List.flatMap_cons
abbrev As:=@List.getD_eq_getElem?_getD
abbrev Xx:=@List.getElem?_append
abbrev UQ:=@List.getElem?_append_left
abbrev US:=@List.getElem?_append_right
abbrev W0:=@List.getElem?_cons_succ
abbrev VC:=@List.getElem?_drop
abbrev Fl:=@List.getElem?_eq_getElem
abbrev UU:=@List.getElem?_eq_none
abbrev Uu:=@List.getElem?_eq_some_iff
abbrev UE:=@List.getElem?_map
abbrev Wb:=@List.getElem?_range
abbrev Wq:=@List.getElem?_replicate
abbrev VH:=@List.getElem?_set
abbrev VY:=@List.getElem?_take
abbrev WC:=@List.getElem_mem
abbrev Wx:=@List.getElem_of_mem
abbrev UB:=@List.length_append
abbrev U5:=@List.length_cons
abbrev W7:=@List.length_drop
abbrev WI:=@List.length_filter_le
abbrev Uq:=@List.length_map
abbrev WY:=@List.length_pos_iff
abbrev V2:=@List.length_range
abbrev Wj:=@List.length_replicate
abbrev UL:=@List.length_set
abbrev XU:=@List.length_singleton
abbrev Us:=@List.length_take
abbrev XG:=@List.length_zipWith
abbrev Vj:=@List.map_append
abbrev Vy:=@List.map_congr_left
abbrev WF:=@List.map_cons
abbrev VS:=@List.map_map
abbrev X8:=@List.map_nil
abbrev Vi:=@List.mem_append
abbrev XY:=@List.mem_append_left
abbrev Vh:=@List.mem_cons
abbrev Vv:=@List.mem_cons_of_mem
abbrev Vs:=@List.mem_cons_self
abbrev VG:=@List.mem_filter
abbrev XD:=@List.mem_flatMap
abbrev UO:=@List.mem_map
abbrev U8:=@List.mem_of_getElem?
abbrev UW:=@List.mem_range
abbrev U3:=@List.mem_singleton
abbrev Xo:=@List.nodup_append
abbrev Wu:=@List.nodup_cons
abbrev Xc:=@List.not_of_lt_findIdx
abbrev Xu:=@List.pairwise_append
abbrev Wm:=@List.pairwise_cons
abbrev Xr:=@List.perm_ext_iff_of_nodup
abbrev V8:=@List.range'_succ
abbrev Xs:=@List.range_eq_range'
abbrev V7:=@List.range_succ
abbrev WX:=@List.replicate_succ
abbrev XV:=@List.set_append_right
abbrev Xg:=@List.set_cons_zero
abbrev VI:=@List.take_add_one
abbrev Wi:=@List.take_append_drop
abbrev Vm:=@List.take_length
abbrev VA:=@List.take_of_length_le
abbrev We:=@Nat.add_assoc
abbrev Vt:=@Nat.add_mul
abbrev XL:=@Nat.add_sub_cancel
abbrev Wh:=@Nat.add_zero
abbrev WH:=@Nat.beq_refl
abbrev WR:=@Nat.blt_eq
abbrev Wv:=@Nat.div_add_mod
abbrev W8:=@Nat.div_eq_of_lt
abbrev XO:=@Nat.div_le_self
abbrev Vp:=@Nat.div_lt_iff_lt_mul
abbrev X0:=@Nat.div_mul_le_self
abbrev Xb:=@Nat.dvd_of_mod_eq_zero
abbrev XM:=@Nat.dvd_trans
abbrev UT:=@Nat.eq_of_beq_eq_true
abbrev Wg:=@Nat.eq_of_mul_eq_mul_left
abbrev U4:=@Nat.eq_of_mul_eq_mul_right
abbrev XN:=@Nat.eq_zero_of_zero_dvd
abbrev UI:=@Nat.eq_zero_or_pos
abbrev X7:=@Nat.gcd_comm
abbrev WD:=@Nat.gcd_dvd_left
abbrev Wc:=@Nat.gcd_dvd_right
abbrev XS:=@Nat.le_div_iff_mul_le
abbrev X1:=@Nat.le_max_left
abbrev XW:=@Nat.le_max_right
abbrev Wo:=@Nat.le_mul_of_pos_right
abbrev Wf:=@Nat.le_of_dvd
abbrev V1:=@Nat.le_of_eq
abbrev Xq:=@Nat.le_of_mul_le_mul_right
abbrev Iv:=@Nat.le_refl
abbrev Wn:=@Nat.le_sub_one_of_lt
abbrev UA:=@Nat.le_trans
abbrev Wk:=@Nat.lt_of_le_of_lt
abbrev Vf:=@Nat.lt_of_lt_of_le
abbrev VM:=@Nat.lt_of_mul_lt_mul_left
abbrev Ut:=@Nat.lt_or_ge
abbrev XK:=@Nat.lt_succ_iff_lt_or_eq
abbrev XP:=@Nat.lt_trichotomy
abbrev Vu:=@Nat.min_eq_left
abbrev V0:=@Nat.mod_eq_of_lt
abbrev Vc:=@Nat.mod_lt
abbrev UN:=@Nat.mul_add
abbrev UV:=@Nat.mul_assoc
abbrev Va:=@Nat.mul_comm
abbrev VJ:=@Nat.mul_le_mul
abbrev UD:=@Nat.mul_le_mul_left
abbrev Uy:=@Nat.mul_le_mul_right
abbrev Vx:=@Nat.mul_left_comm
abbrev V4:=@Nat.mul_lt_mul_of_pos_right
abbrev VK:=@Nat.mul_one
abbrev WU:=@Nat.mul_succ
abbrev Ws:=@Nat.mul_zero
abbrev Vz:=@Nat.not_lt_zero
abbrev Xm:=@Nat.one_mul
abbrev VQ:=@Nat.pow_add
abbrev UZ:=@Nat.pow_le_pow_right
abbrev Vk:=@Nat.pow_succ
abbrev Vw:=@Nat.shiftRight_eq_div_pow
abbrev WE:=@Nat.sub_self
abbrev WT:=@Nat.succ_mul
abbrev Xh:=@Nat.two_pow_add_eq_or_of_lt
abbrev VR:=@Nat.two_pow_pos
abbrev XH:=@Nat.zero_add
abbrev Uv:=@Nat.zero_le
abbrev VL:=@Nat.zero_lt_succ
abbrev Vl:=@Option.some.inj
abbrev Ur:=@congrArg
abbrev Ix:=@decide_eq_false
abbrev G6:=@decide_eq_true
abbrev G2:=@if_neg
abbrev H2:=@if_pos
end Go.AM
namespace Go.AM
open Go
theorem dT0{p:Prop}[inst:Decidable p](h:decide p=true):p:=of_decide_eq_true h
theorem dF0{p:Prop}[inst:Decidable p](h:decide p=false):¬p:=of_decide_eq_false h
theorem bL0{n m:Nat}(h:Nat.ble n m=true):n<=m:=Nat.le_of_ble_eq_true h
theorem iW0(n:Int)(h:-9223372036854775808<=n∧n<=9223372036854775807):(.i64:IntKind).wrap n=n:=IntWalk.i64_in n h
def vf:List (Nat×List Value):=[(1,[.int .i64 0,.int .i64 1,.int .i64 0,.int .i64 (-1),.int .i64 0,.int .i64 (-1),.int .i64 0,.int .i64 1]),
 (3,[1,10,100,1000,10000,100000,1000000,10000000,100000000,1000000000,10000000000,100000000000,1000000000000,10000000000000,100000000000000,1000000000000000,10000000000000000,100000000000000000,1000000000000000000,10000000000000000000].map fun n=>.int .u64 n)]
open Go.RowKit
abbrev Hp:=Nat->Option Obj
inductive DV where
 |v (x:Value)
 |sl (n:Nat) (xs:List DV)
 |sx (n cap:Nat) (xs:List DV)
 |ip (xs:List DV)
 |fn (f:FuncId) (caps:List DV)
 |mp (a:Option Nat) (xs:List DV)
 |any
def mw:Option Nat->Nat
 |none=>2
 |some n=>n+1
def iB:Option Nat->Value->Nat->Option Value
 |none,v,j=>if j=0 then some v else none
 |some n,.agg cs,j=>if cs.size=n then cs[j]? else none
 |_,_,_=>none
def eT(a:Option Nat):List MapEntry->Nat->Option Value
 | [],_=>none
 |e::l,i=>if i=0 then some e.key else if i<mw a then iB a e.val (i-1)else eT a l (i-mw a)
abbrev iW(es:Array MapEntry)(clk:Nat):Prop:=Go.MapKept.Stamped es clk
def ie:Nat->Nat->List Nat
 |0,_=>[]
 |f+1,m=>if m=0 then[]else m%4294967296::ie f (m/4294967296)
def wl(m:Nat):List Nat:=ie m m
def w32(n:Nat):DV:=.v (.int .u32 n)
def zn(z:Int):DV:=.v (.bool (decide (z<0)))
def zm(z:Int):DV:=.sl (wl z.natAbs).length ((wl z.natAbs).map w32)
mutual
def DRep(h:Hp):DV->Value->Prop
 |.v x,y=>y=x∧x.oneCell'=true
 |.sl n xs,y=>∃ a cap,y=.slice a n cap∧n<=cap∧n<=140737488355328 ∧
   (xs=[]∨∃ b off c e fr,a=some ⟨b,off,none⟩∧h b=some (.cells c e fr)∧DReps h xs fun i=>c[off+i]?)
 |.sx n cap xs,y=>∃ a,y=.slice a n cap∧n<=cap∧n<=140737488355328 ∧
   (xs=[]∨∃ b off c e fr,a=some ⟨b,off,none⟩∧h b=some (.cells c e fr)∧DReps h xs fun i=>c[off+i]?)
 |.ip xs,y=>∃ b off c e fr,y=.pointer (some ⟨b,off,none⟩)∧h b=some (.cells c e fr)∧DReps h xs fun i=>c[off+i]?
 |.fn f caps,y=>∃ lb:Array Value,y=.func (.func f) #[] lb∧lb.size=caps.length∧DReps h caps fun i=>lb[i]?
 |.any,y=>y.oneCell'=true
 |.mp a xs,y=>∃ k es clk l,y=.map (some k)∧h k=some (.map es clk)∧iW es clk∧l.Perm es.toList∧xs.length=l.length*mw a∧DReps h xs (eT a l)
def DReps(h:Hp):List DV->(Nat->Option Value)->Prop
 | [],_=>True
 |x::xs,g=>(∃ y,g 0=some y∧DRep h x y)∧DReps h xs fun i=>g (i+1)
end
def Hle(h h':Hp):Prop:=∀ k o,h k=some o->h' k=some o
def Hlf(h h':Hp):Prop:=∀ k o,(∀ q,o≠.deferred q)->h k=some o->h' k=some o
theorem Hle.refl(h:Hp):Hle h h:=fun _ _ e=>e
theorem Hle.trans{a b c:Hp}(h:Hle a b)(k:Hle b c):Hle a c:=fun _ _ e=>k _ _ (h _ _ e)
mutual
theorem DRep.mono{h h':Hp}(hh:Hle h h'):∀ (d:DV) (x:Value),DRep h d x->DRep h' d x
 |.v _,_,r=>by simpa only[DRep]using r
 |.sl n xs,x,r=>by
  simp only[DRep]at r ⊢;obtain⟨a,cap,h1,h2,h3,h4⟩:=r;refine⟨a,cap,h1,h2,h3,?_⟩;rcases h4 with h4|⟨b,off,c,e,fr,g1,g2,g3⟩
  ·exact .inl h4
  exact .inr ⟨b,off,c,e,fr,g1,hh _ _ g2,DReps.mono hh xs _ g3⟩
 |.sx n cap xs,x,r=>by
  simp only[DRep]at r ⊢;obtain⟨a,h1,h2,h3,h4⟩:=r;refine⟨a,h1,h2,h3,?_⟩;rcases h4 with h4|⟨b,off,c,e,fr,g1,g2,g3⟩
  ·exact .inl h4
  exact .inr ⟨b,off,c,e,fr,g1,hh _ _ g2,DReps.mono hh xs _ g3⟩
 |.ip xs,x,r=>by
  simp only[DRep]at r ⊢;obtain⟨b,off,c,e,fr,g1,g2,g3⟩:=r;exact⟨b,off,c,e,fr,g1,hh _ _ g2,DReps.mono hh xs _ g3⟩
 |.fn f caps,x,r=>by
  simp only[DRep]at r ⊢;obtain⟨lb,g1,g2,g3⟩:=r;exact⟨lb,g1,g2,DReps.mono hh caps _ g3⟩
 |.any,_,r=>by simpa only[DRep]using r
 |.mp a xs,x,r=>by
  simp only[DRep]at r ⊢;obtain⟨k,es,clk,l,g1,g2,g3,g4,g5,g6⟩:=r;exact⟨k,es,clk,l,g1,hh _ _ g2,g3,g4,g5,DReps.mono hh xs _ g6⟩
theorem DReps.mono{h h':Hp}(hh:Hle h h'):∀ (ds:List DV) (g:Nat->Option Value),DReps h ds g->DReps h' ds g
 | [],_,_=>by simp only[DReps]
 |x::xs,g,r=>by
  simp only[DReps]at r ⊢;obtain⟨⟨y,e,k⟩,r⟩:=r;exact⟨⟨y,e,DRep.mono hh x y k⟩,DReps.mono hh xs _ r⟩
end
theorem DReps.get{h:Hp}:∀ {ds:List DV} {g:Nat->Option Value},DReps h ds g->∀ (i:Nat) d,ds[i]?=some d->∃ y,g i=some y∧DRep h d y
 | [],_,_,i,d,e=>by simp at e
 |x::xs,g,r,i,d,e=>by
  simp only[DReps]at r;cases i with
  |zero=>simp at e;subst e;exact r.1
  |succ i=>exact DReps.get r.2 i d (by simpa using e)
theorem DReps.of_get{h:Hp}:∀ {ds:List DV} {g:Nat->Option Value},(∀ (i:Nat) d,ds[i]?=some d->∃ y,g i=some y∧DRep h d y)->DReps h ds g
 | [],_,_=>by simp only[DReps]
 |x::xs,g,r=>by
  simp only[DReps];exact⟨r 0 x (by simp),DReps.of_get fun i d e=>r (i+1) d (by simpa using e)⟩
theorem DReps.iff{h:Hp}{ds:List DV}{g:Nat->Option Value}:DReps h ds g↔∀ (i:Nat) d,ds[i]?=some d->∃ y,g i=some y∧DRep h d y :=
 ⟨fun r i d e=>r.get i d e,DReps.of_get⟩
theorem DRep.one{h:Hp}{d:DV}{x:Value}(r:DRep h d x):x.oneCell'=true:=by
 cases d with
 |v y=>simp only[DRep]at r;rw[r.1];exact r.2
 |sl n xs=>simp only[DRep]at r;obtain⟨a,cap,rfl,_⟩:=r;rfl
 |sx n cap xs=>simp only[DRep]at r;obtain⟨a,rfl,_⟩:=r;rfl
 |ip xs=>simp only[DRep]at r;obtain⟨b,off,c,e,fr,rfl,_⟩:=r;rfl
 |fn f caps=>simp only[DRep]at r;obtain⟨lb,rfl,_⟩:=r;rfl
 |mp a xs=>simp only[DRep]at r;obtain⟨k,es,clk,l,rfl,_⟩:=r;rfl
 |any=>simpa only[DRep]using r
inductive PV where
 |c (d:DV)
 |a (ds:List DV)
inductive AV where
 |p (v:PV)
 |t (vs:List PV)
 |loc (m off:Nat)
 |vec (m:Nat)
 |ip (xs:List DV)
 |ax (R:Hp->Value->Prop)
 |fn (f:FuncId) (caps:List (List DV))
 |fnl (f:FuncId) (m:Nat)
 |it (m:Nat)
 |axm (R:Hp->Value->Value->Prop) (m:Nat)
 |axl (R:Hp->List Value->Value->Prop) (ms:List Nat)
 |junk
def PRep(h:Hp):PV->Value->Prop
 |.c d,x=>DRep h d x
 |.a ds,x=>∃ cs:Array Value,x=.agg cs∧cs.size=ds.length∧DReps h ds fun i=>cs[i]?
def PReps(h:Hp):List PV->List Value->Prop
 | [],[]=>True
 |p::ps,x::xs=>PRep h p x∧PReps h ps xs
 |_,_=>False
def aD:Value->Option Nat
 |.pointer (some a)=>some a.block
 |.slice (some a) _ cap=>if cap=0 then none else some a.block
 |.map (some k)=>some k
 |_=>none
def isMap:Value->Bool
 |.map _=>true
 |_=>false
def IpRep(h:Hp)(xs:List DV)(x:Value):Prop:=∃ b off c e fr,x=.pointer (some ⟨b,off,none⟩)∧h b=some (.cells c e fr)∧DReps h xs fun i=>c[off+i]?
def CapsRep(h:Hp):List (List DV)->List Value->Prop
 | [],[]=>True
 |c::cs,x::xs=>IpRep h c x∧CapsRep h cs xs
 |_,_=>False
theorem IpRep.mono{h h':Hp}(hh:Hle h h'){xs:List DV}{x:Value}:IpRep h xs x->IpRep h' xs x
 |⟨b,off,c,e,fr,h1,h2,h3⟩=>⟨b,off,c,e,fr,h1,hh _ _ h2,DReps.mono hh _ _ h3⟩
theorem CapsRep.mono{h h':Hp}(hh:Hle h h'):∀ {cs:List (List DV)} {xs:List Value},CapsRep h cs xs->CapsRep h' cs xs
 | [],[],_=>trivial
 |_::_,_::_,k=>⟨k.1.mono hh,CapsRep.mono hh k.2⟩
 | [],_::_,k=>k.elim
 |_::_,[],k=>k.elim
def AVRep(h:Hp)(r:Nat->Value):AV->Value->Prop
 |.p v,x=>PRep h v x
 |.t vs,x=>∃ xs:List Value,x=.tuple xs.toArray∧PReps h vs xs
 |.loc m off,x=>∃ k,(aD (r m)=some k∧isMap (r m)=false)∧x=.pointer (some ⟨k,off,none⟩)
 |.vec m,x=>x=r m
 |.ip xs,x=>∃ b off c e fr,x=.pointer (some ⟨b,off,none⟩)∧h b=some (.cells c e fr)∧DReps h xs fun i=>c[off+i]?
 |.ax R,x=>∀ h',Hlf h h'->R h' x
 |.fn f caps,x=>∃ lb:Array Value,x=.func (.func f) #[] lb∧CapsRep h caps lb.toList
 |.fnl f m,x=>∃ k,aD (r m)=some k∧x=.func (.func f) #[] #[.pointer (some ⟨k,0,none⟩)]
 |.it m,x=>∃ k,r m=.map (some k)∧x=.pointer (some ⟨k,0,none⟩)
 |.axm R m,x=>∀ h',Hlf h h'->R h' (r m) x
 |.axl R ms,x=>∀ h',Hlf h h'->R h' (ms.map r) x
 |.junk,_=>True
theorem PRep.mono{h h':Hp}(hh:Hle h h'):∀ (v:PV) (x:Value),PRep h v x->PRep h' v x
 |.c d,x,r=>DRep.mono hh d x r
 |.a ds,_,⟨cs,e,s,r⟩=>⟨cs,e,s,DReps.mono hh ds _ r⟩
theorem PReps.mono{h h':Hp}(hh:Hle h h'):∀ (vs:List PV) (xs:List Value),PReps h vs xs->PReps h' vs xs
 | [],[],_=>trivial
 |p::ps,x::xs,r=>⟨PRep.mono hh p x r.1,PReps.mono hh ps xs r.2⟩
 | [],_::_,r=>r.elim
 |_::_,[],r=>r.elim
theorem AVRep.mono{h h':Hp}(hh:Hle h h'){r:Nat->Value}:∀ (v:AV) (x:Value),AVRep h r v x->AVRep h' r v x
 |.p v,x,k=>PRep.mono hh v x k
 |.t vs,_,⟨xs,e,k⟩=>⟨xs,e,PReps.mono hh vs xs k⟩
 |.loc _ _,_,k=>k
 |.vec _,_,k=>k
 |.ip xs,_,⟨b,off,c,e,fr,h1,h2,h3⟩=>⟨b,off,c,e,fr,h1,hh _ _ h2,DReps.mono hh xs _ h3⟩
 |.fn _ _,_,⟨lb,e,k⟩=>⟨lb,e,k.mono hh⟩
 |.fnl _ _,_,k=>k
 |.it _,_,k=>k
 |.axm _ _,_,k=>fun h'' hq=>k h'' fun i o ho e=>hq i o ho (hh i o e)
 |.axl _ _,_,k=>fun h'' hq=>k h'' fun i o ho e=>hq i o ho (hh i o e)
 |.ax _,_,k=>fun h'' hq=>k h'' fun i o ho e=>hq i o ho (hh i o e)
 |.junk,_,_=>trivial
def men:AV->List Nat
 |.loc m _=>[m]
 |.vec m=>[m]
 |.fnl _ m=>[m]
 |.it m=>[m]
 |.axm _ m=>[m]
 |.axl _ ms=>ms
 |_=>[]
theorem AVRep.rebind{h:Hp}{r r':Nat->Value}:∀ (v:AV) (x:Value),(∀ m∈men v,r' m=r m)->AVRep h r v x->AVRep h r' v x
 |.p _,_,_,k=>k
 |.t _,_,_,k=>k
 |.loc m off,x,e,⟨k,h1,h2⟩=>⟨k,by rw[e m (by simp[men])];exact h1,h2⟩
 |.vec m,x,e,k=>by show x=r' m;rw[e m (by simp[men])];exact k
 |.ip _,_,_,k=>k
 |.fn _ _,_,_,k=>k
 |.fnl f m,x,e,⟨k,h1,h2⟩=>⟨k,by rw[e m (by simp[men])];exact h1,h2⟩
 |.it m,x,e,⟨k,h1,h2⟩=>⟨k,by rw[e m (by simp[men])];exact h1,h2⟩
 |.axm R m,x,e,k=>fun h' hq=>by rw[e m (by simp[men])];exact k h' hq
 |.axl R ms,x,e,k=>fun h' hq=>by
  have:ms.map _=ms.map _:=Vy e;rw[this];exact k h' hq
 |.ax _,_,_,k=>k
 |.junk,_,_,_=>trivial
def Qh(h:Hp)(p:Nat×List Value):Prop:=∃ c e fr,h p.1=some (.cells c e fr)∧(c.size=p.2.length∧∀ (i:Nat) v,p.2[i]?=some v->c[i]?=some v)
def GlOK(h:Hp):Prop:=∀ p∈vf,Qh h p
theorem GlOK.mono{h h':Hp}(k:GlOK h)(hh:Hle h h'):GlOK h':=fun p hp=>by
 obtain⟨c,e,fr,h1,h2⟩:=k p hp;exact⟨c,e,fr,hh _ _ h1,h2⟩
structure Blk where
 vec:Bool
 sz:Nat
 e:TypeId
 cs:List DV
def lnk(b:Blk):List Nat:=bif b.vec then[]else match b.sz with
 |j+2=>[j]
 |_=>[]
def vc:Nat->List DV->Nat
 |_,[]=>0
 |i,.any::_=>i
 |i,_::l=>vc (i+1) l
def jE(cs:List DV):Nat:=vc 0 cs
def lkC(cs:List DV)(t:TypeId×Array Value)(v:Value):Array Value:=match cs with
 | [_]=>#[v]
 |_=>t.2.setIfInBounds (jE cs) v
def usz(b:Blk):Nat:=bif b.vec then b.sz else 1
def wH:Option Blk->List Nat
 |some b=>lnk b
 |none=>[]
theorem KH(b:Blk)(e:TypeId)(cs:List DV):lnk ⟨b.vec,usz b,e,cs⟩=[]:=by
 unfold lnk usz;cases b.vec <;> rfl
theorem js{b:Blk}(h:b.vec=true):lnk b=[]:=by unfold lnk;rw[h];rfl
def NK:List DV->List (Value×Value)
 |.v a :: .v b::l=>(a,b)::NK l
 |_=>[]
def MapRep(h:Hp)(w:World)(v:Value):List DV->Prop
 | [.mp a xs]=>∃ k es clk l,v=.map (some k)∧w.heap[k]?=some (.map es clk)∧iW es clk∧l.Perm es.toList∧xs.length=l.length*mw a∧DReps h xs (eT a l)
 | [.mp a cur,.mp _ left]=>∃ k m since seen c0,v=.map (some k)∧w.heap[k]?=some (.mapIter m since seen c0) ∧
   ((m=none∧cur=[]∧left=[])∨∃ b es clk l,m=some b∧h b=some (.map es clk)∧iW es clk∧since=clk∧c0=clk∧l.Perm (es.toList.filter fun e=>!seen.contains e.born)∧left.length=l.length*mw a∧DReps h left (eT a l) ∧
    (cur=[]∨∃ e,e∈es.toList∧seen.back?=some e.born∧cur.length=mw a∧DReps h cur (eT a [e])))
 | [.fn _ l]=>∃ k es clk,v=.map (some k)∧w.heap[k]?=some (.map es clk)∧es.toList.map (fun e=>(e.key,e.val))=NK l
 |_=>False
def BlkRep(h:Hp)(w:World)(v:Value)(b:Blk):Prop :=
 match b.vec with
 |false=>∃ k c,v=.pointer (some ⟨k,0,none⟩)∧w.heap[k]?=some (.cells c b.e (0,0))∧c.size=b.cs.length∧DReps h b.cs fun i=>c[i]?
 |true=>bif Nat.beq b.sz 0 then MapRep h w v b.cs else ∃ a n cap,v=.slice a n cap∧n*b.sz=b.cs.length∧n<=cap∧n<=140737488355328 ∧
   (cap=0∨∃ k c,a=some ⟨k,0,none⟩∧w.heap[k]?=some (.cells c b.e (0,0))∧c.size=cap*b.sz∧DReps h b.cs fun i=>c[i]?)
theorem BlkRep.slE{h:Hp}{w:World}{v:Value}{b:Blk}(hv:b.vec=true)(hs:0<b.sz):BlkRep h w v b↔∃ a n cap,v=.slice a n cap∧n*b.sz=b.cs.length∧n<=cap∧n<=140737488355328 ∧
   (cap=0∨∃ k c,a=some ⟨k,0,none⟩∧w.heap[k]?=some (.cells c b.e (0,0))∧c.size=cap*b.sz∧DReps h b.cs fun i=>c[i]?):=by
 have:Nat.beq b.sz 0=false:=by
  cases e:Nat.beq b.sz 0 with
  |false=>rfl
  |true=>exact absurd (UT e) (by omega)
 unfold BlkRep;rw[hv];simp only[this,cond_false]
theorem BlkRep.boxE{h:Hp}{w:World}{v:Value}{b:Blk}(hv:b.vec=false):BlkRep h w v b↔∃ k c,v=.pointer (some ⟨k,0,none⟩)∧w.heap[k]?=some (.cells c b.e (0,0))∧c.size=b.cs.length∧DReps h b.cs fun i=>c[i]?:=by
 unfold BlkRep;rw[hv]
theorem BlkRep.mpE{h:Hp}{w:World}{v:Value}{b:Blk}(hv:b.vec=true)(hs:b.sz=0):BlkRep h w v b↔MapRep h w v b.cs:=by
 unfold BlkRep;rw[hv,hs];exact Iff.rfl
theorem BlkRep.kinds(b:Blk):b.vec=false∨(b.vec=true∧0<b.sz)∨(b.vec=true∧b.sz=0):=by
 cases b.vec with
 |false=>exact .inl rfl
 |true =>
      rcases UI b.sz with h|h
      ·exact .inr (.inr ⟨rfl,h⟩)
      exact .inr (.inl ⟨rfl,h⟩)
theorem MapRep.isMap{h:Hp}{w:World}{v:Value}{cs:List DV}(k:MapRep h w v cs):∃ i,v=.map (some i):=by
 unfold MapRep at k;split at k
 ·obtain⟨i,_,_,_,e,_⟩:=k;exact⟨i,e⟩
 ·obtain⟨i,_,_,_,_,e,_⟩:=k;exact⟨i,e⟩
 ·obtain⟨i,_,_,e,_⟩:=k;exact⟨i,e⟩
 exact k.elim
theorem MapRep.mono{h h':Hp}(hh:Hle h h'){w:World}{v:Value}{cs:List DV}(k:MapRep h w v cs):MapRep h' w v cs:=by
 unfold MapRep at *;split at k
 ·obtain⟨k,es,clk,l,h1,h2,h3,h4,h5,h6⟩:=k;exact⟨k,es,clk,l,h1,h2,h3,h4,h5,DReps.mono hh _ _ h6⟩
 ·obtain⟨k,m,since,seen,c0,h1,h2,h3⟩:=k;refine⟨k,m,since,seen,c0,h1,h2,h3.imp id ?_⟩;rintro⟨b,es,clk,l,g1,g2,g3,g4,g5,g6,g7,g8,g9⟩;refine⟨b,es,clk,l,g1,hh _ _ g2,g3,g4,g5,g6,g7,DReps.mono hh _ _ g8,g9.imp id ?_⟩;rintro⟨e,f1,f2,f3,f4⟩;exact⟨e,f1,f2,f3,DReps.mono hh _ _ f4⟩
 ·exact k
 exact k.elim
theorem MapRep.world{h:Hp}{w w':World}{v:Value}{cs:List DV}(k:MapRep h w v cs)(e:∀ i,aD v=some i->w'.heap[i]?=w.heap[i]?):MapRep h w' v cs:=by
 unfold MapRep at *;split at k
 ·obtain⟨k,es,clk,l,rfl,h2,h3⟩:=k;exact⟨k,es,clk,l,rfl,by rw[e k rfl];exact h2,h3⟩
 ·obtain⟨k,m,since,seen,c0,rfl,h2,h3⟩:=k;exact⟨k,m,since,seen,c0,rfl,by rw[e k rfl];exact h2,h3⟩
 ·obtain⟨k,es,clk,rfl,h2,h3⟩:=k;exact⟨k,es,clk,rfl,by rw[e k rfl];exact h2,h3⟩
 exact k.elim
theorem MapRep.lt{h:Hp}{w:World}{v:Value}{cs:List DV}(k:MapRep h w v cs){i:Nat}(e:aD v=some i):i<w.heap.size:=by
 unfold MapRep at *;split at k
 ·obtain⟨k,es,clk,l,rfl,h2,h3⟩:=k;cases e;exact(K0.1 h2).1
 ·obtain⟨k,m,since,seen,c0,rfl,h2,h3⟩:=k;cases e;exact(K0.1 h2).1
 ·obtain⟨k,es,clk,rfl,h2,h3⟩:=k;cases e;exact(K0.1 h2).1
 exact k.elim
theorem BlkRep.mono{h h':Hp}(hh:Hle h h'){w:World}{v:Value}{b:Blk}(k:BlkRep h w v b):BlkRep h' w v b:=by
 rcases BlkRep.kinds b with hv|⟨hv,hs⟩|⟨hv,hs⟩
 ·rw[BlkRep.boxE hv]at k ⊢;obtain⟨k,c,h1,h2,h3,h4⟩:=k;exact⟨k,c,h1,h2,h3,DReps.mono hh _ _ h4⟩
 ·rw[BlkRep.slE hv hs]at k ⊢;obtain⟨a,n,cap,h1,h2,h3,h4,h5⟩:=k;refine⟨a,n,cap,h1,h2,h3,h4,?_⟩;rcases h5 with h5|⟨k,c,g1,g2,g3,g4⟩
  ·exact .inl h5
  exact .inr ⟨k,c,g1,g2,g3,DReps.mono hh _ _ g4⟩
 rw[BlkRep.mpE hv hs]at k ⊢;exact k.mono hh
theorem BlkRep.world{h:Hp}{w w':World}{v:Value}{b:Blk}(k:BlkRep h w v b)(e:∀ i,aD v=some i->w'.heap[i]?=w.heap[i]?):BlkRep h w' v b:=by
 rcases BlkRep.kinds b with hv|⟨hv,hs⟩|⟨hv,hs⟩
 ·rw[BlkRep.boxE hv]at k ⊢;obtain⟨k,c,rfl,h2,h3,h4⟩:=k;exact⟨k,c,rfl,by rw[e k rfl];exact h2,h3,h4⟩
 ·rw[BlkRep.slE hv hs]at k ⊢;obtain⟨a,n,cap,rfl,h2,h3,h4,h5⟩:=k;refine⟨a,n,cap,rfl,h2,h3,h4,?_⟩;by_cases hc:cap=0
  ·exact .inl hc
  rcases h5 with h5|⟨k,c,rfl,g2,g3,g4⟩
  ·exact .inl h5
  exact .inr ⟨k,c,rfl,by rw[e k (by simp[aD,hc])];exact g2,g3,g4⟩
 rw[BlkRep.mpE hv hs]at k ⊢;exact k.world e
theorem BlkRep.lt{h:Hp}{w:World}{v:Value}{b:Blk}(k:BlkRep h w v b){i:Nat}(e:aD v=some i):i<w.heap.size:=by
 rcases BlkRep.kinds b with hv|⟨hv,hs⟩|⟨hv,hs⟩
 ·rw[BlkRep.boxE hv]at k;obtain⟨k,c,rfl,h2,h3,h4⟩:=k;simp only[aD,Option.some.injEq]at e;subst e;exact(K0.1 h2).1
 ·rw[BlkRep.slE hv hs]at k;obtain⟨a,n,cap,rfl,h2,h3,h4,h5⟩:=k;rcases h5 with h5|⟨k,c,rfl,g2,g3,g4⟩
  ·subst h5;cases a <;> simp[aD]at e
  by_cases hc:cap=0
  ·simp[aD,hc]at e
  simp only[aD,hc,if_false,Option.some.injEq]at e;subst e;exact(K0.1 g2).1
 rw[BlkRep.mpE hv hs]at k;exact k.lt e
abbrev Own:=Nat->Option Blk
structure Ctx where
 w0:World
 h0:Hp
 F:Nat->Prop
 r0:Nat->Value
 np:Nat
 mar:Bool
def OutD(a b:World):Prop:=a.output=b.output∧True
theorem OutD.refl(a:World):OutD a a:=⟨rfl,trivial⟩
theorem OutD.trans{a b c:World}(h:OutD a b)(k:OutD b c):OutD a c:=⟨h.1.trans k.1,trivial⟩
structure WOK(C:Ctx)(h:Hp)(r:Nat->Value)(own:Own)(w:World):Prop where
 ow:∀ m b,own m=some b->BlkRep h w (r m) b
 inj:∀ m n k,own m≠none->own n≠none->aD (r m)=some k->aD (r n)=some k->m=n
 hi:∀ k o,h k=some o->w.heap[k]?=some o
 ho:∀ m k,own m≠none->aD (r m)=some k->h k=none
 os:w.os=C.w0.os
 tape:w.tape=C.w0.tape
 output:OutD w C.w0
 size:C.w0.heap.size<=w.heap.size
 old:∀ k,k<C.w0.heap.size->¬ C.F k->w.heap[k]?=C.w0.heap[k]?
 fo:∀ m k,own m≠none->aD (r m)=some k->C.w0.heap.size<=k∨C.F k
 hg:Hle C.h0 h
 hn:∀ k,h k≠none->C.h0 k≠none∨C.w0.heap.size<=k∨C.F k
 gl:GlOK h
 kp:∀ m,m<C.np->r m=C.r0 m
 lk:∀ m b j,own m=some b->j∈lnk b->∃ (k:Nat) (t:TypeId×Array Value),r m=.pointer (some ⟨k,0,none⟩)∧w.heap[k]?=some (.cells (lkC b.cs t (r j)) t.1 (0,0))
abbrev eR:=Nat->AV
structure St where
 regs:eR
 own:Own
def RegsOK(h:Hp)(r:Nat->Value)(regs:eR)(a:Act):Prop:=∀ t,AVRep h r (regs t) (a.tmps.getD t undef)
def Marks(C:Ctx)(h:Hp):List Deferred->Prop
 | []=>True
 |d::ds=>C.mar=true∧(∃ D,d={ target:=.collected D,args:=#[] }∧C.w0.heap.size<=D∧C.h0 D=none∧h D=some (.deferred (some []))∧∀ x∈ds,x.target≠.collected D)∧Marks C h ds
theorem Marks.mono{C:Ctx}{h h':Hp}(hh:Hle h h'):∀ {ds:List Deferred},Marks C h ds->Marks C h' ds
 | [],_=>trivial
 |_::_,⟨h0,⟨D,h1,h2,h3,h4,h5⟩,k⟩=>⟨h0,⟨D,h1,h2,h3,hh _ _ h4,h5⟩,k.mono hh⟩
structure Conc(C:Ctx)(N:Nat)(h:Hp)(r:Nat->Value)(s:St)(a:Act)(w:World):Prop where
 sz:a.tmps.size=N
 df:Marks C h a.defers
 rg:RegsOK h r s.regs a
 wk:WOK C h r s.own w
def upd{α:Type}(f:Nat->α)(k:Nat)(v:α):Nat->α:=fun t=>bif Nat.beq t k then v else f t
@[simp] theorem upd_same{α:Type}(f:Nat->α)(k:Nat)(v:α):upd f k v k=v:=by simp[upd]
theorem aj{α:Type}(f:Nat->α)(k:Nat)(v:α)(t:Nat)(h:t≠k):upd f k v t=f t:=by
 unfold upd;have:Nat.beq t k=false:=by
  cases e:Nat.beq t k with
  |false=>rfl
  |true=>exact absurd (UT e) h
 rw[this];rfl
theorem vp{α:Type}(f:Nat->α)(k:Nat)(v:α)(t:Nat):upd f k v t=if t=k then v else f t:=by
 by_cases h:t=k
 ·subst h;simp
 rw[aj _ _ _ _ h,G2 h]
def kE{α:Type}(f:Nat->α)(k:Option Nat)(v:α):Nat->α:=match k with
 |some k=>upd f k v
 |none=>f
theorem kD(xs:Array Value)(d t:Nat)(v:Value)(h:d<xs.size):(xs.setIfInBounds d v).getD t undef=if t=d then v else xs.getD t undef:=by
 simp only[Array.getD_eq_getD_getElem?,Array.getElem?_setIfInBounds];by_cases e:d=t
 ·subst e;simp[h]
 have e':¬ t=d:=fun x=>e x.symm
 simp[e,e']
theorem RegsOK.put{h:Hp}{r:Nat->Value}{regs:eR}{a:Act}(k:RegsOK h r regs a){dst:Option Nat}(hd:∀ d,dst=some d->d<a.tmps.size){v:AV}{x:Value}(hv:AVRep h r v x) :
  RegsOK h r (kE regs dst v) (a.put dst x):=by
 intro t;cases dst with
 |none=>exact k t
 |some d =>
  simp only[kE,vp,Act.put];rw[kD _ _ _ _ (hd d rfl)];split
  ·exact hv
  exact k t
theorem heap_alloc(w:World)(o:Obj)(k:Nat):(w.alloc o).heap[k]?=if k=w.heap.size then some o else w.heap[k]?:=by
 show(w.heap.push o)[k]?=_;rw[Array.getElem?_push]
theorem WOK.lt{C:Ctx}{h:Hp}{r:Nat->Value}{own:Own}{w:World}(k:WOK C h r own w){m i:Nat}(ho:own m≠none)(e:aD (r m)=some i):i<w.heap.size:=by
 cases hb:own m with
 |none=>exact absurd hb ho
 |some b=>exact(k.ow m b hb).lt e
theorem WOK.hlt{C:Ctx}{h:Hp}{r:Nat->Value}{own:Own}{w:World}(k:WOK C h r own w){i:Nat}{o:Obj}(e:h i=some o):i<w.heap.size :=
 (K0.1 (k.hi i o e)).1
theorem WOK.drew{C:Ctx}{h:Hp}{r:Nat->Value}{own:Own}{w:World}(k:WOK C h r own w):WOK C h r own { w with drawn:=w.drawn+1 } :=
 ⟨fun m b e=>(k.ow m b e).world fun _ _=>rfl,k.inj,k.hi,k.ho,k.os,k.tape,⟨k.output.1,trivial⟩,k.size,k.old,k.fo,k.hg,k.hn,k.gl,k.kp,k.lk⟩
theorem WOK.forget{C:Ctx}{h:Hp}{r:Nat->Value}{own own':Own}{w:World}(k:WOK C h r own w)(e:∀ m,own' m=own m∨own' m=none):WOK C h r own' w:=by
 have f:∀ m,own' m≠none->own m≠none:=fun m hm=>by
  rcases e m with e|e
  ·rw[<- e];exact hm
  exact absurd e hm
 refine⟨fun m b hb=>k.ow m b ?_,fun m n i hm hn=>k.inj m n i (f m hm) (f n hn),k.hi,fun m i hm=>k.ho m i (f m hm),k.os,k.tape,k.output,k.size,k.old,fun m i hm=>k.fo m i (f m hm),k.hg,k.hn,k.gl,k.kp,fun m b j hb=>k.lk m b j ?_⟩;all_goals
  rcases e m with e|e
  ·rw[<- e];exact hb
  rw[e]at hb;cases hb
theorem WOK.alloc{C:Ctx}{h:Hp}{r:Nat->Value}{own:Own}{w:World}(k:WOK C h r own w){d:Nat}(hd:own d=none)(hp:C.np<=d){o:Obj}{v:Value}{b:Blk}(hv:∀ i,aD v=some i->i=w.heap.size)(hb:BlkRep h (w.alloc o) v b)(hl:∀ m b,own m=some b->d ∉ lnk b)(hl0:lnk b=[]):WOK C h (upd r d v) (upd own d (some b)) (w.alloc o):=by
 have hs:(w.alloc o).heap.size=w.heap.size+1:=World.size_alloc w o;have old:∀ i,i<w.heap.size->(w.alloc o).heap[i]?=w.heap[i]?:=fun i hi=>by rw[heap_alloc,G2 (by omega)]
 have new:∀ m i,m≠d->upd own d (some b) m≠none->aD (upd r d v m)=some i->i<w.heap.size:=fun m i hm ho e=>by
  rw[aj _ _ _ _ hm]at ho e;exact k.lt ho e
 refine⟨?_,?_,?_,?_,k.os,k.tape,k.output,by rw[hs];exact Nat.le_succ_of_le k.size,?_,?_,k.hg,k.hn,k.gl,?_,?_⟩
 ·intro m b' e;by_cases hm:m=d
  ·subst hm;rw[upd_same]at e ⊢;cases e;exact hb
  rw[aj _ _ _ _ hm]at e ⊢;exact(k.ow m b' e).world fun i hi=>old i ((k.ow m b' e).lt hi)
 ·intro m n i hm hn e f;by_cases h1:m=d <;> by_cases h2:n=d
  ·rw[h1,h2]
  ·have:=new n i h2 hn f;subst h1;rw[upd_same]at e;have:=hv i e;omega
  ·have:=new m i h1 hm e;subst h2;rw[upd_same]at f;have:=hv i f;omega
  rw[aj _ _ _ _ h1]at hm e;rw[aj _ _ _ _ h2]at hn f;exact k.inj m n i hm hn e f
 ·intro i o' e;rw[old i (k.hlt e)];exact k.hi i o' e
 ·intro m i hm e;by_cases h1:m=d
  ·subst h1;rw[upd_same]at e;have:=hv i e;cases hh:h i with
   |none=>rfl
   |some o'=>have:=k.hlt hh;omega
  rw[aj _ _ _ _ h1]at hm e;exact k.ho m i hm e
 ·intro i hi hf;rw[old i (Vf hi k.size)];exact k.old i hi hf
 ·intro m i hm e;by_cases h1:m=d
  ·subst h1;rw[upd_same]at e;exact .inl (by rw[hv i e];exact k.size)
  rw[aj _ _ _ _ h1]at hm e;exact k.fo m i hm e
 ·intro m hm;rw[aj _ _ _ _ (by omega)];exact k.kp m hm
 intro m b' j e hj;by_cases hm:m=d
 ·subst hm;rw[upd_same]at e;cases e;rw[hl0]at hj;cases hj
 rw[aj _ _ _ _ hm]at e;obtain⟨q,t,h1,h2⟩:=k.lk m b' j e hj;have hjd:j≠d:=fun x=>hl m b' e (x▸hj)
 rw[aj _ _ _ _ hm,aj _ _ _ _ hjd];exact⟨q,t,h1,by rw[old q (K0.1 h2).1];exact h2⟩
theorem WOK.imm{C:Ctx}{h:Hp}{r:Nat->Value}{own:Own}{w:World}(k:WOK C h r own w)(o:Obj):WOK C (fun i=>if i=w.heap.size then some o else h i) r own (w.alloc o)∧Hle h (fun i=>if i=w.heap.size then some o else h i):=by
 have hs:(w.alloc o).heap.size=w.heap.size+1:=World.size_alloc w o;have old:∀ i,i<w.heap.size->(w.alloc o).heap[i]?=w.heap[i]?:=fun i hi=>by rw[heap_alloc,G2 (by omega)]
 have hle:Hle h (fun i=>if i=w.heap.size then some o else h i):=fun i o' e=>by
  have:=k.hlt e;show(if i=w.heap.size then some o else h i)=_;rw[G2 (by omega)];exact e
 refine⟨⟨?_,k.inj,?_,?_,k.os,k.tape,k.output,by rw[hs];exact Nat.le_succ_of_le k.size,?_,k.fo,k.hg.trans hle,?_,k.gl.mono hle,k.kp,fun m b j e hj=>let ⟨q,t,h1,h2⟩:=k.lk m b j e hj;⟨q,t,h1,by rw[old q (K0.1 h2).1];exact h2⟩⟩,hle⟩
 ·intro m b e;exact((k.ow m b e).mono hle).world fun i hi=>old i ((k.ow m b e).lt hi)
 ·intro i o' e;by_cases hi:i=w.heap.size
  ·subst hi;simp only[if_true,Option.some.injEq]at e;subst e;rw[heap_alloc,H2 rfl]
  simp only[hi,if_false]at e;rw[old i (k.hlt e)];exact k.hi i o' e
 ·intro m i hm e;have:=k.lt hm e;show(if i=w.heap.size then some o else h i)=none;rw[G2 (by omega)];exact k.ho m i hm e
 ·intro i hi hf;rw[old i (Vf hi k.size)];exact k.old i hi hf
 intro i e;by_cases hi:i=w.heap.size
 ·exact .inr (.inl (by rw[hi];exact k.size))
 simp only[hi,if_false]at e;exact k.hn i e
structure SameBut(i:Nat)(w w':World):Prop where
 os:w'.os=w.os
 tape:w'.tape=w.tape
 output:OutD w' w
 size:w'.heap.size=w.heap.size
 rest:∀ k,k≠i->w'.heap[k]?=w.heap[k]?
theorem SameBut.refl(i:Nat)(w:World):SameBut i w w:=⟨rfl,rfl,.refl _,rfl,fun _ _=>rfl⟩
theorem SameBut.trans{i:Nat}{a b c:World}(h:SameBut i a b)(k:SameBut i b c):SameBut i a c :=
 ⟨k.os.trans h.os,k.tape.trans h.tape,k.output.trans h.output,k.size.trans h.size,fun j hj=>(k.rest j hj).trans (h.rest j hj)⟩
theorem WOK.write{C:Ctx}{h:Hp}{r:Nat->Value}{own:Own}{w w':World}(k:WOK C h r own w){m i:Nat}(hm:own m≠none)(e:aD (r m)=some i)(hs:SameBut i w w'){b:Blk}(hb:BlkRep h w' (r m) b)(hl:∀ j∈lnk b,∃ (k:Nat) (t:TypeId×Array Value),r m=.pointer (some ⟨k,0,none⟩)∧w'.heap[k]?=some (.cells (lkC b.cs t (r j)) t.1 (0,0))) :
  WOK C h r (upd own m (some b)) w':=by
 have live:∀ n,upd own m (some b) n≠none->own n≠none:=fun n hn=>by
  by_cases h1:n=m
  ·rw[h1];exact hm
  rwa [aj _ _ _ _ h1]at hn
 refine⟨?_,fun n p j hn hp=>k.inj n p j (live n hn) (live p hp),?_,fun n j hn=>k.ho n j (live n hn),hs.os.trans k.os,hs.tape.trans k.tape,hs.output.trans k.output,by rw[hs.size];exact k.size,?_,fun n j hn=>k.fo n j (live n hn),k.hg,k.hn,k.gl,k.kp,?_⟩
 ·intro n b' hn;by_cases h1:n=m
  ·subst h1;rw[upd_same]at hn;cases hn;exact hb
  rw[aj _ _ _ _ h1]at hn;refine(k.ow n b' hn).world fun j hj=>hs.rest j fun hji=>h1 ?_
  subst hji;exact k.inj n m j (by rw[hn];simp) hm hj e
 ·intro j o hj;rw[hs.rest j fun hji=>?_]
  ·exact k.hi j o hj
  subst hji;rw[k.ho m j hm e]at hj;cases hj
 ·intro j hj hf;rw[hs.rest j fun hji=>?_]
  ·exact k.old j hj hf
  subst hji;rcases k.fo m j hm e with h1|h1
  ·omega
  exact hf h1
 intro n b' j hn hj;by_cases h1:n=m
 ·subst h1;rw[upd_same]at hn;cases hn;exact hl j hj
 rw[aj _ _ _ _ h1]at hn;obtain⟨q,t,e1,e2⟩:=k.lk n b' j hn hj;refine⟨q,t,e1,?_⟩;rw[hs.rest q fun hqi=>h1 ?_]
 ·exact e2
 subst hqi;exact k.inj n m q (by rw[hn];simp) hm (by rw[e1];rfl) e
theorem WOK.rename{C:Ctx}{h:Hp}{r:Nat->Value}{own:Own}{w:World}(k:WOK C h r own w){m d:Nat}(hm:own m≠none)(hd:own d=none)(hp:C.np<=d){v:Value}{b:Blk}(hv:∀ i,aD v=some i->aD (r m)=some i)(hb:BlkRep h w v b)(hl:∀ m b,own m=some b->d ∉ lnk b)(hl0:lnk b=[]):WOK C h (upd r d v) (upd (upd own m none) d (some b)) w:=by
 have live:∀ n,n≠d->upd (upd own m none) d (some b) n≠none->own n≠none∧n≠m:=fun n h1 hn=>by
  rw[aj _ _ _ _ h1]at hn;by_cases h2:n=m
  ·subst h2;simp at hn
  rw[aj _ _ _ _ h2]at hn;exact⟨hn,h2⟩
 refine⟨?_,?_,k.hi,?_,k.os,k.tape,k.output,k.size,k.old,?_,k.hg,k.hn,k.gl,?_,?_⟩
 ·intro n b' hn;by_cases h1:n=d
  ·subst h1;rw[upd_same]at hn ⊢;cases hn;exact hb
  obtain⟨h2,h3⟩:=live n h1 (by rw[hn];simp);rw[aj _ _ _ _ h1,aj _ _ _ _ h3]at hn;rw[aj _ _ _ _ h1];exact k.ow n b' hn
 ·intro n p i hn hpp e f;by_cases h1:n=d <;> by_cases h2:p=d
  ·rw[h1,h2]
  ·obtain⟨h3,h4⟩:=live p h2 hpp;subst h1;rw[upd_same]at e;rw[aj _ _ _ _ h2]at f;exact absurd (k.inj p m i h3 hm f (hv i e)) h4
  ·obtain⟨h3,h4⟩:=live n h1 hn;subst h2;rw[upd_same]at f;rw[aj _ _ _ _ h1]at e;exact absurd (k.inj n m i h3 hm e (hv i f)) h4
  rw[aj _ _ _ _ h1]at e;rw[aj _ _ _ _ h2]at f;exact k.inj n p i (live n h1 hn).1 (live p h2 hpp).1 e f
 ·intro n i hn e;by_cases h1:n=d
  ·subst h1;rw[upd_same]at e;exact k.ho m i hm (hv i e)
  rw[aj _ _ _ _ h1]at e;exact k.ho n i (live n h1 hn).1 e
 ·intro n i hn e;by_cases h1:n=d
  ·subst h1;rw[upd_same]at e;exact k.fo m i hm (hv i e)
  rw[aj _ _ _ _ h1]at e;exact k.fo n i (live n h1 hn).1 e
 ·intro n hn;rw[aj _ _ _ _ (by omega)];exact k.kp n hn
 intro n b' j hn hj;by_cases h1:n=d
 ·subst h1;rw[upd_same]at hn;cases hn;rw[hl0]at hj;cases hj
 obtain⟨h2,h3⟩:=live n h1 (by rw[hn];simp);rw[aj _ _ _ _ h1,aj _ _ _ _ h3]at hn;have hjd:j≠d:=fun x=>hl n b' hn (x▸hj)
 rw[aj _ _ _ _ h1,aj _ _ _ _ hjd];exact k.lk n b' j hn hj
theorem WOK.freeze{C:Ctx}{h:Hp}{r:Nat->Value}{own:Own}{w:World}(k:WOK C h r own w){m i:Nat}{o:Obj}(hm:own m≠none)(e:aD (r m)=some i)(ho:w.heap[i]?=some o) :
  WOK C (fun j=>if j=i then some o else h j) r (upd own m none) w∧Hle h (fun j=>if j=i then some o else h j):=by
 have hle:Hle h (fun j=>if j=i then some o else h j):=fun j o' hj=>by
  show(if j=i then some o else h j)=_;rw[G2 fun hji=>by subst hji;rw[k.ho m j hm e]at hj;cases hj];exact hj
 have live:∀ n,upd own m none n≠none->own n≠none∧n≠m:=fun n hn=>by
  by_cases h2:n=m
  ·subst h2;simp at hn
  rw[aj _ _ _ _ h2]at hn;exact⟨hn,h2⟩
 refine⟨⟨?_,fun n p j hn hp=>k.inj n p j (live n hn).1 (live p hp).1,?_,?_,k.os,k.tape,k.output,k.size,k.old,fun n j hn=>k.fo n j (live n hn).1,k.hg.trans hle,?_,k.gl.mono hle,k.kp,fun n b' j hn=>k.lk n b' j (by have h2:=(live n (by rw[hn];simp)).2;rwa [aj _ _ _ _ h2]at hn)⟩,hle⟩
 ·intro n b' hn;obtain⟨h1,h2⟩:=live n (by rw[hn];simp);rw[aj _ _ _ _ h2]at hn;exact(k.ow n b' hn).mono hle
 ·intro j o' hj;by_cases h1:j=i
  ·subst h1;simp only[if_true,Option.some.injEq]at hj;subst hj;exact ho
  simp only[h1,if_false]at hj;exact k.hi j o' hj
 ·intro n j hn hj;obtain⟨h1,h2⟩:=live n hn;show(if j=i then some o else h j)=none;rw[G2 fun hji=>by subst hji;exact h2 (k.inj n m j h1 hm hj e)];exact k.ho n j h1 hj
 intro j hj;by_cases h1:j=i
 ·subst h1;exact .inr (k.fo m j hm e)
 simp only[h1,if_false]at hj;exact k.hn j hj
theorem bJ(P:Program)(k:Nat)(e:TypeId):∀ (vs:List Value) (off i:Nat) (w:World) (c:Array Value),w.heap[k]?=some (.cells c e (0,0))->off+i+vs.length<=c.size->(∀ v∈vs,v.oneCell'=true) ->
  ∃ w' c',(storeCells ⟨k,off,none⟩ vs i).run P w=.ok () w'∧SameBut k w w'∧w'.heap[k]?=some (.cells c' e (0,0))∧c'.size=c.size ∧
   ∀ j,c'[j]?=if off+i<=j∧j<off+i+vs.length then vs[j-(off+i)]? else c[j]?
 | [],off,i,w,c,hk,_,_=>⟨w,c,by simp[storeCells],.refl _ _,hk,rfl,fun j=>by rw[G2 (by simp only[List.length_nil];omega)]⟩
 |v::vs,off,i,w,c,hk,hl,hv=>by
  have hadd:(⟨k,off,none⟩:Addr).add i=⟨k,off+i,none⟩:=Addr.add_lit k off i;simp only[List.length_cons]at hl;have hcell:w.cell? ⟨k,off+i,none⟩=some c[off+i]:=by
   simp only[World.cell?,hk];simp
  have hfr:w.frozen? ⟨k,off+i,none⟩=false:=by simp[World.frozen?,hk]
  have hset:(w.setCell ⟨k,off+i,none⟩ v).heap[k]?=some (.cells (c.setIfInBounds (off+i) v) e (0,0)):=by
   simp[World.setCell,Array.getElem?_modify,hk]
  obtain⟨w',c',h1,h2,h3,h4,h5⟩:=bJ P k e vs off (i+1) (w.setCell ⟨k,off+i,none⟩ v) (c.setIfInBounds (off+i) v) hset (by simp;omega) (fun u hu=>hv u (by simp[hu]));refine⟨w',c',?_,?_,h3,by simpa using h4,?_⟩
  ·simp only[storeCells,hadd,Sem.run_bind];rw[run_store P w _ v _ (hv v (by simp))];simp only[hcell,hfr];exact h1
  ·have h0:SameBut k w (w.setCell ⟨k,off+i,none⟩ v):=⟨rfl,rfl,.refl _,by simp,fun j hj=>by
    simp only[World.setCell,Array.getElem?_modify];rw[G2 (fun x=>hj x.symm)]⟩
   exact h0.trans h2
  intro j;rw[h5 j];simp only[Array.getElem?_setIfInBounds,List.length_cons];by_cases h6:j=off+i
  ·subst h6;rw[G2 (by omega),H2 (by omega),H2 (by omega)];simp
  by_cases h7:off+(i+1)<=j∧j<off+(i+1)+vs.length
  ·rw[H2 h7,H2 (by omega)];rw[show j-(off+i)=(j-(off+(i+1)))+1 by omega];simp
  rw[G2 h7,G2 (by omega),G2 (by omega)]
abbrev Chg:=List (Nat×Option Blk)
def cw(own:Own):Chg->Own
 | []=>own
 |(m,b)::l=>cw (upd own m b) l
def gJ(own:Own)(st:Chg)(al:Option Blk)(d:Nat):Own :=
 match al with
 |some b=>upd (cw own st) d (some b)
 |none=>cw own st
def Eff(P:Program)(o:Oper)(d:Nat)(ρ:Operand->AV)(own:Own)(v:AV)(st:Chg)(al:Option Blk)(rd:List Nat):Prop :=
 ∀ (C:Ctx) (h:Hp) (r:Nat->Value) (own':Own) (a:Act) (w:World) (K:Act->World->Prop) (Q:Exit->Act->World->Prop),
  (∀ x∈o.op.operands,AVRep h r (ρ x) (a.eval x))->(∀ m∈rd,own' m=own m)->WOK C h r own' w ->
  (al≠none->own' d=none∧C.np<=d∧∀ m b,own' m=some b->d ∉ lnk b) ->
  (∀ x h' r' w',Hle h h'->(∀ m,(al≠none->m≠d)->r' m=r m)->AVRep h' r' v x->WOK C h' r' (gJ own' st al d) w'->K (a.put o.dst x) w') ->
  o.wp P a w K Q
def pI:Value->AV
 |.agg cs=>bif cs.toList.all Value.oneCell' then .p (.a (cs.toList.map .v))else .junk
 |.tuple _=>.junk
 |v=>.p (.c (.v v))
def ev(regs:eR):Operand->AV
 |.tmp t=>regs t
 |.const v=>pI v
 |.global g=>.p (.c (.v (.pointer (some ⟨g,0,none⟩))))
 |.func f=>.p (.c (.v (.func (.func f) #[] #[])))
theorem ya(h:Hp)(r:Nat->Value)(v:Value):AVRep h r (pI v) v:=by
 cases v with
 |agg cs =>
  simp only[pI];cases hc:cs.toList.all Value.oneCell' with
  |false=>exact trivial
  |true =>
   refine⟨cs,rfl,by simp,?_⟩;rw[DReps.iff];intro i d hd;rw[UE]at hd;cases hx:cs.toList[i]? with
   |none=>rw[hx]at hd;cases hd
   |some x =>
    rw[hx]at hd;simp only[Option.map_some,Option.some.injEq]at hd;subst hd;refine⟨x,by simpa using hx,?_⟩;simp only[DRep,true_and];exact Uo.1 hc x (U8 hx)
 |tuple vs=>exact trivial
 |_=>simp only[pI,AVRep,PRep,DRep,true_and];rfl
theorem eL{h:Hp}{r:Nat->Value}{regs:eR}{a:Act}(k:RegsOK h r regs a)(x:Operand):AVRep h r (ev regs x) (a.eval x):=by
 cases x with
 |tmp t=>exact k t
 |const v=>exact ya h r v
 |global g=>simp only[ev,AVRep,PRep,DRep,Act.eval,true_and];rfl
 |func f=>simp only[ev,AVRep,PRep,DRep,Act.eval,true_and];rfl
def lE(st:Chg)(al:Option Blk):List Nat:=(st.flatMap fun x=>wH x.2)++wH al
structure Io where
 men:List Nat
 wr:List Nat
 rd:List Nat
 al:Bool
def kL(ops:Array Oper)(j:Nat):Option Nat:=(ops[j]?).bind (·.dst)
def cm(ops:Array Oper)(o:Oper)(regs:eR)(b:Bool):Prop :=
 match o.guard with
 |none=>b=true
 |some (j,want)=>∃ t,kL ops j=some t∧((∃ c,regs t=.p (.c (.v (.bool c)))∧(c==want)=b)∨(regs t=.t []∧b=false))
inductive Step(P:Program)(ops:Array Oper)(o:Oper)(s:St):St->Io->Prop
 |run (v:AV) (st:Chg) (al:Option Blk) (rd:List Nat) (hg:cm ops o s.regs true) (he:Eff P o (o.dst.getD 0) (ev s.regs) s.own v st al rd) (hd:al≠none->o.dst≠none) :
   Step P ops o s ⟨kE s.regs o.dst v,gJ s.own st al (o.dst.getD 0)⟩ ⟨men v++lE st al,st.map (·.1)++(if al.isSome then[o.dst.getD 0]else[]),rd,al.isSome⟩
 |skip (hg:cm ops o s.regs false):Step P ops o s ⟨kE s.regs o.dst (.t []),s.own⟩ ⟨[],[],[],false⟩
inductive Effs(P:Program)(ops:Array Oper):List Oper->St->List St->List Io->Prop
 |nil (s:St):Effs P ops [] s [] []
 |cons {o:Oper} {os:List Oper} {s s':St} {io:Io} {sts:List St} {ios:List Io} (h:Step P ops o s s' io) (hs:Effs P ops os s' sts ios):Effs P ops (o::os) s (s'::sts) (io::ios)
def fin(s:St)(sts:List St):St:=sts.getLastD s
def nth(s:St)(sts:List St)(k:Nat):St:=(s::sts).getD k s
def A9:Io:=⟨[],[],[],false⟩
theorem Effs.len{P:Program}{ops:Array Oper}{os:List Oper}{s:St}{sts:List St}{ios:List Io}(h:Effs P ops os s sts ios):sts.length=os.length∧ios.length=os.length:=by
 induction h with
 |nil=>exact⟨rfl,rfl⟩
 |cons _ _ ih=>exact⟨by simp[ih.1],by simp[ih.2]⟩
theorem mV{α:Type}(l:List α)(k:Nat)(d:α)(h:k<l.length):l.getD k d=l[k]:=by
 rw[As,Fl h];rfl
theorem Effs.nth{P:Program}{ops:Array Oper}{os:List Oper}{s:St}{sts:List St}{ios:List Io}(h:Effs P ops os s sts ios):∀ (i:Nat) (o:Oper),os[i]?=some o ->
  Step P ops o (nth s sts i) (nth s sts (i+1)) (ios.getD i A9):=by
 induction h with
 |nil=>intro i o e;simp at e
 | @cons o os s s' io sts ios h hs ih =>
  intro i o' e;cases i with
  |zero=>simp only[List.getElem?_cons_zero,Option.some.injEq]at e;subst e;exact h
  |succ i =>
   have:=ih i o' (by simpa using e);have hl:=hs.len.1;have hi:i<os.length:=by
    rcases Ut i os.length with h|h
    ·exact h
    simp only[List.getElem?_cons_succ,List.getElem?_eq_none h]at e;cases e
   have e1:AM.nth s (s'::sts) (i+1)=AM.nth s' sts i:=by
    simp only[AM.nth];rw[mV _ _ _ (by simp only[List.length_cons];omega),mV _ _ _ (by simp only[List.length_cons];omega)];rfl
   have e2:AM.nth s (s'::sts) (i+1+1)=AM.nth s' sts (i+1):=by
    simp only[AM.nth];rw[mV _ _ _ (by simp only[List.length_cons];omega),mV _ _ _ (by simp only[List.length_cons];omega)];rfl
   rw[e1,e2];simpa using this
theorem zu(s:St):∀ (sts:List St),nth s sts sts.length=fin s sts:=by
 intro sts;cases sts with
 |nil=>rfl
 |cons x xs =>
  simp only[nth,fin,List.length_cons,List.getD_cons_succ,List.getLastD_cons];rw[mV _ _ _ (by simp),List.getLastD_eq_getLast?,List.getLast?_eq_getElem?];cases xs with
  |nil=>simp
  |cons y ys=>simp
section cur
variable {α:Type}
def cur(f:Nat->α)(wrt S:Nat->Bool):Nat->α
 |0=>f 0
 |k+1=>if S k&&wrt k then f (k+1)else cur f wrt S k
theorem q8(f:Nat->α)(wrt S:Nat->Bool):∀ n,(∀ j,j<n->wrt j=true->S j=false)->cur f wrt S n=f 0
 |0,_=>rfl
 |n+1,h=>by
  have:(S n&&wrt n)=false:=by
   cases hw:wrt n with
   |false=>simp
   |true=>simp[h n (by omega) hw]
  simp only[cur,this];exact q8 f wrt S n fun j hj=>h j (by omega)
theorem oS(f:Nat->α)(wrt S:Nat->Bool)(i:Nat):∀ n,(∀ k,k<n->wrt k=false->f (k+1)=f k)->i<=n->(∀ j,j<i->wrt j=true->S j=true)->(∀ j,i<=j->j<n->wrt j=true->S j=false)->cur f wrt S n=f i
 |0,_,h,_,_=>by
  have:i=0:=by omega
  subst this;rfl
 |n+1,hf,h,h1,h2=>by
  by_cases hi:i=n+1
  ·subst hi;cases hw:wrt n with
   |true=>simp[cur,hw,h1 n (by omega) hw]
   |false =>
    simp only[cur,hw,Bool.and_false,Bool.false_eq_true,if_false];rw[oS f wrt S n n (fun k hk=>hf k (by omega)) (Iv _) (fun j hj=>h1 j (by omega)) (fun j hj hj'=>by omega),hf n (by omega) hw]
  have:(S n&&wrt n)=false:=by
   cases hw:wrt n with
   |false=>simp
   |true=>simp[h2 n (by omega) (by omega) hw]
  simp only[cur,this,Bool.false_eq_true,if_false];exact oS f wrt S i n (fun k hk=>hf k (by omega)) (by omega) h1 fun j hj hj'=>h2 j hj (by omega)
theorem kM(f:Nat->α)(wrt S:Nat->Bool)(i:Nat)(hi:wrt i=false):∀ n,cur f wrt (fun j=>S j||j==i) n=cur f wrt S n
 |0=>rfl
 |n+1=>by
  simp only[cur,kM f wrt S i hi n];by_cases h:n=i
  ·subst h;simp[hi]
  have:(n==i)=false:=by simp[h]
  simp[this]
theorem tu(f:Nat->α)(wrt S:Nat->Bool)(i:Nat)(hi:wrt i=true):∀ n,i<n->(∀ j,i<j->j<n->wrt j=true->S j=false)->cur f wrt (fun j=>S j||j==i) n=f (i+1)
 |0,h,_=>by omega
 |n+1,h,h2=>by
  by_cases e:n=i
  ·subst e;simp[cur,hi]
  have:((S n||n==i)&&wrt n)=false:=by
   have h0:(n==i)=false:=by simp[e]
   cases hw:wrt n with
   |false=>simp
   |true=>simp[h2 n (by omega) (by omega) hw,h0]
  simp only[cur,this,Bool.false_eq_true,if_false];exact tu f wrt S i hi n (by omega) fun j hj hj'=>h2 j hj (by omega)
theorem oR(f:Nat->α)(wrt S:Nat->Bool):∀ n,cur f wrt S n=f 0∨∃ j,j<n∧S j=true∧wrt j=true∧cur f wrt S n=f (j+1)
 |0=>.inl rfl
 |n+1=>by
  by_cases h:(S n&&wrt n)=true
  ·have h':=h;simp only[Bool.and_eq_true]at h';exact .inr ⟨n,by omega,h'.1,h'.2,by simp[cur,h']⟩
  simp only[cur,h];rcases oR f wrt S n with k|⟨j,h1,h2,h3,h4⟩
  ·exact .inl k
  exact .inr ⟨j,by omega,h2,h3,h4⟩
theorem Ag(f:Nat->α)(wrt S:Nat->Bool)(n:Nat)(hf:∀ i,i<n->wrt i=false->f (i+1)=f i)(h:∀ j,j<n->S j=true):cur f wrt S n=f n :=
 oS f wrt S n n hf (Iv _) (fun j hj _=>h j hj) (fun j h1 h2=>by omega)
end cur
def Ot(acc:List Nat)(o:Oper):Nat:=o.after.toList.foldl (fun s e=>if Region.binds .any e then s ||| 2^e.on ||| acc.getD e.on 0 else s) 0
def xR:List Oper->List Nat->List Nat
 | [],acc=>acc
 |o::os,acc=>xR os (acc++[Ot acc o])
def xS(os:List Oper):List Nat:=xR os []
structure Rec where
 rt:List Nat
 dst:Option Nat
 io:Io
def Bc(a b:List Nat):Bool:=a.any b.contains
def iU(x y:Rec):Bool :=
 (match x.dst with|some d=>y.rt.contains d||y.dst==some d|none=>false)||(match y.dst with|some d=>x.rt.contains d|none=>false) ||
 Bc x.io.wr (y.io.rd++y.io.wr++(if x.io.al then y.io.men else[]))||Bc x.io.rd y.io.wr
def jC:Rec:=⟨[],none,A9⟩
def fy(ops:Array Oper)(os:List Oper)(ios:List Io):List Rec:=(os.zip ios).map fun(o,io)=>⟨o.looksAt ops,o.dst,io⟩
def G5(o:Oper):Option Nat :=
 match o.op with
 |.box .. | .alloc _ | .makeSlice .. | .buildSlice .. | .makeMap .. | .makeFunc .. | .range ..=>o.dst
 |.call { callee:=.builtin .append,.. }=>o.dst
 |.call { callee:=.value (.func _),.. }=>o.dst
 |_=>none
def dA(os:List Oper):List Nat:=os.filterMap G5
def BB(np:Nat)(A:List Nat)(rs:List Rec):Bool :=
 (List.range rs.length).all fun i=>let x:=rs.getD i jC
  !x.io.al||(match x.dst with
   |some d=>A.contains d&&Nat.ble np d&&(List.range i).all fun j=>let y:=rs.getD j jC;!y.io.wr.contains d && !y.io.men.contains d
   |none=>false)
def xM(os:List Oper)(rs:List Rec):Bool :=
 (os.zipIdx.all fun(o,i)=>o.after.toList.all fun e=>!Region.binds .any e||Nat.blt e.on i) &&
 let bs:=xS os
 (List.range rs.length).all fun i=>(List.range i).all fun j=>!iU (rs.getD j jC) (rs.getD i jC)||(bs.getD i 0).testBit j
def jR(o:Oper):Bool:=match o.op with
 |.defer _=>false
 |_=>true
def BA(N:Nat)(os:List Oper):Bool:=os.all fun o=>(match o.dst with|some d=>Nat.blt d N|none=>true)&&jR o
theorem uk(acc:List Nat)(i:Nat):∀ (es:List Edge) (s:Nat),(es.foldl (fun s e=>if Region.binds .any e then s ||| 2^e.on ||| acc.getD e.on 0 else s) s).testBit i=true ->
  s.testBit i=true∨∃ e∈es,Region.binds .any e=true∧(e.on=i∨(acc.getD e.on 0).testBit i=true)
 | [],s,h=>.inl h
 |e::es,s,h=>by
  rcases uk acc i es _ h with k|⟨e',h1,h2,h3⟩
  ·dsimp only at k;by_cases hb:Region.binds .any e=true
   ·rw[H2 hb]at k;simp only[Nat.testBit_or,Bool.or_eq_true]at k;rcases k with(k|k)|k
    ·exact .inl k
    ·refine .inr ⟨e,by simp,hb,.inl ?_⟩;rw[Nat.testBit_two_pow]at k;simpa using k
    exact .inr ⟨e,by simp,hb,.inr k⟩
   rw[G2 hb]at k;exact .inl k
  exact .inr ⟨e',by simp[h1],h2,h3⟩
theorem qC(S:Nat->Bool):∀ (os:List Oper) (acc:List Nat),
  (∀ j i,(acc.getD j 0).testBit i=true->S j=true->S i=true) ->
  (∀ k o,os[k]?=some o->S (acc.length+k)=true->∀ e∈o.after.toList,Region.binds .any e=true->S e.on=true) ->
  ∀ j i,((xR os acc).getD j 0).testBit i=true->S j=true->S i=true
 | [],acc,h,_,j,i,hb,hj=>h j i hb hj
 |o::os,acc,h,h2,j,i,hb,hj=>by
  refine qC S os (acc++[Ot acc o]) ?_ ?_ j i hb hj
  ·intro j i hb hj;rcases Ut j acc.length with hl|hl
   ·rw[As,UQ hl,<- As]at hb;exact h j i hb hj
   by_cases he:j=acc.length
   ·subst he;rw[As,US (Iv _)]at hb;simp only[Nat.sub_self,List.getElem?_cons_zero,Option.getD_some]at hb;rcases uk acc i _ 0 hb with k|⟨e,h3,h4,h5⟩
    ·simp at k
    have hS:=h2 0 o (by simp) (by simpa using hj) e h3 h4;rcases h5 with h5|h5
    ·exact h5▸hS
    exact h _ _ h5 hS
   rw[As,UU (by simp;omega)]at hb;simp at hb
  intro k o' hk hS e he hbd;refine h2 (k+1) o' (by simpa using hk) ?_ e he hbd;simp only[List.length_append,List.length_cons,List.length_nil]at hS
  rwa [show acc.length+(k+1)=acc.length+(0+1)+k by omega]
theorem oY(S:Nat->Bool)(os:List Oper)(h:∀ k o,os[k]?=some o->S k=true->∀ e∈o.after.toList,Region.binds .any e=true->S e.on=true) :
  ∀ j i,((xS os).getD j 0).testBit i=true->S j=true->S i=true :=
 qC S os [] (fun j i hb=>by simp at hb) (fun k o hk hS=>h k o hk (by simpa using hS))
def fX(os:List Oper)(i:Nat):Option Nat:=(os[i]?).bind (·.dst)
def eA(ios:List Io)(i:Nat):Io:=ios.getD i A9
def cq(os:List Oper)(s:St)(sts:List St)(ios:List Io)(S:Nat->Bool):St :=
 ⟨fun t=>cur (fun k=>(nth s sts k).regs t) (fun i=>fX os i==some t) S os.length,fun m=>cur (fun k=>(nth s sts k).own m) (fun i=>(eA ios i).wr.contains m) S os.length⟩
theorem mz{st:Chg}:∀ {own:Own} {m:Nat},m ∉ st.map (·.1)->cw own st m=own m:=by
 induction st with
 |nil=>intro own m _;rfl
 |cons x l ih =>
  intro own m h;obtain⟨k,b⟩:=x;simp only[List.map_cons,List.mem_cons,not_or]at h;show cw (upd own k b) l m=_;rw[ih h.2,aj _ _ _ _ h.1]
theorem nY{st:Chg}:∀ {own own':Own} {m:Nat},(own m=own' m∨m∈st.map (·.1))->cw own st m=cw own' st m:=by
 induction st with
 |nil=>intro own own' m h;rcases h with h|h;exact h;simp at h
 |cons x l ih =>
  intro own own' m h;obtain⟨k,b⟩:=x;show cw (upd own k b) l m=cw (upd own' k b) l m;apply ih;by_cases hk:m=k
  ·subst hk;exact .inl (by simp)
  rcases h with h|h
  ·exact .inl (by rw[aj _ _ _ _ hk,aj _ _ _ _ hk,h])
  simp only[List.map_cons,List.mem_cons]at h;rcases h with h|h
  ·exact absurd h hk
  exact .inr h
def ni(st:Chg)(al:Option Blk)(d:Nat):List Nat:=st.map (·.1)++(if al.isSome then[d]else[])
theorem wy{own:Own}{st:Chg}{al:Option Blk}{d m:Nat}(h:m ∉ ni st al d):gJ own st al d m=own m:=by
 unfold ni at h;simp only[List.mem_append,not_or]at h;cases al with
 |none=>exact mz h.1
 |some b =>
  have:m≠d:=by simpa using h.2
  simp only[gJ];rw[aj _ _ _ _ this];exact mz h.1
theorem A7{own own':Own}{st:Chg}{al:Option Blk}{d m:Nat}(h:own m=own' m∨m∈ni st al d):gJ own st al d m=gJ own' st al d m:=by
 cases al with
 |none=>exact nY (by simpa[ni]using h)
 |some b =>
  simp only[gJ];by_cases hm:m=d
  ·subst hm;simp
  rw[aj _ _ _ _ hm,aj _ _ _ _ hm];apply nY;rcases h with h|h
  ·exact .inl h
  unfold ni at h;simp only[List.mem_append]at h;rcases h with h|h
  ·exact .inr h
  exact absurd (by simpa using h) hm
theorem jS{a b:List Nat}{m:Nat}(h:m∈a)(k:m∈b):Bc a b=true :=
 Wz.2 ⟨m,h,by simpa using k⟩
theorem rC{ops:Array Oper}{os:List Oper}{ios:List Io}(hl:ios.length=os.length){i:Nat}{o:Oper}(h:os[i]?=some o) :
  (fy ops os ios).getD i jC=⟨o.looksAt ops,o.dst,eA ios i⟩:=by
 have hi:i<os.length:=(Uu.1 h).1;have hi2:i<ios.length:=by omega
 unfold fy eA;have hz:(os.zip ios)[i]?=some (o,ios[i]):=List.getElem?_zip_eq_some.2 ⟨h,Fl hi2⟩;rw[As,UE,hz];rw[As,Fl hi2];rfl
structure Start(np N:Nat)(ops:Array Oper)(os:List Oper)(s:St)(ios:List Io):Prop where
 c0:BB np (dA os) (fy ops os ios)=true
 cD:BA N os=true
 own:∀ d∈dA os,s.own d=none
 men:∀ d∈dA os,∀ t,d ∉ men (s.regs t)
 lnk:∀ d∈dA os,∀ m b,s.own m=some b->d ∉ lnk b
theorem Start.new{np N:Nat}{ops:Array Oper}{os:List Oper}{s:St}{ios:List Io}(k:Start np N ops os s ios)(hl:ios.length=os.length){i:Nat}{o:Oper}(h:os[i]?=some o)(ha:(eA ios i).al=true) :
  ∃ d,o.dst=some d∧d∈dA os∧np<=d∧∀ j,j<i->d ∉ (eA ios j).wr∧d ∉ (eA ios j).men:=by
 have hi:i<os.length:=(Uu.1 h).1;have hr:(fy ops os ios).length=os.length:=by unfold fy;simp[hl]
 have h1:=Uo.1 k.c0 i (by rw[hr];simpa using hi);rw[rC hl h]at h1;simp only[ha,Bool.not_true,Bool.false_or]at h1;cases hd:o.dst with
 |none=>rw[hd]at h1;cases h1
 |some d =>
  rw[hd]at h1;simp only[Bool.and_eq_true]at h1;refine⟨d,rfl,by simpa using h1.1.1,bL0 h1.1.2,fun j hj=>?_⟩;have h2:=Uo.1 h1.2 j (by simpa using hj);have hj':j<os.length:=by omega
  rw[rC hl (Fl hj')]at h2;simpa using h2
theorem Step.io_wr{P:Program}{ops:Array Oper}{o:Oper}{s s':St}{io:Io}(h:Step P ops o s s' io):(∀ t,o.dst≠some t->s'.regs t=s.regs t)∧(∀ m,m ∉ io.wr->s'.own m=s.own m)∧(∀ t,o.dst=some t->men (s'.regs t) ⊆ io.men):=by
 cases h with
 |run v st al rd hg he hd =>
  refine⟨fun t ht=>?_,fun m hm=>wy hm,fun t ht=>?_⟩
  ·cases hdd:o.dst with
   |none=>rfl
   |some d=>simp only[kE];exact aj _ _ _ _ fun e=>ht (by rw[hdd,e])
  rw[ht];simp only[kE,upd_same];exact List.subset_append_left _ _
 |skip hg =>
  refine⟨fun t ht=>?_,fun m hm=>rfl,fun t ht=>?_⟩
  ·cases hdd:o.dst with
   |none=>rfl
   |some d=>simp only[kE];exact aj _ _ _ _ fun e=>ht (by rw[hdd,e])
  rw[ht];simp[kE,AM.men]
theorem FM{own:Own}{st:Chg}{al:Option Blk}{d m:Nat}{b:Blk}(hm:m∈ni st al d)(h:gJ own st al d m=some b):∀ j∈lnk b,j∈lE st al:=by
 intro j hj;unfold lE;have key:∀ (st:Chg) (own:Own),m∈st.map (·.1)->cw own st m=some b->j∈st.flatMap fun x=>wH x.2:=by
  intro st;induction st with
  |nil=>intro own h _;simp at h
  |cons x st ih =>
   obtain⟨n,c⟩:=x;intro own h1 h2;simp only[List.flatMap_cons,List.mem_append];by_cases h3:m∈st.map (·.1)
   ·exact .inr (ih _ h3 h2)
   simp only[List.map_cons,List.mem_cons]at h1;have h4:m=n:=h1.resolve_right h3;subst h4;simp only[cw]at h2;rw[mz h3,upd_same]at h2;subst h2;exact .inl hj
 cases al with
 |none =>
  unfold ni at hm;simp only[Option.isSome_none,Bool.false_eq_true,if_false,List.append_nil]at hm;exact XY _ (key st own hm h)
 |some c =>
  simp only[gJ]at h;by_cases h1:m=d
  ·subst h1;rw[upd_same]at h;cases h;exact List.mem_append_right _ hj
  rw[aj _ _ _ _ h1]at h;unfold ni at hm;simp only[Option.isSome_some,if_true,List.mem_append,List.mem_singleton]at hm;exact XY _ (key st own (hm.resolve_right h1) h)
theorem Step.io_lnk{P:Program}{ops:Array Oper}{o:Oper}{s s':St}{io:Io}(h:Step P ops o s s' io):∀ m b,m∈io.wr->s'.own m=some b->∀ j∈lnk b,j∈io.men:=by
 cases h with
 |run v st al rd hg he hd =>
  intro m b hm hb j hj;exact List.mem_append_right _ (FM hm hb j hj)
 |skip hg=>intro m b hm;simp at hm
theorem Step.wr_al{P:Program}{ops:Array Oper}{o:Oper}{s s':St}{io:Io}(h:Step P ops o s s' io)(ha:io.al=true):∀ d,o.dst=some d->d∈io.wr:=by
 cases h with
 |run v st al rd hg he hd =>
  intro d hd';simp only at ha;simp[hd',ha]
 |skip hg=>cases ha
theorem rn{h:Hp}{r:Nat->Value}{regs:eR}{a:Act}(k:RegsOK h r regs a){ops:Array Oper}{j t:Nat}{c:Bool}(ht:kL ops j=some t)(hr:regs t=.p (.c (.v (.bool c)))):yielded ops a.tmps j=some c:=by
 have h1:=k t;rw[hr]at h1;simp only[AVRep,PRep,DRep]at h1;have h2:a.tmps[t]?=some (.bool c):=by
  rw[VP]at h1;cases e:a.tmps[t]? with
  |none=>rw[e]at h1;simp[undef]at h1
  |some x=>rw[e]at h1;simp at h1;rw[h1.1]
 unfold kL at ht;unfold yielded;rw[ht];simp[h2]
theorem n4{h:Hp}{r:Nat->Value}{regs:eR}{a:Act}(k:RegsOK h r regs a){ops:Array Oper}{j t:Nat}(ht:kL ops j=some t)(hr:regs t=.t []):yielded ops a.tmps j=none:=by
 have h1:=k t;rw[hr]at h1;obtain⟨xs,h2,h3⟩:=h1;unfold kL at ht;unfold yielded;rw[ht];cases e:a.tmps[t]? with
 |none=>simp[e]
 |some x =>
  rw[VP,e]at h2;simp only[Option.getD_some]at h2;simp[e,h2]
def Wd(ro:Option Nat):Fence:={ fn:=fun _=>True,depth:=none,alive:=false,round:=ro }
theorem DN{ro:Option Nat}{n:Nat}{P:Program}{f:FuncId}{args:Array Value}{w:World}{R:Ending->World->Prop}(h:Calls P f args w R):CallsIn (Wd ro) n P f args w R:=(callsIn_wide (n:=n)).2 h
theorem mZ{n:Nat}{P:Program}{f:FuncId}{args:Array Value}{w:World}{R:Ending->World->Prop}(h:CallsIn (Wd none) n P f args w R):Calls P f args w R:=(callsIn_wide (n:=n)).1 h
theorem QP{ro:Option Nat}{n:Nat}{P:Program}{row:String}{args:Array Value}{w:World}{R:Value->World->Prop}(h:Rows P row args w R):RowsIn (Wd ro) n P row args w R :=
 fun c cs _=>let ⟨v,w',r,s⟩:=h c cs;⟨v,w',r,stepsIn_wide.2 s⟩
theorem jD{o:Oper}(h:jR o=true):∀ c,o.op≠.defer c:=fun c e=>by unfold jR at h;rw[e]at h;cases h
theorem nj{ro:Option Nat}{n:Nat}{P:Program}{o:Oper}{a:Act}{w:World}{K:Act->World->Prop}{Q:Exit->Act->World->Prop}(hd:∀ c,o.op≠.defer c)(h:o.wp P a w (fun a' w'=>K a' w'∧a'.defers=a.defers) Q):o.wpIn (Wd ro) n P a w K Q:=by
 refine⟨fun _ _=>trivial,?_⟩;rw[Oper.semAt_eq _ _ _ hd];unfold Oper.wp at h;generalize (execOp a.eval o).run P w=r at h ⊢;have hn:(Wd ro).depth.isSome=true->1<=n:=fun e=>by simp[Wd]at e
 cases r with
 |ok x w' =>
  cases x with
  |value v=>exact h.1
  |skip=>exact h.1
  |defer d =>
   have h2:(Act.put { a with defers:=d::a.defers } o.dst undef).defers=a.defers:=h.2;have h3:∀ dst,(Act.put { a with defers:=d::a.defers } dst undef).defers=d::a.defers:=fun dst=>by cases dst <;> rfl
   rw[h3]at h2;exact absurd (Ur List.length h2) (by simp)
  |enter f args =>
   refine⟨hn,DN (Calls.mono h ?_)⟩;intro e w' he;cases e with
   |returned v=>exact he.1
   |panicked ch=>exact he
   |outgrown=>exact he
  |row row args=>exact⟨hn,QP (Rows.mono h fun _ _ he=>he.1)⟩
  |_=>exact h.elim
 |halt x w' =>
  cases x with
  |panic v=>exact h
  |_=>exact h.elim
theorem vz{P:Program}{ops:Array Oper}{os:List Oper}{s:St}{sts:List St}{ios:List Io}{C:Ctx}{N:Nat}{h:Hp}{r:Nat->Value}{a:Act}{w:World}{S:Nat->Bool}{i:Nat}{o:Oper}{Q:Exit->Act->World->Prop}{K:Act->World->Prop}(hops:ops.toList=os)(hE:Effs P ops os s sts ios)(hst:Start C.np N ops os s ios)(hc:Conc C N h r (cq os s sts ios S) a w)(hi:os[i]?=some o)(hS:S i=false)(h1:∀ j,j<i->iU ((fy ops os ios).getD j jC) ((fy ops os ios).getD i jC)=true->S j=true)(h2:∀ j,i<j->j<os.length->iU ((fy ops os ios).getD i jC) ((fy ops os ios).getD j jC)=true->S j=false)(hK:∀ h' r' a' w',Conc C N h' r' (cq os s sts ios fun j=>S j||j==i) a' w'->K a' w'){ro:Option Nat}:wpOpIn (Wd ro) 0 P ops Q i K a w:=by
 have hlen:i<os.length:=(Uu.1 hi).1;obtain⟨hl1,hl2⟩:=hE.len;have hstep:=hE.nth i o hi;have R:=fun j (hj:j<os.length)=>rC (ops:=ops) (ios:=ios) hl2 (Fl hj)
 have Ri:=rC (ops:=ops) (ios:=ios) hl2 hi;have hio:=hstep.io_wr;have stR:∀ t k,k<os.length->(fX os k==some t)=false->(nth s sts (k+1)).regs t=(nth s sts k).regs t:=fun t k hk e=>by
  have:=(hE.nth k os[k] (Fl hk)).io_wr.1 t;refine this fun hd=>?_
  have:fX os k=some t:=by unfold fX;rw[Fl hk];exact hd
  simp[this]at e
 have stO:∀ m k,k<os.length->((eA ios k).wr.contains m)=false->(nth s sts (k+1)).own m=(nth s sts k).own m:=fun m k hk e =>
  (hE.nth k os[k] (Fl hk)).io_wr.2.1 m fun hm=>by
   have:(eA ios k).wr.contains m=true:=by simpa[eA]using hm
   rw[this]at e;cases e
 have seeR:∀ t∈o.looksAt ops,(cq os s sts ios S).regs t=(nth s sts i).regs t:=fun t ht=>by
  refine oS _ _ _ i _ (stR t) (by omega) (fun j hj hw=>?_) (fun j hj hj' hw=>?_)
  ·apply h1 j hj;have hjl:j<os.length:=by omega
   rw[R j hjl,Ri];have hd:os[j].dst=some t:=by unfold fX at hw;rw[Fl hjl]at hw;simpa using hw
   simp only[iU,hd,Bool.or_eq_true];exact .inl (.inl (.inl (.inl (by simpa using ht))))
  by_cases e:j=i
  ·subst e;exact hS
  apply h2 j (by omega) hj';rw[R j hj',Ri];have hd:os[j].dst=some t:=by unfold fX at hw;rw[Fl hj']at hw;simpa using hw
  simp only[iU,hd,Bool.or_eq_true];exact .inl (.inl (.inr (by simpa using ht)))
 have seeO:∀ m,m∈(eA ios i).rd∨m∈(eA ios i).wr->(cq os s sts ios S).own m=(nth s sts i).own m:=fun m hm=>by
  refine oS _ _ _ i _ (stO m) (by omega) (fun j hj hw=>?_) (fun j hj hj' hw=>?_)
  ·apply h1 j hj;rw[R j (by omega),Ri];simp only[iU,Bool.or_eq_true];refine .inl (.inr (jS (m:=m) (by simpa using hw) ?_));rcases hm with hm|hm <;> simp[hm]
  by_cases e:j=i
  ·subst e;exact hS
  apply h2 j (by omega) hj';rw[R j hj',Ri];simp only[iU,Bool.or_eq_true];rcases hm with hm|hm
  ·exact .inr (jS (m:=m) (by simp[hm]) (by simpa using hw))
  exact .inl (.inr (jS (m:=m) hm (by simp;exact .inr (.inl (by simpa using hw)))))
 have behR:∀ t,o.dst=some t->(cq os s sts ios fun j=>S j||j==i).regs t=(nth s sts (i+1)).regs t:=fun t ht=>by
  refine tu _ _ _ i ?_ _ hlen (fun j hj hj' hw=>?_)
  ·unfold fX;rw[hi];simp[ht]
  apply h2 j hj hj';rw[R j hj',Ri];have hd:os[j].dst=some t:=by unfold fX at hw;rw[Fl hj']at hw;simpa using hw
  simp only[iU,hd,ht,Bool.or_eq_true];exact .inl (.inl (.inl (.inr (by simp))))
 have othR:∀ t,o.dst≠some t->(cq os s sts ios fun j=>S j||j==i).regs t=(cq os s sts ios S).regs t:=fun t ht =>
  kM _ _ _ i (by unfold fX;rw[hi];simpa using ht) _
 have behO:∀ m,m∈(eA ios i).wr->(cq os s sts ios fun j=>S j||j==i).own m=(nth s sts (i+1)).own m:=fun m hm=>by
  refine tu _ _ _ i (by simpa using hm) _ hlen (fun j hj hj' hw=>?_);apply h2 j hj hj';rw[R j hj',Ri];simp only[iU,Bool.or_eq_true];exact .inl (.inr (jS (m:=m) hm (by simp;exact .inr (.inl (by simpa using hw)))))
 have othO:∀ m,m ∉ (eA ios i).wr->(cq os s sts ios fun j=>S j||j==i).own m=(cq os s sts ios S).own m:=fun m hm =>
  kM _ _ _ i (by simpa using hm) _
 have newN:(eA ios i).al=true->∃ d,o.dst=some d∧C.np<=d∧(cq os s sts ios S).own d=none∧(∀ t,d ∉ AM.men ((cq os s sts ios S).regs t))∧∀ m b,(cq os s sts ios S).own m=some b->d ∉ AM.lnk b:=fun ha=>by
  obtain⟨d,hd,hA,hnp,hj⟩:=hst.new hl2 hi ha;have hwr:d∈(eA ios i).wr:=hstep.wr_al ha d hd;refine⟨d,hd,hnp,?_,fun t ht=>?_,fun m b hb hlb=>?_⟩
  ·rw[seeO d (.inr hwr)];have:∀ k,k<=i->(nth s sts k).own d=s.own d:=by
    intro k;induction k with
    |zero=>intro _;rfl
    |succ k ih =>
     intro hk;rw[stO d k (by omega) (by have:=(hj k (by omega)).1;simpa using this)];exact ih (by omega)
   rw[this i (Iv _)];exact hst.own d hA
  ·rcases oR (fun k=>(nth s sts k).regs t) (fun i=>fX os i==some t) S os.length with e|⟨j,hj1,hj2,hj3,e⟩
   ·have:(cq os s sts ios S).regs t=s.regs t:=e;rw[this]at ht;exact hst.men d hA t ht
   have e':(cq os s sts ios S).regs t=(nth s sts (j+1)).regs t:=e;rw[e']at ht;have hdj:os[j].dst=some t:=by unfold fX at hj3;rw[Fl hj1]at hj3;simpa using hj3
   have hmen:=(hE.nth j os[j] (Fl hj1)).io_wr.2.2 t hdj ht;rcases XP j i with hlt|heq|hgt
   ·exact(hj j hlt).2 hmen
   ·subst heq;rw[hS]at hj2;cases hj2
   have:=h2 j hgt hj1 (by
    rw[R j hj1,Ri];simp only[iU,Bool.or_eq_true];exact .inl (.inr (jS (m:=d) hwr (by rw[ha];simp;exact .inr (.inr (by simpa[eA]using hmen))))))
   rw[this]at hj2;cases hj2
  rcases oR (fun k=>(nth s sts k).own m) (fun i=>(eA ios i).wr.contains m) S os.length with e|⟨j,hj1,hj2,hj3,e⟩
  ·have:(cq os s sts ios S).own m=s.own m:=e;rw[this]at hb;exact hst.lnk d hA m b hb hlb
  have e':(cq os s sts ios S).own m=(nth s sts (j+1)).own m:=e;rw[e']at hb;have hmen:=(hE.nth j os[j] (Fl hj1)).io_lnk m b (by simpa[eA]using hj3) hb d hlb;rcases XP j i with hlt|heq|hgt
  ·exact(hj j hlt).2 hmen
  ·subst heq;rw[hS]at hj2;cases hj2
  have:=h2 j hgt hj1 (by
   rw[R j hj1,Ri];simp only[iU,Bool.or_eq_true];exact .inl (.inr (jS (m:=d) hwr (by rw[ha];simp;exact .inr (.inr (by simpa[eA]using hmen))))))
  rw[this]at hj2;cases hj2
 have hdst:∀ d,o.dst=some d->d<a.tmps.size:=fun d hd=>by
  have:=Uo.1 hst.cD o (U8 hi);simp only[Bool.and_eq_true]at this
  replace this:=this.1
  rw[hd]at this;rw[hc.sz];exact Vf (bL0 this) (Iv _)
 have hop:ops[i]?=some o:=by rw[<- UJ,hops];exact hi
 have hnd:∀ c,o.op≠.defer c:=jD (by
  have:=Uo.1 hst.cD o (U8 hi);simp only[Bool.and_eq_true]at this;exact this.2)
 unfold wpOpIn;simp only[hop];have gt:∀ b j want,o.guard=some (j,want)->cm ops o (nth s sts i).regs b->Region.wanted o (yielded ops a.tmps)=b:=fun b j want hg hG=>by
  unfold cm at hG;rw[hg]at hG;obtain⟨t,g1,hG⟩:=hG;have hl:t∈o.looksAt ops:=by
   unfold Oper.looksAt;rw[hg];unfold kL at g1;simp[g1]
  rcases hG with⟨c,g2,g3⟩|⟨g2,g3⟩
  ·have:=rn hc.rg g1 (by rw[seeR t hl];exact g2);unfold Region.wanted;rw[hg];simp only[this];rw[<- g3];cases c <;> cases want <;> rfl
  have:=n4 hc.rg g1 (by rw[seeR t hl];exact g2);unfold Region.wanted;rw[hg];simp only[this];rw[g3];cases want <;> rfl
 have gn:∀ b,o.guard=none->cm ops o (nth s sts i).regs b->Region.wanted o (yielded ops a.tmps)=b:=fun b hg hG=>by
  unfold cm at hG;rw[hg]at hG;unfold Region.wanted;rw[hg,hG]
 have gall:∀ b,cm ops o (nth s sts i).regs b->Region.wanted o (yielded ops a.tmps)=b:=fun b hG=>by
  cases hg:o.guard with
  |none=>exact gn b hg hG
  |some x=>obtain⟨j,want⟩:=x;exact gt b j want hg hG
 cases hS1:(eA ios i)with
 |mk men_ wr_ rd_ al_ =>
 have hS2:ios.getD i A9=⟨men_,wr_,rd_,al_⟩:=hS1;rw[hS2]at hstep hio;rw[hS1]at seeO behO othO newN;generalize hs':nth s sts (i+1)=s' at *;cases hstep with
 |run v st al rd hg he hd =>
  rw[gall true hg,H2 rfl];refine nj hnd ?_;refine he C h r (cq os s sts ios S).own a w _ Q ?_ (fun m hm=>seeO m (.inl hm)) hc.wk ?_ ?_
  ·intro x hx;have e:ev (nth s sts i).regs x=ev (cq os s sts ios S).regs x:=by
    cases x with
    |tmp t=>exact(seeR t (by unfold Oper.looksAt;exact XY _ (List.mem_filterMap.2 ⟨.tmp t,by simpa using hx,rfl⟩))).symm
    |_=>rfl
   rw[e];exact eL hc.rg x
  ·intro ha;obtain⟨d,e1,e2,e3,e4,e5⟩:=newN (by cases al <;> simp_all);rw[e1];exact⟨e3,e2,e5⟩
  intro x h' r' w' hle hr hv hw;refine⟨hK h' r' _ w' ⟨?_,?_,?_,?_⟩,by cases o.dst <;> rfl⟩
  ·rw[<- hc.sz];cases o.dst <;> simp[Act.put]
  ·have:=hc.df.mono hle;cases o.dst <;> simpa[Act.put]using this
  ·have old:RegsOK h' r' (cq os s sts ios S).regs a:=fun t=>by
    refine AVRep.rebind _ _ (fun m hm=>?_) (AVRep.mono hle _ _ (hc.rg t));apply hr;intro ha hmd;obtain⟨d,e1,e2,e3,e4,e5⟩:=newN (by cases al <;> simp_all);rw[e1]at hmd;subst hmd;exact e4 t hm
   have:=old.put (dst:=o.dst) hdst hv;intro t;have k:=this t;by_cases ht:o.dst=some t
   ·rw[behR t ht];simp only[ht,kE,upd_same]at k ⊢;exact k
   rw[othR t ht];cases hdd:o.dst with
   |none=>rw[hdd]at k;exact k
   |some d =>
    rw[hdd]at k ht;simp only[kE]at k
    rwa [aj _ _ _ _ (fun e=>ht (by rw[e]))]at k
  have e:(cq os s sts ios fun j=>S j||j==i).own=gJ (cq os s sts ios S).own st al (o.dst.getD 0):=by
   funext m
   by_cases hm:m∈ni st al (o.dst.getD 0)
   ·rw[behO m hm];exact A7 (.inr hm)
   rw[othO m hm,wy hm]
  rw[e];exact hw
 |skip hg =>
  rw[gall false hg,G2 (by simp)];refine⟨fun _ _=>trivial,?_⟩;refine hK h r _ w ⟨?_,?_,?_,?_⟩
  ·rw[<- hc.sz];cases o.dst <;> simp[Act.put]
  ·have:=hc.df;cases o.dst <;> simpa[Act.put]using this
  ·have:=hc.rg.put (dst:=o.dst) hdst (v:=.t []) (x:=undef) ⟨[],rfl,trivial⟩;intro t;have k:=this t;by_cases ht:o.dst=some t
   ·rw[behR t ht];simp only[ht,kE,upd_same]at k ⊢;exact k
   rw[othR t ht];cases hdd:o.dst with
   |none=>rw[hdd]at k;exact k
   |some d =>
    rw[hdd]at k ht;simp only[kE]at k
    rwa [aj _ _ _ _ (fun e=>ht (by rw[e]))]at k
  have e:(cq os s sts ios fun j=>S j||j==i).own=(cq os s sts ios S).own:=by
   funext m
   exact othO m (by simp)
  rw[e];exact hc.wk
theorem iN{os:List Oper}{s:St}{sts:List St}{ios:List Io}{S T:Nat->Bool}(h:∀ j,S j=T j):cq os s sts ios S=cq os s sts ios T:=by
 have:S=T:=funext h;rw[this]
theorem nL(os:List Oper)(s:St)(sts:List St)(ios:List Io):cq os s sts ios (fun _=>false)=s:=by
 have h1:(fun t=>cur (fun k=>(nth s sts k).regs t) (fun i=>fX os i==some t) (fun _=>false) os.length)=s.regs:=funext fun t=>q8 _ _ _ _ (fun _ _ _=>rfl)
 have h2:(fun m=>cur (fun k=>(nth s sts k).own m) (fun i=>(eA ios i).wr.contains m) (fun _=>false) os.length)=s.own:=funext fun m=>q8 _ _ _ _ (fun _ _ _=>rfl)
 unfold cq;rw[h1,h2]
theorem oT{P:Program}{ops:Array Oper}{os:List Oper}{s:St}{sts:List St}{ios:List Io}(hE:Effs P ops os s sts ios){S:Nat->Bool}(h:∀ j,j<os.length->S j=true):cq os s sts ios S=fin s sts:=by
 have hl:=hE.len.1;have h1:(fun t=>cur (fun k=>(nth s sts k).regs t) (fun i=>fX os i==some t) S os.length)=(fin s sts).regs:=funext fun t=>by
  rw[Ag _ _ _ _ (fun i hi e=>(hE.nth i os[i] (Fl hi)).io_wr.1 t (fun hd=>by
   have:fX os i=some t:=by unfold fX;rw[Fl hi];exact hd
   simp[this]at e)) h]
  show(nth s sts os.length).regs t=_;rw[<- hl,zu]
 have h2:(fun m=>cur (fun k=>(nth s sts k).own m) (fun i=>(eA ios i).wr.contains m) S os.length)=(fin s sts).own:=funext fun m=>by
  rw[Ag _ _ _ _ (fun i hi e=>(hE.nth i os[i] (Fl hi)).io_wr.2.1 m (fun hm=>by
   have:(eA ios i).wr.contains m=true:=by simpa[eA]using hm
   rw[this]at e;cases e)) h]
  show(nth s sts os.length).own m=_;rw[<- hl,zu]
 unfold cq;rw[h1,h2]
theorem Fw{ro:Option Nat}{P:Program}{ops:Array Oper}{os:List Oper}{s:St}{sts:List St}{ios:List Io}{C:Ctx}{N:Nat}{Q:Exit->Act->World->Prop}(hops:ops.toList=os)(hE:Effs P ops os s sts ios)(hst:Start C.np N ops os s ios)(hQ:∀ h r a w,Conc C N h r (fin s sts) a w->Q .normal a w) :
  ∀ (n i:Nat),i+n=os.length->∀ h r a w,Conc C N h r (cq os s sts ios fun j=>Nat.blt j i) a w->wpOpsIn (Wd ro) 0 P ops Q (List.range' i n) a w:=by
 intro n;induction n with
 |zero =>
  intro i hi h r a w hc;rw[oT hE (fun j hj=>by show Nat.blt j i=true;rw[WR];omega)]at hc;exact hQ h r a w hc
 |succ n ih =>
  intro i hi h r a w hc;rw[V8,wpOpsIn_cons];have hlt:i<os.length:=by omega
  refine vz hops hE hst hc (Fl hlt) ?_ ?_ ?_ ?_
  ·show Nat.blt i i=false;cases e:Nat.blt i i with
   |false=>rfl
   |true=>rw[WR]at e;omega
  ·intro j hj _;show Nat.blt j i=true;rw[WR];exact hj
  ·intro j hj _ _;show Nat.blt j i=false;cases e:Nat.blt j i with
   |false=>rfl
   |true=>rw[WR]at e;omega
  intro h' r' a' w' hc';refine ih (i+1) (by omega) h' r' a' w' ?_;rw[iN (T:=fun j=>Nat.blt j i||j==i)]
  ·exact hc'
  intro j;show Nat.blt j (i+1)=(Nat.blt j i||j==i);rw[Vg];simp only[Nat.blt_eq,Bool.or_eq_true,beq_iff_eq];omega
theorem eD{ops:Array Oper}{listed:Array Bool}{i:Nat}:i∈Region.ready .any ops listed↔i<ops.size∧listed.getD i true=false∧∃ o,ops[i]?=some o∧∀ e∈o.after.toList,Region.binds .any e=true->listed.getD e.on false=true:=by
 unfold Region.ready;rw[VG];simp only[List.mem_range,Bool.and_eq_true,Bool.not_eq_true'];constructor
 ·rintro⟨h1,h2,h3⟩;refine⟨h1,h2,ops[i],UR h1,?_⟩;rw[UR h1]at h3;simp only[Option.map_some,Option.getD_some]at h3;intro e he hb;rw[<- Array.all_toList]at h3;have:=Uo.1 h3 e he;simpa[hb]using this
 rintro⟨h1,h2,o,h3,h4⟩;refine⟨h1,h2,?_⟩;rw[h3];simp only[Option.map_some,Option.getD_some];rw[<- Array.all_toList,Uo];intro e he;cases hb:Region.binds .any e with
 |false=>simp
 |true=>simpa[hb]using h4 e he hb
theorem cH(l:Array Bool)(i j:Nat)(hi:i<l.size):(l.setIfInBounds i true).getD j false=(l.getD j false||j==i):=by
 simp only[Array.getD_eq_getD_getElem?,Array.getElem?_setIfInBounds];by_cases e:i=j
 ·subst e;simp[hi]
 have e':(j==i)=false:=by simp;exact fun x=>e x.symm
 simp[e,e']
def left(l:Array Bool)(n:Nat):Nat:=((List.range n).filter fun i=>!l.getD i false).length
theorem wJ(l:Array Bool)(n i:Nat)(hi:i<n)(hs:i<l.size)(h:l.getD i false=false):left (l.setIfInBounds i true) n+1=left l n:=by
 unfold left;have key:∀ (ks:List Nat),ks.Nodup->i∈ks->(ks.filter fun j=>!(l.setIfInBounds i true).getD j false).length+1=(ks.filter fun j=>!l.getD j false).length:=by
  intro ks;induction ks with
  |nil=>intro _ hm;simp at hm
  |cons k ks ih =>
   intro hnd hm;rw[Wu]at hnd;by_cases e:k=i
   ·subst e;have e1:(ks.filter fun j=>!(l.setIfInBounds k true).getD j false)=ks.filter fun j=>!l.getD j false:=by
     apply VV;intro j hj;rw[cH _ _ _ hs];have:(j==k)=false:=by simp;exact fun x=>hnd.1 (x▸hj)
     simp[this]
    rw[V9,V9,cH _ _ _ hs,e1];simp[h]
   have hm':i∈ks:=by
    rcases Vh.1 hm with hm|hm
    ·exact absurd hm.symm e
    exact hm
   have:=ih hnd.2 hm';have ek:(k==i)=false:=by simp[e]
   have e2:(l.setIfInBounds i true).getD k false=l.getD k false:=by rw[cH _ _ _ hs,ek,Bool.or_false]
   rw[V9,V9,e2];cases hb:(!l.getD k false)with
   |true=>simp only[if_true,List.length_cons];omega
   |false=>simpa using this
 exact key _ List.nodup_range (by simpa using hi)
theorem zk{ro:Option Nat}{P:Program}{ops:Array Oper}{os:List Oper}{s:St}{sts:List St}{ios:List Io}{C:Ctx}{N:Nat}{Q:Exit->Act->World->Prop}(hops:ops.toList=os)(hE:Effs P ops os s sts ios)(hst:Start C.np N ops os s ios)(hk:xM os (fy ops os ios)=true)(hQ:∀ h r a w,Conc C N h r (fin s sts) a w->Q .normal a w) :
  ∀ (n:Nat) (listed:Array Bool),listed.size=os.length->left listed os.length=n->(∀ k o,os[k]?=some o->listed.getD k false=true->∀ e∈o.after.toList,Region.binds .any e=true->listed.getD e.on false=true) ->
   ∀ h r a w,Conc C N h r (cq os s sts ios fun j=>listed.getD j false) a w->wpAnyIn (Wd ro) 0 P .any ops Q n listed a w:=by
 have hsz:ops.size=os.length:=by rw[<- hops];simp
 unfold xM at hk;simp only[Bool.and_eq_true]at hk;obtain⟨hk1,hk2⟩:=hk;have edge:∀ k o,os[k]?=some o->∀ e∈o.after.toList,Region.binds .any e=true->e.on<k:=fun k o ho e he hb=>by
  have:=Uo.1 hk1 (o,k) (by rw[List.mem_zipIdx_iff_getElem?];exact ho);have:=Uo.1 this e he;simp only[hb,Bool.not_true,Bool.false_or,Nat.blt_eq]at this;exact this
 have hrl:(fy ops os ios).length=os.length:=by unfold fy;simp[hE.len.2]
 have before:∀ i j,i<os.length->j<i->iU ((fy ops os ios).getD j jC) ((fy ops os ios).getD i jC)=true->((xS os).getD i 0).testBit j=true:=fun i j hi hj hc=>by
  have h1:=Uo.1 hk2 i (by rw[hrl];simpa using hi);have h2:=Uo.1 h1 j (by simpa using hj);rw[hc]at h2;simpa only[Bool.not_true,Bool.false_or]using h2
 have bdec:∀ (l:Array Bool),l.size=os.length->∀ i,i<os.length->(l.getD i true=false↔l.getD i false=false):=fun l hl i hi=>by
  simp only[Array.getD_eq_getD_getElem?];rw[UR (by omega)];simp
 have done:∀ (listed:Array Bool),listed.size=os.length->Region.ready .any ops listed=[]->∀ i,i<os.length->listed.getD i false=true:=by
  intro listed hl hr i;induction i using Nat.strongRecOn with
  |_ i ih =>
   intro hi;cases hb:listed.getD i false with
   |true=>rfl
   |false =>
    have:i∈Region.ready .any ops listed:=by
     rw[eD];refine⟨by omega,(bdec listed hl i hi).2 hb,os[i],by rw[<- UJ,hops];exact Fl hi,fun e he hbd=>?_⟩;have:=edge i os[i] (Fl hi) e he hbd;exact ih e.on this (by omega)
    rw[hr]at this;simp at this
 intro n;induction n with
 |zero =>
  intro listed hl hn hcl h r a w hc;have all:∀ i,i<os.length->listed.getD i false=true:=fun i hi=>by
   cases hb:listed.getD i false with
   |true=>rfl
   |false =>
    have:i∈(List.range os.length).filter fun i=>!listed.getD i false:=by rw[VG];exact⟨by simpa using hi,by simpa using hb⟩
    have h0:(List.range os.length).filter (fun i=>!listed.getD i false)=[]:=Ux hn;rw[h0]at this;simp at this
  refine⟨?_,?_⟩
  ·cases hr:Region.ready .any ops listed with
   |nil=>rfl
   |cons i rest =>
    have:i∈Region.ready .any ops listed:=by rw[hr];simp
    rw[eD]at this;have h2:=(bdec listed hl i (by omega)).1 this.2.1;rw[all i (by omega)]at h2;cases h2
  rw[oT hE all]at hc;exact hQ h r a w hc
 |succ n ih =>
  intro listed hl hn hcl h r a w hc;refine⟨fun hr=>?_,fun i hir=>?_⟩
  ·rw[oT hE (done listed hl hr)]at hc;exact hQ h r a w hc
  rw[eD]at hir;obtain⟨h1,h2,o,h3,h4⟩:=hir;have hi:i<os.length:=by omega
  have hio:os[i]?=some o:=by rw[<- hops,UJ];exact h3
  have h2':=(bdec listed hl i hi).1 h2;have cl':∀ k o',os[k]?=some o'->(listed.setIfInBounds i true).getD k false=true->∀ e∈o'.after.toList,Region.binds .any e=true->(listed.setIfInBounds i true).getD e.on false=true:=by
   intro k o' hk hS e he hb;rw[cH _ _ _ (by omega)]at hS ⊢;simp only[Bool.or_eq_true,beq_iff_eq]at hS ⊢;rcases hS with hS|hS
   ·exact .inl (hcl k o' hk hS e he hb)
   subst hS;rw[hio]at hk;cases hk;exact .inl (h4 e he hb)
  refine vz hops hE hst hc hio h2' ?_ ?_ ?_
  ·intro j hj hcf;have hb:=before i j hi hj hcf;have:=oY (fun k=>(listed.setIfInBounds i true).getD k false) os cl' i j hb (by show(listed.setIfInBounds i true).getD i false=true;rw[cH _ _ _ (by omega)];simp);rw[cH _ _ _ (by omega)]at this;have hne:(j==i)=false:=by simp;omega
   simpa[hne]using this
  ·intro j hj hjl hcf;have hb:=before j i hjl hj hcf;cases hS:listed.getD j false with
   |false=>rfl
   |true =>
    have:=oY (fun k=>listed.getD k false) os hcl j i hb hS;rw[h2']at this;cases this
  intro h' r' a' w' hc';refine ih (listed.setIfInBounds i true) (by simp[hl]) ?_ cl' h' r' a' w' ?_
  ·have:=wJ listed os.length i hi (by omega) h2';omega
  rw[iN (T:=fun j=>listed.getD j false||j==i)]
  ·exact hc'
  intro j;exact cH _ _ _ (by omega)
def fV(A:List Nat):AV->AV
 |.loc m o=>bif A.contains m then .junk else .loc m o
 |.vec m=>bif A.contains m then .junk else .vec m
 |.fnl f m=>bif A.contains m then .junk else .fnl f m
 |.it m=>bif A.contains m then .junk else .it m
 |.axm R m=>bif A.contains m then .junk else .axm R m
 |.axl R ms=>bif ms.any A.contains then .junk else .axl R ms
 |v=>v
def dp(A:List Nat)(b:Blk):Blk:=bif (lnk b).any A.contains then⟨b.vec,1,b.e,b.cs⟩else b
def iS(A:List Nat):Option Blk->Option Blk
 |some b=>some (dp A b)
 |none=>none
def bt(A:List Nat)(s:St):St :=
 match A with
 | []=>s
 |_=>⟨fun t=>fV A (s.regs t),fun m=>bif A.contains m then none else iS A (s.own m)⟩
theorem C9{h:Hp}{r:Nat->Value}{A:List Nat}:∀ (v:AV) (x:Value),AVRep h r v x->AVRep h r (fV A v) x
 |.loc m o,x,k=>by simp only[fV];cases A.contains m <;> first|exact k|trivial
 |.vec m,x,k=>by simp only[fV];cases A.contains m <;> first|exact k|trivial
 |.fnl _ m,x,k=>by simp only[fV];cases A.contains m <;> first|exact k|trivial
 |.it m,x,k=>by simp only[fV];cases A.contains m <;> first|exact k|trivial
 |.axm _ m,x,k=>by simp only[fV];cases A.contains m <;> first|exact k|trivial
 |.axl _ ms,x,k=>by simp only[fV];cases ms.any A.contains <;> first|exact k|trivial
 |.p _,_,k=>k
 |.t _,_,k=>k
 |.ip _,_,k=>k
 |.fn _ _,_,k=>k
 |.ax _,_,k=>k
 |.junk,_,k=>k
theorem ux(A:List Nat)(b:Blk):∀ j∈lnk (dp A b),j∈lnk b∧j ∉ A:=by
 intro j hj;unfold dp at hj;cases e:(lnk b).any A.contains with
 |true =>
  rw[e]at hj;simp only[cond_true]at hj;unfold lnk at hj;cases hv:b.vec <;> simp[hv]at hj
 |false =>
  rw[e]at hj;simp only[cond_false]at hj;refine⟨hj,fun hA=>?_⟩;have:=Xn.1 e j hj;exact this (by simpa using hA)
theorem Da{A:List Nat}{h:Hp}{w:World}{v:Value}{b:Blk}(k:BlkRep h w v b):BlkRep h w v (dp A b):=by
 unfold dp;cases e:(lnk b).any A.contains with
 |false=>exact k
 |true =>
  simp only[cond_true];cases hv:b.vec with
  |true=>rw[js hv]at e;cases e
  |false =>
   unfold BlkRep at k ⊢;rw[hv]at k;exact k
theorem WOK.killed{C:Ctx}{h:Hp}{r:Nat->Value}{own own':Own}{w:World}{A:List Nat}(k:WOK C h r own w)(e:∀ m,own' m=iS A (own m)∨own' m=none):WOK C h r own' w:=by
 have g:∀ m b,own' m=some b->∃ b0,own m=some b0∧b=dp A b0:=fun m b hb=>by
  rcases e m with e|e
  ·rw[e]at hb;cases h0:own m with
   |none=>rw[h0]at hb;cases hb
   |some b0=>rw[h0]at hb;cases hb;exact⟨b0,rfl,rfl⟩
  rw[e]at hb;cases hb
 have f:∀ m,own' m≠none->own m≠none:=fun m hm=>by
  cases hb:own' m with
  |none=>exact absurd hb hm
  |some b=>obtain⟨b0,h1,_⟩:=g m b hb;rw[h1];simp
 refine⟨fun m b hb=>?_,fun m n i hm hn=>k.inj m n i (f m hm) (f n hn),k.hi,fun m i hm=>k.ho m i (f m hm),k.os,k.tape,k.output,k.size,k.old,fun m i hm=>k.fo m i (f m hm),k.hg,k.hn,k.gl,k.kp,fun m b j hb hj=>?_⟩
 ·obtain⟨b0,h1,rfl⟩:=g m b hb;exact Da (k.ow m b0 h1)
 obtain⟨b0,h1,rfl⟩:=g m b hb;rw[show(dp A b0).cs=b0.cs by unfold dp;cases(lnk b0).any A.contains <;> rfl];exact k.lk m b0 j h1 (ux A b0 j hj).1
theorem e9{C:Ctx}{N:Nat}{h:Hp}{r:Nat->Value}{s:St}{a:Act}{w:World}(A:List Nat)(k:Conc C N h r s a w):Conc C N h r (bt A s) a w:=by
 cases A with
 |nil=>exact k
 |cons x xs =>
  refine⟨k.sz,k.df,fun t=>C9 _ _ (k.rg t),k.wk.killed (A:=x::xs) fun m=>?_⟩;simp only[bt];cases(x::xs).contains m with
  |true=>exact .inr rfl
  |false=>exact .inl rfl
theorem fp(A:List Nat)(s:St):∀ d∈A,(bt A s).own d=none:=fun d hd=>by
 cases A with
 |nil=>simp at hd
 |cons x xs =>
  have:(x::xs).contains d=true:=by simpa using hd
  simp only[bt,this];rfl
theorem fq(A:List Nat)(s:St):∀ d∈A,∀ m b,(bt A s).own m=some b->d ∉ lnk b:=fun d hd m b hb hl=>by
 cases A with
 |nil=>simp at hd
 |cons x xs =>
  simp only[bt]at hb;cases e:(x::xs).contains m with
  |true=>rw[e]at hb;cases hb
  |false =>
   rw[e]at hb;simp only[cond_false]at hb;cases h0:s.own m with
   |none=>rw[h0]at hb;cases hb
   |some b0 =>
    rw[h0]at hb;cases hb;exact(ux _ b0 d hl).2 hd
theorem fU(A:List Nat)(s:St):∀ d∈A,∀ t,d ∉ men ((bt A s).regs t):=fun d hd t=>by
 cases A with
 |nil=>simp at hd
 |cons x xs =>
  have hc:(x::xs).contains d=true:=by simpa using hd
  simp only[bt];cases s.regs t with
  |loc m o =>
   simp only[fV];cases e:(x::xs).contains m with
   |true=>simp[men]
   |false=>intro hm;simp only[men,cond_false,List.mem_singleton]at hm;subst hm;rw[hc]at e;cases e
  |vec m =>
   simp only[fV];cases e:(x::xs).contains m with
   |true=>simp[men]
   |false=>intro hm;simp only[men,cond_false,List.mem_singleton]at hm;subst hm;rw[hc]at e;cases e
  |fnl f m =>
   simp only[fV];cases e:(x::xs).contains m with
   |true=>simp[men]
   |false=>intro hm;simp only[men,cond_false,List.mem_singleton]at hm;subst hm;rw[hc]at e;cases e
  |it m =>
   simp only[fV];cases e:(x::xs).contains m with
   |true=>simp[men]
   |false=>intro hm;simp only[men,cond_false,List.mem_singleton]at hm;subst hm;rw[hc]at e;cases e
  |axm R m =>
   simp only[fV];cases e:(x::xs).contains m with
   |true=>simp[men]
   |false=>intro hm;simp only[men,cond_false,List.mem_singleton]at hm;subst hm;rw[hc]at e;cases e
  |axl R ms =>
   simp only[fV];cases e:ms.any (x::xs).contains with
   |true=>simp[men]
   |false =>
    intro hm;simp only[men,cond_false]at hm;have:=Xn.1 e d hm;exact this hc
  |_=>simp[fV,men]
def AWp(P:Program)(B:Bool)(N np:Nat)(c:Code)(Q:Exit->St->Prop)(s:St):Prop :=
 ∀ (ro:Option Nat),(B=false->ro=none)->∀ (C:Ctx) (h:Hp) (r:Nat->Value) (a:Act) (w:World),C.np=np∧C.mar = !B->Conc C N h r s a w ->
  c.wpIn (Wd ro) 0 P (fun e a' w'=>∃ s' h' r',Q e s'∧Conc C N h' r' s' a' w') a w
def RK(P:Program)(N np:Nat)(ops:Array Oper)(draw:Bool)(os:List Oper)(s:St)(acc:List Io)(K:St->Prop):Prop :=
 ∃ sts ios,Effs P ops os s sts ios∧(BB np (dA ops.toList) (fy ops ops.toList (acc++ios))=true)∧(draw=true->xM ops.toList (fy ops ops.toList (acc++ios))=true)∧BA N ops.toList=true∧K (fin s sts)
theorem RK.done{P:Program}{N np:Nat}{ops:Array Oper}{draw:Bool}{s:St}{acc:List Io}{K:St->Prop}(h:(BB np (dA ops.toList) (fy ops ops.toList acc)&&(!draw||xM ops.toList (fy ops ops.toList acc))&&BA N ops.toList)=true)(hK:K s) :
  RK P N np ops draw [] s acc K:=by
 simp only[Bool.and_eq_true]at h;refine⟨[],[],.nil s,by simpa using h.1.1,fun hd=>?_,h.2,hK⟩;have:=h.1.2;rw[hd]at this;simpa using this
theorem RK.step{P:Program}{N np:Nat}{ops:Array Oper}{draw:Bool}{o:Oper}{os:List Oper}{s s':St}{acc:List Io}{K:St->Prop}{io:Io}(h:Step P ops o s s' io)(hr:RK P N np ops draw os s' (acc++[io]) K) :
  RK P N np ops draw (o::os) s acc K:=by
 obtain⟨sts,ios,h1,h2,h3,h4,h5⟩:=hr;refine⟨s'::sts,io::ios,.cons h h1,by simpa using h2,by simpa using h3,h4,?_⟩;have:fin s (s'::sts)=fin s' sts:=by simp only[fin,List.getLastD_cons]
 rw[this];exact h5
def kn(K:St->Prop)(Q:Exit->St->Prop):Exit->St->Prop
 |.normal,s=>K s
 |e,s=>Q e s
def AIn(id:Nat)(Q:Exit->St->Prop):Exit->St->Prop
 |.exit id',s=>bif Nat.beq id' id then Q .normal s else Q (.exit id') s
 |e,s=>Q e s
section rules
variable {P:Program}{B:Bool}{N np:Nat}{Q:Exit->St->Prop}{s:St}
theorem AWp.mono{c:Code}{Q':Exit->St->Prop}(h:AWp P B N np c Q s)(hq:∀ e s,Q e s->Q' e s):AWp P B N np c Q' s :=
 fun ro hB C hh r a w hn hc=>wpIn_mono (h ro hB C hh r a w hn hc) fun _e _a' _w' ⟨s',h',r',q,k⟩=>⟨s',h',r',hq _ _ q,k⟩
theorem bp(hP:P.follows .mixedOrders=true){id:Nat}{ops:Array Oper}{draw:Bool}(h:RK P N np ops draw ops.toList (bt (dA ops.toList) s) [] (Q .normal)):AWp P B N np (.region id ops draw) Q s:=by
 intro ro hB C hh r a w hn hc;obtain⟨sts,ios,h1,h2,h3,h4,h5⟩:=h;simp only[List.nil_append]at h2 h3;have hst:Start C.np N ops ops.toList (bt (dA ops.toList) s) ios:=⟨hn.1▸h2,h4,fp _ _,fU _ _,fq _ _⟩
 have hQ:∀ h' r' a' w',Conc C N h' r' (fin (bt (dA ops.toList) s) sts) a' w'->∃ s' h' r',Q Exit.normal s'∧Conc C N h' r' s' a' w':=fun h' r' a' w' k=>⟨_,h',r',h5,k⟩
 have hc':=e9 (dA ops.toList) hc;cases draw with
 |false =>
  apply wpIn_region;rw[Xs];refine Fw rfl h1 hst hQ ops.size 0 (by simp) hh r a w ?_;rw[iN (T:=fun _=>false) (fun j=>by
   cases e:Nat.blt j 0 with
   |false=>rfl
   |true=>rw[WR]at e;omega),nL]
  exact hc'
 |true =>
  refine wpIn_region_any hP ?_;refine zk rfl h1 hst (h3 rfl) hQ ops.size (Array.replicate ops.size false) (by simp) ?_ ?_ hh r a _ ?_
  ·unfold left;rw[WW.2]
   ·simp
   intro i hi;simp only[Array.getD_eq_getD_getElem?,Array.getElem?_replicate];split <;> rfl
  ·intro k o hk hS;simp only[Array.getD_eq_getD_getElem?,Array.getElem?_replicate]at hS;split at hS <;> cases hS
  rw[iN (T:=fun _=>false) (fun j=>by
   simp only[Array.getD_eq_getD_getElem?,Array.getElem?_replicate];split <;> rfl),nL]
  exact⟨hc'.sz,hc'.df,hc'.rg,hc'.wk.drew⟩
theorem bi{x y:Code}(h:AWp P B N np x (kn (AWp P B N np y Q) Q) s):AWp P B N np (.seq x y) Q s:=by
 intro ro hB C hh r a w hn hc;refine wpIn_seq (wpIn_mono (h ro hB C hh r a w hn hc) ?_);rintro e a' w' ⟨s',h',r',q,k⟩;cases e with
 |normal=>exact q ro hB C h' r' a' w' hn k
 |_=>exact⟨s',h',r',q,k⟩
theorem aT(h:Q .normal s):AWp P B N np .skip Q s:=fun _ _ _ hh r _ _ _ hc=>wpIn_skip ⟨s,hh,r,h,hc⟩
theorem bC(h:Q .ret s):AWp P B N np .ret Q s:=fun _ _ _ hh r _ _ _ hc=>wpIn_ret ⟨s,hh,r,h,hc⟩
theorem aS{id:Nat}(h:Q (.exit id) s):AWp P B N np (.exit id) Q s:=fun _ _ _ hh r _ _ _ hc=>wpIn_exit ⟨s,hh,r,h,hc⟩
theorem aR{id:Nat}{c:Code}(h:AWp P B N np c (AIn id Q) s):AWp P B N np (.block id c) Q s:=by
 intro ro hB C hh r a w hn hc;refine wpIn_block (wpIn_mono (h ro hB C hh r a w hn hc) ?_);rintro e a' w' ⟨s',h',r',q,k⟩;cases e with
 |exit id' =>
  simp only[Exit.inBlock];simp only[AIn]at q;by_cases hid:id'=id
  ·subst hid;rw[H2 rfl];have:Nat.beq id' id'=true:=by simp
   rw[this]at q;exact⟨s',h',r',q,k⟩
  rw[G2 hid];have:Nat.beq id' id=false:=by
   cases e:Nat.beq id' id with
   |false=>rfl
   |true=>exact absurd (UT e) hid
  rw[this]at q;exact⟨s',h',r',q,k⟩
 |_=>exact⟨s',h',r',q,k⟩
theorem DA{C:Ctx}{h:Hp}{r:Nat->Value}{a:Act}{w:World}(hc:Conc C N h r s a w){c:Operand}{b:Bool}(he:ev s.regs c=.p (.c (.v (.bool b)))):a.eval c=.bool b:=by
 have:=eL hc.rg c;rw[he]at this;simp only[AVRep,PRep,DRep]at this;exact this.1
theorem ah{c:Operand}{x y:Code}{b:Bool}(he:ev s.regs c=.p (.c (.v (.bool b))))(ht:b=true->AWp P B N np x Q s)(hf:b=false->AWp P B N np y Q s):AWp P B N np (.cond c x y) Q s:=by
 intro ro hB C hh r a w hn hc;have hb:=DA hc he;cases b with
 |true=>exact wpIn_cond_true hb (ht rfl ro hB C hh r a w hn hc)
 |false=>exact wpIn_cond_false hb (hf rfl ro hB C hh r a w hn hc)
theorem bH{c:Operand}{x y:Code}{b:Bool}(he:ev s.regs c=.p (.c (.v (.bool b))))(hb:b=true)(ht:AWp P B N np x Q s):AWp P B N np (.cond c x y) Q s :=
 ah he (fun _=>ht) (fun h=>by rw[hb]at h;cases h)
theorem aJ{c:Operand}{x y:Code}{b:Bool}(he:ev s.regs c=.p (.c (.v (.bool b))))(hb:b=false)(hf:AWp P B N np y Q s):AWp P B N np (.cond c x y) Q s :=
 ah he (fun h=>by rw[hb]at h;cases h) (fun _=>hf)
def Sub(u v:AV):Prop:=∀ h r x,AVRep h r u x->AVRep h r v x
theorem Sub.refl(u:AV):Sub u u:=fun _ _ _ k=>k
theorem Sub.junk(u:AV):Sub u .junk:=fun _ _ _ _=>trivial
theorem ao{u v:AV}(h:u=v):Sub u v:=h▸Sub.refl u
structure Le(s t:St):Prop where
 regs:∀ k,Sub (s.regs k) (t.regs k)
 own:∀ m,t.own m=s.own m∨t.own m=none
theorem Le.refl(s:St):Le s s:=⟨fun _=>.refl _,fun _=>.inl rfl⟩
theorem Le.conc{C:Ctx}{h:Hp}{r:Nat->Value}{t:St}{a:Act}{w:World}(k:Le s t)(hc:Conc C N h r s a w):Conc C N h r t a w :=
 ⟨hc.sz,hc.df,fun i=>k.regs i h r _ (hc.rg i),hc.wk.forget k.own⟩
theorem eh{t:St}{c:Code}(k:Le s t)(h:AWp P B N np c Q t):AWp P B N np c Q s :=
 fun ro hB C hh r a w hn hc=>h ro hB C hh r a w hn (k.conc hc)
theorem aC{ι:Type}{c:Code}(I:ι->St)(F:ι->Prop)(μ:ι->Nat)(i₀:ι)(h₀:F i₀)(hs:Le s (I i₀))(round:∀ i,F i->AWp P B N np c (kn (fun s'=>∃ j,F j∧μ j<μ i∧Le s' (I j)) Q) (I i)):AWp P B N np (.loop c) Q s:=by
 intro ro hB C hh r a w hn hc b k cs hro hfn hroom;have key:∀ n i h r a w,μ i=n->F i->Conc C N h r (I i) a w ->
   ∃ e a' w',(∃ s' h' r',Q e s'∧Conc C N h' r' s' a' w')∧ArrivesIn (Machine.fenced P (Wd ro)) P (lone (b.atR a (.code c :: .inLoop c::k)) cs w) b k cs e a' w':=by
  intro n;induction n using Nat.strongRecOn with
  |_ n ih =>
   intro i h r a w hμ hF hc;obtain⟨e,a₁,w₁,⟨s₁,h₁,r₁,hq,hc₁⟩,harr⟩:=round i hF ro hB C h r a w hn hc b (.inLoop c::k) cs hro hfn hroom;cases e with
   |normal =>
    obtain⟨j,hFj,hlt,hle⟩:=hq;obtain⟨e₂,a₂,w₂,hq₂,harr₂⟩:=ih (μ j) (hμ▸hlt) j h₁ r₁ a₁ w₁ rfl hFj (hle.conc hc₁);exact⟨e₂,a₂,w₂,hq₂,.of_steps (StepsIn.trans harr (.one (fenced_calm hfn hroom rfl) stepR_inLoop)) harr₂⟩
   |exit id=>exact⟨_,a₁,w₁,⟨s₁,h₁,r₁,hq,hc₁⟩,.pass (x:=.inLoop c) rfl (fun _ _=>.inl (by simp)) harr⟩
   |goto l=>exact⟨_,a₁,w₁,⟨s₁,h₁,r₁,hq,hc₁⟩,.pass (x:=.inLoop c) rfl (fun _ _=>.inl (by simp)) harr⟩
   |ret=>exact⟨_,a₁,w₁,⟨s₁,h₁,r₁,hq,hc₁⟩,.pass (x:=.inLoop c) rfl (fun _ _=>.inl (by simp)) harr⟩
   |panic ch=>exact⟨_,a₁,w₁,⟨s₁,h₁,r₁,hq,hc₁⟩,.pass (x:=.inLoop c) rfl (fun _ _=>.inl (by simp)) harr⟩
   |outgrown=>exact⟨_,a₁,w₁,⟨s₁,h₁,r₁,hq,hc₁⟩,.pass (x:=.inLoop c) rfl (fun _ _=>.inl (by simp)) harr⟩
 obtain⟨e,a',w',hq,harr⟩:=key _ i₀ hh r a w rfl h₀ (hs.conc hc);exact⟨e,a',w',hq,.of_steps (.one (fenced_calm hfn hroom rfl) stepR_loop) harr⟩
end rules
def RepArgs(h:Hp)(r:Nat->Value):List AV->List Value->Prop
 | [],[]=>True
 |p::ps,x::xs=>AVRep h r p x∧RepArgs h r ps xs
 |_,_=>False
structure Before(h:Hp)(r:Nat->Value)(o:Own)(w:World):Prop where
 ow:∀ m b,o m=some b->BlkRep h w (r m) b
 inj:∀ m n k,o m≠none->o n≠none->aD (r m)=some k->aD (r n)=some k->m=n
 hi:∀ k ob,h k=some ob->w.heap[k]?=some ob
 ho:∀ m k,o m≠none->aD (r m)=some k->h k=none
 gl:GlOK h
structure After(h:Hp)(r:Nat->Value)(o:Own)(w:World)(h':Hp)(o':Own)(w':World):Prop where
 ow:∀ m b,o' m=some b->BlkRep h' w' (r m) b
 dom:∀ m,o' m≠none->o m≠none
 hi:∀ k ob,h' k=some ob->w'.heap[k]?=some ob
 ho:∀ m k,o' m≠none->aD (r m)=some k->h' k=none
 os:w'.os=w.os
 tape:w'.tape=w.tape
 output:OutD w' w
 size:w.heap.size<=w'.heap.size
 old:∀ k,k<w.heap.size->(¬ ∃ m,o m≠none∧aD (r m)=some k)->w'.heap[k]?=w.heap[k]?
 hg:Hle h h'
 hn:∀ k,h' k≠none->h k≠none∨w.heap.size<=k∨∃ m,o m≠none∧aD (r m)=some k
def lS(P:Program)(f:FuncId):Prop:=∃ fn,P.funcs[f]?=some fn∧(fn.name == "runtime.NumGoroutine")=false∧fn.body.isNone=false
structure CallM(P:Program)(f:FuncId)(args:List AV)(o:Own)(res:AV)(o':Own):Prop where
 fn:lS P f
 go:∀ (h:Hp) (r:Nat->Value) (w:World) (cargs:Array Value),RepArgs h r args cargs.toList->Before h r o w ->
  Calls P f cargs w fun e w'=>∃ v h',e=.returned v∧AVRep h' r res v∧After h r o w h' o' w'
def O:Own:=fun _=>none
abbrev ak(P:Program)(f:FuncId)(args:List AV)(res:AV):Prop:=CallM P f args O res O
theorem WOK.before{C:Ctx}{h:Hp}{r:Nat->Value}{own o:Own}{w:World}(k:WOK C h r own w)(ho:∀ m,o m≠none->own m=o m):Before h r o w:=by
 have f:∀ m,o m≠none->own m≠none:=fun m hm=>by rw[ho m hm];exact hm
 exact⟨fun m b hb=>k.ow m b (by rw[ho m (by rw[hb];simp)];exact hb),fun m n i hm hn=>k.inj m n i (f m hm) (f n hn),k.hi,fun m i hm=>k.ho m i (f m hm),k.gl⟩
theorem WOK.after{C:Ctx}{h h':Hp}{r:Nat->Value}{own o o' own'':Own}{w w':World}(k:WOK C h r own w)(ho:∀ m,o m≠none->own m=o m)(q:After h r o w h' o' w')(e:∀ m,own'' m=if o m≠none then o' m else own m)(hlk:∀ m b,o m≠none->o' m=some b->lnk b=[]):WOK C h' r own'' w':=by
 have f:∀ m,o m≠none->own m≠none:=fun m hm=>by rw[ho m hm];exact hm
 have live:∀ m,own'' m≠none->own m≠none:=fun m hm=>by
  rw[e m]at hm;by_cases hc:o m≠none
  ·exact f m hc
  rwa [G2 hc]at hm
 have rest:∀ m i,own m≠none->o m=none->aD (r m)=some i->w'.heap[i]?=w.heap[i]?:=fun m i hm hom hi=>by
  refine q.old i (k.lt hm hi) ?_;rintro⟨n,hn,hni⟩;have:=k.inj m n i hm (f n hn) hi hni;subst this;exact hn hom
 refine⟨?_,fun m n i hm hn=>k.inj m n i (live m hm) (live n hn),q.hi,?_,q.os.trans k.os,q.tape.trans k.tape,q.output.trans k.output,UA k.size q.size,?_,fun m i hm=>k.fo m i (live m hm),k.hg.trans q.hg,?_,k.gl.mono q.hg,k.kp,?_⟩
 ·intro m b hb;rw[e m]at hb;by_cases hc:o m≠none
  ·rw[H2 hc]at hb;exact q.ow m b hb
  rw[G2 hc]at hb;have hc':o m=none:=by
   cases h:o m with
   |none=>rfl
   |some b=>exact absurd (by rw[h];simp) hc
  exact((k.ow m b hb).mono q.hg).world fun i hi=>rest m i (by rw[hb];simp) hc' hi
 ·intro m i hm hi;rw[e m]at hm;by_cases hc:o m≠none
  ·rw[H2 hc]at hm;exact q.ho m i hm hi
  rw[G2 hc]at hm;have hc':o m=none:=by
   cases h:o m with
   |none=>rfl
   |some b=>exact absurd (by rw[h];simp) hc
  cases hh:h' i with
  |none=>rfl
  |some ob =>
   rcases q.hn i (by rw[hh];simp)with g|g|⟨n,hn,hni⟩
   ·exact absurd (k.ho m i hm hi) g
   ·have:=k.lt hm hi;omega
   have:=k.inj m n i hm (f n hn) hi hni;subst this;exact absurd hc' hn
 ·intro i hi hf;rw[q.old i (Vf hi k.size) ?_]
  ·exact k.old i hi hf
  rintro⟨n,hn,hni⟩;rcases k.fo n i (f n hn) hni with g|g
  ·omega
  exact hf g
 ·intro i hi;rcases q.hn i hi with g|g|⟨n,hn,hni⟩
  ·exact k.hn i g
  ·exact .inr (.inl (UA k.size g))
  exact .inr (k.fo n i (f n hn) hni)
 intro m b j hb hj;rw[e m]at hb;by_cases hc:o m≠none
 ·rw[H2 hc]at hb;rw[hlk m b hc hb]at hj;cases hj
 rw[G2 hc]at hb;have hc':o m=none:=by
  cases h:o m with
  |none=>rfl
  |some b=>exact absurd (by rw[h];simp) hc
 obtain⟨q1,t,h1,h2⟩:=k.lk m b j hb hj;exact⟨q1,t,h1,by rw[rest m q1 (by rw[hb];simp) hc' (by rw[h1];rfl)];exact h2⟩
theorem qD(own g:Own):∀ (rd:List Nat) (m:Nat),cw own (rd.map fun n=>(n,g n)) m=if m∈rd then g m else own m:=by
 intro rd;induction rd generalizing own with
 |nil=>intro m;simp[cw]
 |cons n rd ih =>
  intro m;simp only[List.map_cons,cw,ih,List.mem_cons];by_cases h1:m∈rd
  ·simp[h1]
  by_cases h2:m=n
  ·subst h2;simp[h1]
  simp[h1,h2,aj]
theorem bU{P:Program}{f:FuncId}(h:lS P f)(args:Array Value)(w:World):(callFunc f args).run P w=.ok (.enter f args) w:=by
 obtain⟨fn,h1,h2,h3⟩:=h;simp only[callFunc,Sem.run_bind,run_program,Result.andThen_ok,h1,h2,h3];rfl
theorem cX{h:Hp}{r:Nat->Value}{ρ:Operand->AV}{a:Act}:∀ (xs:List Operand),(∀ x∈xs,AVRep h r (ρ x) (a.eval x))->RepArgs h r (xs.map ρ) (xs.map a.eval)
 | [],_=>trivial
 |x::xs,k=>⟨k x (by simp),cX xs fun y hy=>k y (by simp[hy])⟩
theorem Eff.call{P:Program}{dst:Option Nat}{f:FuncId}{args:Array Operand}{tys:Array TypeId}{ty:TypeId}{pos:String}{af:Array Edge}{gd:Option (Nat×Bool)}{d:Nat}{ρ:Operand->AV}{own o o':Own}{res:AV}{rd:List Nat}(hc:CallM P f (args.toList.map ρ) o res o')(ho:∀ m∈rd,own m=o m)(hd:∀ m,o m≠none->m∈rd)(hlk:rd.all (fun m=>(wH (o' m)).isEmpty)=true:=by rfl) :
  Eff P ⟨dst,.call ⟨.value (.func f),args,tys⟩,ty,pos,af,gd⟩ d ρ own res (rd.map fun m=>(m,o' m)) none rd:=by
 intro C h r own' a w K Q hrep hrd hw _ hK;have ho':∀ m,o m≠none->own' m=o m:=fun m hm=>(hrd m (hd m hm)).trans (ho m (hd m hm))
 unfold Oper.wp;have hrun:(execOp a.eval ⟨dst,.call ⟨.value (.func f),args,tys⟩,ty,pos,af,gd⟩).run P w=.ok (.enter f (args.map a.eval)) w:=by
  simp only[execOp,resolve,Sem.run_bind,Act.eval,Deferred.ofValue,Sem.run_pure,Result.andThen_ok,invoke,Array.empty_append,Array.append_empty];exact bU hc.fn _ w
 rw[hrun];refine Calls.mono (hc.go h r w (args.map a.eval) ?_ (hw.before ho')) ?_
 ·rw[VU];exact cX _ fun x hx=>hrep x (by simp only[Op.operands,Call.operands];exact Wa.2 (.inr (VN.1 hx)))
 rintro e w' ⟨v,h',rfl,hv,hq⟩;refine hK v h' r w' hq.hg (fun _ _=>rfl) hv (hw.after ho' hq (fun m=>?_) fun m b hm hb=>?_)
 rotate_left
 ·have:=Uo.1 hlk m (hd m hm);rw[hb]at this;exact List.isEmpty_iff.1 this
 show cw own' _ m=_;rw[qD];by_cases hm:m∈rd
 ·rw[H2 hm];by_cases hom:o m≠none
  ·rw[H2 hom]
  rw[G2 hom];have h1:own' m=o m:=(hrd m hm).trans (ho m hm);have h2:o m=none:=by
   cases h:o m with
   |none=>rfl
   |some b=>exact absurd (by rw[h];simp) hom
  rw[h1,h2];cases h3:o' m with
  |none=>rfl
  |some b=>exact absurd (hq.dom m (by rw[h3];simp)) (by simp[h2])
 rw[G2 hm,G2 fun hom=>hm (hd m hom)]
theorem ab{P:Program}{dst:Option Nat}{f:FuncId}{args:Array Operand}{tys:Array TypeId}{ty:TypeId}{pos:String}{af:Array Edge}{gd:Option (Nat×Bool)}{d:Nat}{ρ:Operand->AV}{own:Own}{res:AV}(hc:ak P f (args.toList.map ρ) res):Eff P ⟨dst,.call ⟨.value (.func f),args,tys⟩,ty,pos,af,gd⟩ d ρ own res [] none [] :=
 Eff.call (rd:=[]) hc (by simp) (fun m hm=>absurd rfl hm) rfl
def iG(tmps:Array Value):ResultVar->Sem Value
 |.tmp t=>pure (tmps.getD t undef)
 |.cell x t=>do loadVar t (<- asAddr (tmps.getD x undef))
theorem eY(fn:Func)(tmps:Array Value):results fn tmps=(fn.results.mapM (iG tmps) >>= fun vs=>pure (if h:vs.size=1 then vs[0]else .tuple vs)):=by
 unfold results;refine Ur (fun(m:Sem (Array Value))=>m >>= fun(vs:Array Value)=>(pure (if h:vs.size=1 then vs[0]else .tuple vs):Sem Value)) ?_;exact Ur (fun g=>Array.mapM g fn.results) (funext fun x=>by cases x <;> rfl)
def iQ(P:Program)(s:St)(rv:ResultVar)(pv:PV):Prop :=
 ∀ C N h r a w,Conc C N h r s a w->∃ v,(iG a.tmps rv).run P w=.ok v w∧PRep h pv v
inductive ResVals(P:Program)(s:St):List ResultVar->List PV->Prop
 |nil:ResVals P s [] []
 |cons {rv:ResultVar} {pv:PV} {rvs:List ResultVar} {pvs:List PV} (h:iQ P s rv pv) (hs:ResVals P s rvs pvs):ResVals P s (rv::rvs) (pv::pvs)
def AW:List PV->AV
 | [v]=>.p v
 |vs=>.t vs
theorem ResVals.run{P:Program}{s:St}{rvs:List ResultVar}{pvs:List PV}(k:ResVals P s rvs pvs){C:Ctx}{N:Nat}{h:Hp}{r:Nat->Value}{a:Act}{w:World}(hc:Conc C N h r s a w) :
  ∃ vs,(rvs.mapM (iG a.tmps)).run P w=.ok vs w∧PReps h pvs vs:=by
 induction k with
 |nil=>exact⟨[],by simp,trivial⟩
 |cons hv _ ih =>
  obtain⟨vs,h1,h2⟩:=ih;obtain⟨v,h3,h4⟩:=hv C N h r a w hc;refine⟨v::vs,?_,⟨h4,h2⟩⟩;rw[List.mapM_cons];simp only[Sem.run_bind,h3,Result.andThen_ok,h1,Sem.run_pure]
theorem PReps.length{h:Hp}:∀ {ps:List PV} {xs:List Value},PReps h ps xs->xs.length=ps.length
 | [],[],_=>rfl
 |_::_,_::_,r=>by simp[PReps.length r.2]
 | [],_::_,r=>r.elim
 |_::_,[],r=>r.elim
theorem qn{P:Program}{fn:Func}{s:St}{pvs:List PV}(k:ResVals P s fn.results.toList pvs){C:Ctx}{N:Nat}{h:Hp}{r:Nat->Value}{a:Act}{w:World}(hc:Conc C N h r s a w) :
  ∃ v,(results fn a.tmps).run P w=.ok v w∧AVRep h r (AW pvs) v:=by
 obtain⟨vs,h1,h2⟩:=k.run hc;have hl:=h2.length;rw[eY];have hm:(fn.results.mapM (iG a.tmps)).run P w=.ok vs.toArray w:=by
  rw[Array.mapM_eq_mapM_toList,Sem.run_map,h1];rfl
 rw[Sem.run_bind,hm];simp only[Result.andThen_ok,Sem.run_pure]
 match pvs,vs,h2,hl with
 | [],[],_,_=>exact⟨_,rfl,[],by simp,trivial⟩
 | [p],[x],h2,_=>exact⟨x,by simp,h2.1⟩
 |p::q::ps,x::y::ys,h2,_=>exact⟨_,rfl,x::y::ys,by simp,h2⟩
def minus(h:Hp)(D:Nat):Hp:=fun i=>if i=D then none else h i
theorem Bb{h:Hp}{D i:Nat}{o:Obj}(e:minus h D i=some o):i≠D∧h i=some o:=by
 unfold minus at e;split at e
 ·cases e
 next hne=>exact⟨hne,e⟩
theorem gu{h:Hp}{D i:Nat}{c:Array Value}{t:TypeId}{f:Nat×Nat}{q:Option (List Deferred)}(hD:h D=some (.deferred q))(e:h i=some (.cells c t f)):minus h D i=some (.cells c t f):=by
 unfold minus;rw[G2 (fun x=>by subst x;rw[hD]at e;cases e)];exact e
theorem ui{h:Hp}{D i:Nat}{es:Array MapEntry}{c:Nat}{q:Option (List Deferred)}(hD:h D=some (.deferred q))(e:h i=some (.map es c)):minus h D i=some (.map es c):=by
 unfold minus;rw[G2 (fun x=>by subst x;rw[hD]at e;cases e)];exact e
mutual
theorem DRep.minus{h:Hp}{D:Nat}{q:Option (List Deferred)}(hD:h D=some (.deferred q)):∀ (d:DV) (x:Value),DRep h d x->DRep (minus h D) d x
 |.v _,_,r=>by simpa only[DRep]using r
 |.sl n xs,x,r=>by
  simp only[DRep]at r ⊢;obtain⟨a,cap,h1,h2,h3,h4⟩:=r;refine⟨a,cap,h1,h2,h3,?_⟩;rcases h4 with h4|⟨b,off,c,e,fr,g1,g2,g3⟩
  ·exact .inl h4
  exact .inr ⟨b,off,c,e,fr,g1,gu hD g2,DReps.minus hD xs _ g3⟩
 |.sx n cap xs,x,r=>by
  simp only[DRep]at r ⊢;obtain⟨a,h1,h2,h3,h4⟩:=r;refine⟨a,h1,h2,h3,?_⟩;rcases h4 with h4|⟨b,off,c,e,fr,g1,g2,g3⟩
  ·exact .inl h4
  exact .inr ⟨b,off,c,e,fr,g1,gu hD g2,DReps.minus hD xs _ g3⟩
 |.ip xs,x,r=>by
  simp only[DRep]at r ⊢;obtain⟨b,off,c,e,fr,g1,g2,g3⟩:=r;exact⟨b,off,c,e,fr,g1,gu hD g2,DReps.minus hD xs _ g3⟩
 |.fn f caps,x,r=>by
  simp only[DRep]at r ⊢;obtain⟨lb,g1,g2,g3⟩:=r;exact⟨lb,g1,g2,DReps.minus hD caps _ g3⟩
 |.any,_,r=>by simpa only[DRep]using r
 |.mp a xs,x,r=>by
  simp only[DRep]at r ⊢;obtain⟨k,es,clk,l,g1,g2,g3,g4,g5,g6⟩:=r;exact⟨k,es,clk,l,g1,ui hD g2,g3,g4,g5,DReps.minus hD xs _ g6⟩
theorem DReps.minus{h:Hp}{D:Nat}{q:Option (List Deferred)}(hD:h D=some (.deferred q)):∀ (ds:List DV) (g:Nat->Option Value),DReps h ds g->DReps (AM.minus h D) ds g
 | [],_,_=>by simp only[DReps]
 |x::xs,g,r=>by
  simp only[DReps]at r ⊢;obtain⟨⟨y,e,k⟩,r⟩:=r;exact⟨⟨y,e,DRep.minus hD x y k⟩,DReps.minus hD xs _ r⟩
end
section
variable {h:Hp}{D:Nat}{q:Option (List Deferred)}(hD:h D=some (.deferred q))
include hD
theorem PRep.minus:∀ (v:PV) (x:Value),PRep h v x->PRep (AM.minus h D) v x
 |.c d,x,r=>DRep.minus hD d x r
 |.a ds,_,⟨cs,e,s,r⟩=>⟨cs,e,s,DReps.minus hD ds _ r⟩
theorem PReps.minus:∀ (vs:List PV) (xs:List Value),PReps h vs xs->PReps (AM.minus h D) vs xs
 | [],[],_=>trivial
 |p::ps,x::xs,r=>⟨PRep.minus hD p x r.1,PReps.minus ps xs r.2⟩
 | [],_::_,r=>r.elim
 |_::_,[],r=>r.elim
theorem CapsRep.minus:∀ {cs:List (List DV)} {xs:List Value},CapsRep h cs xs->CapsRep (AM.minus h D) cs xs
 | [],[],_=>trivial
 |_::_,_::_,⟨⟨b,off,c,e,fr,h1,h2,h3⟩,k⟩=>⟨⟨b,off,c,e,fr,h1,gu hD h2,DReps.minus hD _ _ h3⟩,CapsRep.minus k⟩
 | [],_::_,k=>k.elim
 |_::_,[],k=>k.elim
theorem AVRep.minus{r:Nat->Value}:∀ (v:AV) (x:Value),AVRep h r v x->AVRep (AM.minus h D) r v x
 |.p v,x,k=>PRep.minus hD v x k
 |.t vs,_,⟨xs,e,k⟩=>⟨xs,e,PReps.minus hD vs xs k⟩
 |.loc _ _,_,k=>k
 |.vec _,_,k=>k
 |.ip xs,_,⟨b,off,c,e,fr,h1,h2,h3⟩=>⟨b,off,c,e,fr,h1,gu hD h2,DReps.minus hD xs _ h3⟩
 |.fn _ _,_,⟨lb,e,k⟩=>⟨lb,e,CapsRep.minus hD k⟩
 |.fnl _ _,_,k=>k
 |.it _,_,k=>k
 |.axm _ _,_,k=>fun h'' hq=>k h'' fun i o ho e=>hq i o ho (by
   show(if i=D then none else h i)=some o;rw[G2 (fun x=>by subst x;rw[hD]at e;exact ho _ (Vl e).symm)];exact e)
 |.axl _ _,_,k=>fun h'' hq=>k h'' fun i o ho e=>hq i o ho (by
   show(if i=D then none else h i)=some o;rw[G2 (fun x=>by subst x;rw[hD]at e;exact ho _ (Vl e).symm)];exact e)
 |.ax _,_,k=>fun h'' hq=>k h'' fun i o ho e=>hq i o ho (by
   show(if i=D then none else h i)=some o;rw[G2 (fun x=>by subst x;rw[hD]at e;exact ho _ (Vl e).symm)];exact e)
 |.junk,_,_=>trivial
theorem MapRep.minus{w:World}{v:Value}{cs:List DV}(k:MapRep h w v cs):MapRep (AM.minus h D) w v cs:=by
 unfold MapRep at *;split at k
 ·obtain⟨k,es,clk,l,h1,h2,h3,h4,h5,h6⟩:=k;exact⟨k,es,clk,l,h1,h2,h3,h4,h5,DReps.minus hD _ _ h6⟩
 ·obtain⟨k,m,since,seen,c0,h1,h2,h3⟩:=k;refine⟨k,m,since,seen,c0,h1,h2,h3.imp id ?_⟩;rintro⟨b,es,clk,l,g1,g2,g3,g4,g5,g6,g7,g8,g9⟩;refine⟨b,es,clk,l,g1,ui hD g2,g3,g4,g5,g6,g7,DReps.minus hD _ _ g8,g9.imp id ?_⟩;rintro⟨e,f1,f2,f3,f4⟩;exact⟨e,f1,f2,f3,DReps.minus hD _ _ f4⟩
 ·exact k
 exact k.elim
theorem BlkRep.minus{w:World}{v:Value}{b:Blk}(k:BlkRep h w v b):BlkRep (AM.minus h D) w v b:=by
 rcases BlkRep.kinds b with hv|⟨hv,hs⟩|⟨hv,hs⟩
 ·rw[BlkRep.boxE hv]at k ⊢;obtain⟨k,c,h1,h2,h3,h4⟩:=k;exact⟨k,c,h1,h2,h3,DReps.minus hD _ _ h4⟩
 ·rw[BlkRep.slE hv hs]at k ⊢;obtain⟨a,n,cap,h1,h2,h3,h4,h5⟩:=k;refine⟨a,n,cap,h1,h2,h3,h4,?_⟩;rcases h5 with h5|⟨k,c,g1,g2,g3,g4⟩
  ·exact .inl h5
  exact .inr ⟨k,c,g1,g2,g3,DReps.minus hD _ _ g4⟩
 rw[BlkRep.mpE hv hs]at k ⊢;exact MapRep.minus hD k
end
theorem bb(w:World)(l:Nat)(o:Obj):(w.putObj l o).heap.size=w.heap.size:=by simp[World.putObj]
theorem bO{w:World}{l i:Nat}{o:Obj}(h:i≠l):(w.putObj l o).heap[i]?=w.heap[i]?:=World.putObj_heap_other h
theorem Conc.take{C:Ctx}{N:Nat}{h:Hp}{r:Nat->Value}{s:St}{t:Array Value}{d:Deferred}{ds:List Deferred}{w:World}(hc:Conc C N h r s { tmps:=t,defers:=d::ds } w) :
  ∃ D,d.target=.collected D∧w.heap[D]?=some (.deferred (some []))∧Conc C N (minus h D) r s { tmps:=t,defers:=ds } (w.putObj D (.deferred none)):=by
 obtain⟨_,⟨D,rfl,h2,h3,h4,h5⟩,hm⟩:=hc.df;have hk:=hc.wk;have hwD:=hk.hi D _ h4;have ne:∀ m i,s.own m≠none->aD (r m)=some i->i≠D:=fun m i ho e x=>by
  subst x;have:=hk.ho m i ho e;rw[h4]at this;cases this
 refine⟨D,rfl,hwD,hc.sz,?_,fun t=>AVRep.minus h4 _ _ (hc.rg t),?_⟩
 ·have:∀ (l:List Deferred),(∀ x∈l,x.target≠.collected D)->Marks C h l->Marks C (minus h D) l:=by
   intro l;induction l with
   |nil=>intro _ _;trivial
   |cons y l ih =>
    intro hl k;obtain⟨e0,⟨D',e1,e2,e3,e4,e5⟩,k⟩:=k;refine⟨e0,⟨D',e1,e2,e3,?_,e5⟩,ih (fun x hx=>hl x (by simp[hx])) k⟩;unfold minus;rw[G2 (fun x=>hl y (by simp) (by rw[e1,x]))];exact e4
  exact this ds h5 hm
 refine⟨fun m b e=>?_,hk.inj,fun i o e=>?_,fun m i ho e=>?_,hk.os,hk.tape,hk.output,?_,fun i hi hf=>?_,hk.fo,fun i o e=>?_,fun i hi=>?_,?_,hk.kp,fun m b j e hj=>?_⟩
 ·exact((hk.ow m b e).minus h4).world fun i hi=>bO (ne m i (by rw[e];simp) hi)
 ·obtain⟨h6,h7⟩:=Bb e;rw[bO h6];exact hk.hi i o h7
 ·have:=hk.ho m i ho e;unfold minus;by_cases h6:i=D
  ·rw[H2 h6]
  rw[G2 h6];exact this
 ·rw[bb];exact hk.size
 ·rw[bO (by omega)];exact hk.old i hi hf
 ·have:=hk.hg i o e;unfold minus;rw[G2 (fun x=>by subst x;rw[h3]at e;cases e)];exact this
 ·refine hk.hn i fun x=>hi ?_
  unfold minus;by_cases h6:i=D
  ·rw[H2 h6]
  rw[G2 h6];exact x
 ·intro p hp;obtain⟨c,e,fr,g1,g2⟩:=hk.gl p hp;exact⟨c,e,fr,gu h4 g1,g2⟩
 obtain⟨q,t,e1,e2⟩:=hk.lk m b j e hj;refine⟨q,t,e1,?_⟩;rw[bO (fun x=>by subst x;rw[hwD]at e2;cases e2)];exact e2
theorem iM{P:Program}{fn:Func}{C:Ctx}{N:Nat}{r:Nat->Value}{s:St}{R:Ending->World->Prop}:∀ {a:Act} {h:Hp} {w:World},Conc C N h r s a w ->
  (∀ h' w',Conc C N h' r s { tmps:=a.tmps,defers:=[] } w'->∃ v,(results fn a.tmps).run P w'=.ok v w'∧R (.returned v) w')->LeavesInM (Wd none) 0 P fn a.tmps R a.defers .returning w:=by
 rintro⟨t,ds⟩;induction ds with
 |nil=>intro h w hc k;exact k h w hc
 |cons d ds ih =>
  intro h w hc k;obtain⟨D,h1,h2,h3⟩:=hc.take;exact⟨by simp,.inl ⟨D,_,h1,run_takeDeferred h2,ih h3 k⟩⟩
def nS(P:Program)(fn:Func)(res:AV)(o':Own)(e:Exit)(s:St):Prop :=
 (e=.normal∨e=.ret)∧(∃ pvs,ResVals P s fn.results.toList pvs∧Sub (AW pvs) res)∧∀ m b,o' m=some b->s.own m=some b
theorem FZ:∀ m b,O m=some b->lnk b=[]:=fun _ _ h=>by cases h
theorem wI{o:Own}{n:Nat}{c:Blk}(h:lnk c=[])(k:∀ m b,o m=some b->lnk b=[]):∀ m b,upd o n (some c) m=some b->lnk b=[]:=fun m b e=>by
 by_cases h1:m=n
 ·subst h1;rw[upd_same]at e;cases e;exact h
 rw[aj _ _ _ _ h1]at e;exact k m b e
theorem dk{P:Program}{f:FuncId}{fn:Func}{c:Code}{N np:Nat}{args:List AV}{o o':Own}{res:AV}(hf:P.funcs[f]?=some fn)(hnm:(fn.name == "runtime.NumGoroutine")=false)(hb:fn.body=some c)(hN:fn.ntmps=N)(hna:args.length<=N)(hnp:∀ m,o m≠none->m<np)(hdom:∀ m,o' m≠none->o m≠none)(hres:men res=[])(h:AWp P false N np c (nS P fn res o') ⟨fun t=>args.getD t .junk,o⟩)(hlk:∀ m b,o m=some b->lnk b=[]:=by first|exact FZ|exact wI rfl FZ|exact wI rfl (wI rfl FZ)|assumption):CallM P f args o res o':=by
 refine⟨⟨fn,hf,hnm,by rw[hb];rfl⟩,?_⟩;intro hh r w cargs hra hbf;have hlen:cargs.size=args.length:=by
  have:∀ (as0:List AV) (xs:List Value),RepArgs hh r as0 xs->xs.length=as0.length:=by
   intro as0;induction as0 with
   |nil=>intro xs h;cases xs with
    |nil=>rfl
    |cons _ _=>exact h.elim
   |cons p ps ih=>intro xs h;cases xs with
    |nil=>exact h.elim
    |cons x xs=>simp[ih xs h.2]
  simpa using this _ _ hra
 have hget:∀ (as0:List AV) (xs:List Value),RepArgs hh r as0 xs->∀ (t:Nat) (x:AV),as0[t]?=some x->∃ y,xs[t]?=some y∧AVRep hh r x y:=by
  intro as0;induction as0 with
  |nil=>intro xs _ t x h;simp at h
  |cons p ps ih=>intro xs h t x hx;cases xs with
   |nil=>exact h.elim
   |cons y ys=>cases t with
    |zero=>simp at hx;subst hx;exact⟨y,rfl,h.1⟩
    |succ t=>exact ih ys h.2 t x (by simpa using hx)
 refine mZ (n:=0) (callsIn_of_wp_marks hf hb trivial ?_)
 let C:Ctx:=⟨w,hh,fun k=>∃ m,o m≠none∧aD (r m)=some k,r,np,true⟩
 refine wpIn_mono (h none (fun _=>rfl) C hh r _ w ⟨rfl,rfl⟩ ⟨?_,trivial,?_,⟨hbf.ow,hbf.inj,hbf.hi,hbf.ho,rfl,rfl,.refl _,Iv _,fun _ _ _=>rfl,fun m k hm hk=>.inr ⟨m,hm,hk⟩,.refl _,fun k hk=>.inl hk,hbf.gl,fun _ _=>rfl,fun m b j hb hj=>by rw[hlk m b hb]at hj;cases hj⟩⟩) ?_
 ·simp[hN];omega
 ·intro t;show AVRep hh r (args.getD t .junk) _;rw[As];cases ht:args[t]? with
  |none=>exact trivial
  |some x =>
   obtain⟨y,h1,h2⟩:=hget _ _ hra t x ht;have h1':cargs[t]?=some y:=by rw[<- UJ];exact h1
   have hlt:t<cargs.size:=(K0.1 h1').1;simp only[Array.getD_eq_getD_getElem?,Array.getElem?_append_left hlt,h1',Option.getD_some];exact h2
 have key:∀ {s':St} {h':Hp} {r':Nat->Value} {a':Act} {w':World} {pvs:List PV},ResVals P s' fn.results.toList pvs->Sub (AW pvs) res->(∀ m b,o' m=some b->s'.own m=some b)->Conc C N h' r' s' a' w' ->
   ∃ v,(results fn a'.tmps).run P w'=.ok v w'∧∃ u h'',Ending.returned v=.returned u∧AVRep h'' r res u∧After hh r o w h'' o' w':=by
  intro s' h' r' a' w' pvs hpv hsub ho' hc;obtain⟨v,hv1,hv2⟩:=qn hpv hc;refine⟨v,hv1,v,h',rfl,?_,?_⟩
  ·exact AVRep.rebind _ _ (fun m hm=>by rw[hres]at hm;simp at hm) (hsub _ _ _ hv2)
  have hk:=hc.wk;refine⟨fun m b hb=>?_,hdom,hk.hi,fun m k hm hmk=>?_,hk.os,hk.tape,hk.output,hk.size,hk.old,hk.hg,hk.hn⟩
  ·have:=hk.ow m b (ho' m b hb)
   rwa [hk.kp m (hnp m (hdom m (by rw[hb];simp)))]at this
  have hlt:=hnp m (hdom m hm);cases hb:o' m with
  |none=>exact absurd hb hm
  |some b =>
   refine hk.ho m k (by rw[ho' m b hb];simp) ?_;rw[hk.kp m hlt];exact hmk
 rintro e a' w' ⟨s',h',r',⟨he,⟨pvs,hpv,hsub⟩,ho'⟩,hc⟩;have fin:LeavesInM (Wd none) 0 P fn a'.tmps (fun e w'=>∃ v h',e=.returned v∧AVRep h' r res v∧After hh r o w h' o' w') a'.defers .returning w':=by
  refine iM hc ?_;intro h' w' hc;exact key (a':={ tmps:=a'.tmps,defers:=[] }) hpv hsub ho' hc
 rcases he with rfl|rfl <;> exact fin
inductive Sh where
 |bool|int (k:IntKind)|str|sl (e:Nat)|st (fs:List (Nat×Nat))|ar (n e:Nat)|pt (e:Nat)|mp (k e:Nat)|ot
structure TyI where
 sh:Sh
 size:Nat
 bytes:Nat
 zero:List DV
def lR:TypeDesc->Sh->Prop
 |.bool,.bool=>True
 |.int k,.int k'=>k=k'
 |.string,.str=>True
 |.slice e,.sl e'=>e=e'
 |.struct fs,.st l=>fs.toList.map (fun f=>(f.offset,f.type))=l
 |.array n e,.ar m e'=>n=m∧e=e'
 |.pointer e,.pt e'=>e=e'
 |.map k e,.mp k' e'=>k=k'∧e=e'
 |.struct _,.ot=>False
 |.array _ _,.ot=>False
 |_,.ot=>True
 |_,_=>False
structure TyOK(P:Program)(T:TypeId)(i:TyI):Prop where
 info:∃ ti,P.info? T=some ti∧ti.size=i.size∧ti.bytes=i.bytes∧∃ z,ti.zero=some z∧z.cells.size=i.size∧i.zero.length=i.size∧∀ h,DReps h i.zero fun j=>z.cells[j]?
 und:∃ d,P.underlying T=some d∧lR d i.sh
abbrev TT:=TypeId->Option TyI
def bM(P:Program)(tt:TT):Prop:=∀ T i,tt T=some i->TyOK P T i
section types
variable {P:Program}{T:TypeId}{i:TyI}
theorem TyOK.size(h:TyOK P T i)(w:World):(sizeOf T).run P w=.ok i.size w:=by
 obtain⟨ti,h1,h2,_⟩:=h.info;simp[sizeOf,typeInfo,h1,h2]
def Sh.agg:Sh->Bool
 |.st _=>true
 |.ar _ _=>true
 |_=>false
theorem TyOK.isAgg(h:TyOK P T i)(w:World):(isAgg T).run P w=.ok i.sh.agg w:=by
 obtain⟨d,h1,h2⟩:=h.und;simp only[Go.isAgg,Sem.run_bind,run_underlying h1,Result.andThen_ok];cases d <;> cases hs:i.sh <;> rw[hs]at h2 <;> first|exact h2.elim|rfl
theorem TyOK.slice(h:TyOK P T i){e:Nat}(hs:i.sh=.sl e):P.underlying T=some (.slice e):=by
 obtain⟨d,h1,h2⟩:=h.und;rw[hs]at h2;rw[h1];cases d <;> simp only[lR]at h2 <;> simp_all
theorem TyOK.int(h:TyOK P T i){k:IntKind}(hs:i.sh=.int k):P.underlying T=some (.int k):=by
 obtain⟨d,h1,h2⟩:=h.und;rw[hs]at h2;rw[h1];cases d <;> simp only[lR]at h2 <;> simp_all
theorem TyOK.bool(h:TyOK P T i)(hs:i.sh=.bool):P.underlying T=some .bool:=by
 obtain⟨d,h1,h2⟩:=h.und;rw[hs]at h2;rw[h1];cases d <;> simp only[lR]at h2 <;> simp_all
theorem TyOK.array(h:TyOK P T i){n e:Nat}(hs:i.sh=.ar n e):P.underlying T=some (.array n e):=by
 obtain⟨d,h1,h2⟩:=h.und;rw[hs]at h2;rw[h1];cases d <;> simp only[lR]at h2 <;> simp_all
theorem TyOK.struct(h:TyOK P T i){l:List (Nat×Nat)}(hs:i.sh=.st l):∃ fs,P.underlying T=some (.struct fs)∧fs.toList.map (fun f=>(f.offset,f.type))=l:=by
 obtain⟨d,h1,h2⟩:=h.und;rw[hs]at h2;rw[h1];cases d <;> simp only[lR]at h2 <;> simp_all
end types
def Reads(h:Hp)(w:World)(a:Addr)(ds:List DV):Prop:=∀ (j:Nat) d,ds[j]?=some d->∃ y,w.cell? (a.add j)=some y∧DRep h d y
theorem Reads.of_cells{h:Hp}{w:World}{k off:Nat}{c:Array Value}{e:TypeId}{fr:Nat×Nat}{ds:List DV}(hk:w.heap[k]?=some (.cells c e fr))(hd:DReps h ds fun i=>c[off+i]?):Reads h w ⟨k,off,none⟩ ds:=by
 intro j d hj;obtain⟨y,h1,h2⟩:=hd.get j d hj;refine⟨y,?_,h2⟩;rw[Addr.add_lit];simp only[World.cell?,hk];simpa using h1
theorem DReps.drop{h:Hp}{ds:List DV}{g:Nat->Option Value}(k:DReps h ds g)(n:Nat):DReps h (ds.drop n) fun i=>g (n+i):=by
 rw[DReps.iff]at *;intro i d hd;rw[VC]at hd;exact k (n+i) d hd
theorem DReps.take{h:Hp}{ds:List DV}{g:Nat->Option Value}(k:DReps h ds g)(n:Nat):DReps h (ds.take n) g:=by
 rw[DReps.iff]at *;intro i d hd;rw[VY]at hd;split at hd
 ·exact k i d hd
 cases hd
theorem DReps.congr{h:Hp}{ds:List DV}{g g':Nat->Option Value}(k:DReps h ds g)(e:∀ i,i<ds.length->g' i=g i):DReps h ds g':=by
 rw[DReps.iff]at *;intro i d hd;rw[e i (Uu.1 hd).1];exact k i d hd
theorem nZ{P:Program}{h:Hp}{w:World}{a:Addr}{ds:List DV}(k:Reads h w a ds):∃ cs:Array Value,(loadCells a ds.length).run P w=.ok cs w∧cs.size=ds.length∧DReps h ds fun i=>cs[i]?:=by
 have hf:∀ j,j<ds.length->w.cell? (a.add j)=some ((w.cell? (a.add j)).getD undef):=fun j hj=>by
  obtain⟨y,h1,_⟩:=k j ds[j] (Fl hj);rw[h1];rfl
 refine⟨_,run_loadCells w a ds.length _ hf,by simp,?_⟩;rw[DReps.iff];intro j d hj;have hlt:=(Uu.1 hj).1;obtain⟨y,h1,h2⟩:=k j d hj;refine⟨y,?_,h2⟩;simp[hlt,h1]
theorem gz{P:Program}{T:TypeId}{i:TyI}(ht:TyOK P T i)(hg:i.sh.agg=true){h:Hp}{w:World}{a:Addr}{ds:List DV}(hl:ds.length=i.size)(k:Reads h w a ds) :
  ∃ x,(loadVar T a).run P w=.ok x w∧PRep h (.a ds) x:=by
 obtain⟨cs,h1,h2,h3⟩:=nZ (P:=P) k;refine⟨.agg cs,?_,cs,rfl,h2,h3⟩;simp only[loadVar,Sem.run_bind,ht.isAgg,hg,Result.andThen_ok,if_true,ht.size,<- hl,h1,Sem.run_pure]
theorem gy{P:Program}{T:TypeId}{i:TyI}(ht:TyOK P T i)(hg:i.sh.agg=false){h:Hp}{w:World}{a:Addr}{d:DV}(k:Reads h w a [d]) :
  ∃ x,(loadVar T a).run P w=.ok x w∧PRep h (.c d) x:=by
 obtain⟨y,h1,h2⟩:=k 0 d rfl;rw[Addr.add_zero']at h1;refine⟨y,?_,h2⟩;simp only[loadVar,Sem.run_bind,ht.isAgg,hg,Result.andThen_ok,Bool.false_eq_true,if_false,run_load,h1]
theorem lY{C:Ctx}{h:Hp}{r:Nat->Value}{own:Own}{w:World}(hw:WOK C h r own w){m off:Nat}{b:Blk}(hb:own m=some b){x:Value}(hx:AVRep h r (.loc m off) x) :
  ∃ k,x=.pointer (some ⟨k,off,none⟩)∧aD (r m)=some k∧∃ c,w.heap[k]?=some (.cells c b.e (0,0))∧b.cs.length<=c.size∧DReps h b.cs fun i=>c[i]?:=by
 obtain⟨k,⟨hk,him⟩,rfl⟩:=hx;refine⟨k,rfl,hk,?_⟩;have:=hw.ow m b hb;rcases BlkRep.kinds b with hv|⟨hv,hs⟩|⟨hv,hs⟩
 ·rw[BlkRep.boxE hv]at this;obtain⟨k',c,h1,h2,h3,h4⟩:=this;rw[h1]at hk;simp only[aD,Option.some.injEq]at hk;subst hk;exact⟨c,h2,by omega,h4⟩
 ·rw[BlkRep.slE hv hs]at this;obtain⟨a,n,cap,h1,h2,h3,h4,h5⟩:=this;rcases h5 with h5|⟨k',c,rfl,g2,g3,g4⟩
  ·subst h5;rw[h1]at hk;cases a <;> simp[aD]at hk
  rw[h1]at hk;simp only[aD]at hk;split at hk
  ·cases hk
  simp only[Option.some.injEq]at hk;subst hk;exact⟨c,g2,by rw[g3,<- h2];exact Uy _ h3,g4⟩
 rw[BlkRep.mpE hv hs]at this;obtain⟨i,e⟩:=this.isMap;rw[e]at him;cases him
theorem fz{C:Ctx}{h:Hp}{r:Nat->Value}{own:Own}{w:World}(hw:WOK C h r own w){m off:Nat}{b:Blk}(hb:own m=some b){x:Value}(hx:AVRep h r (.loc m off) x) :
  ∃ k,x=.pointer (some ⟨k,off,none⟩)∧Reads h w ⟨k,off,none⟩ (b.cs.drop off):=by
 obtain⟨k,h1,_,c,h3,_,h5⟩:=lY hw hb hx;exact⟨k,h1,Reads.of_cells h3 (h5.drop off)⟩
theorem wX{C:Ctx}{h:Hp}{r:Nat->Value}{own:Own}{w:World}(hw:WOK C h r own w){xs:List DV}{x:Value}(hx:AVRep h r (.ip xs) x):∃ k off,x=.pointer (some ⟨k,off,none⟩)∧Reads h w ⟨k,off,none⟩ xs:=by
 obtain⟨b,off,c,e,fr,h1,h2,h3⟩:=hx;exact⟨b,off,h1,Reads.of_cells (hw.hi _ _ h2) h3⟩
theorem Reads.take{h:Hp}{w:World}{a:Addr}{ds:List DV}(k:Reads h w a ds){es:List DV}(e:es <+: ds):Reads h w a es:=by
 obtain⟨t,rfl⟩:=e;intro j d hj;exact k j d (by rw[UQ (Uu.1 hj).1];exact hj)
theorem aP{P:Program}{o:Oper}{d:Nat}{ρ:Operand->AV}{own:Own}{v:AV}{rd:List Nat}(H:∀ (C:Ctx) (h:Hp) (r:Nat->Value) (own':Own) (a:Act) (w:World),(∀ x∈o.op.operands,AVRep h r (ρ x) (a.eval x))->(∀ m∈rd,own' m=own m)->WOK C h r own' w->∃ x,(execOp a.eval o).run P w=.ok (.value x) w∧AVRep h r v x) :
  Eff P o d ρ own v [] none rd:=by
 intro C h r own' a w K Q hrep hrd hw _ hK;obtain⟨x,h1,h2⟩:=H C h r own' a w hrep hrd hw;unfold Oper.wp;rw[h1];exact hK x h r w (.refl _) (fun _ _=>rfl) h2 hw
section ops
variable {P:Program}{tt:TT}(hT:bM P tt)
variable {dst:Option Nat}{ty:TypeId}{pos:String}{af:Array Edge}{gd:Option (Nat×Bool)}{d:Nat}{ρ:Operand->AV}{own:Own}
theorem aK{x:Operand}{v:AV}(hx:ρ x=v):Eff P ⟨dst,.move x,ty,pos,af,gd⟩ d ρ own v [] none [] :=
 aP fun C h r own' a w hrep _ _=>⟨_,rfl,hx▸hrep x (by simp[Op.operands])⟩
theorem bW{x:Operand}{v:AV}(hx:ρ x=v):Eff P ⟨dst,.assign x,ty,pos,af,gd⟩ d ρ own v [] none [] :=
 aP fun C h r own' a w hrep _ _=>⟨_,rfl,hx▸hrep x (by simp[Op.operands])⟩
theorem cG{x:Operand}{m o:Nat}(hx:ρ x=.loc m o):Eff P ⟨dst,.nilCheck x,ty,pos,af,gd⟩ d ρ own (.loc m o) [] none [] :=
 aP fun C h r own' a w hrep _ _=>by
  have:=hrep x (by simp[Op.operands]);rw[hx]at this;obtain⟨k,h1,h2⟩:=this;exact⟨_,by simp only[execOp,h2];rfl,k,h1,rfl⟩
theorem sW{x:Operand}{xs:List DV}(hx:ρ x=.ip xs):Eff P ⟨dst,.nilCheck x,ty,pos,af,gd⟩ d ρ own (.ip xs) [] none [] :=
 aP fun C h r own' a w hrep _ _=>by
  have:=hrep x (by simp[Op.operands]);rw[hx]at this;obtain⟨b,off,c,e,fr,h1,h2⟩:=this;exact⟨_,by simp only[execOp,h1];rfl,b,off,c,e,fr,rfl,h2⟩
theorem qI{h:Hp}{r:Nat->Value}{b:Bool}{x:Value}(k:AVRep h r (.p (.c (.v (.bool b)))) x):x=.bool b:=by
 simp only[AVRep,PRep,DRep]at k;exact k.1
theorem bh{h:Hp}{r:Nat->Value}{y x:Value}(k:AVRep h r (.p (.c (.v y))) x):x=y:=by
 simp only[AVRep,PRep,DRep]at k;exact k.1
theorem lC(h:Hp)(r:Nat->Value)(k:IntKind)(n:Int):AVRep h r (.p (.c (.v (.int k n)))) (.int k n):=by simp only[AVRep,PRep,DRep];exact⟨trivial,rfl⟩
theorem jp(h:Hp)(r:Nat->Value)(b:Bool):AVRep h r (.p (.c (.v (.bool b)))) (.bool b):=by simp only[AVRep,PRep,DRep];exact⟨trivial,rfl⟩
theorem cQ{c x y:Operand}{b:Bool}{v:AV}(hc:ρ c=.p (.c (.v (.bool b))))(hb:b=true)(hx:ρ x=v):Eff P ⟨dst,.pick c x y,ty,pos,af,gd⟩ d ρ own v [] none [] :=
 aP fun C h r own' a w hrep _ _=>by
  have h1:=hrep c (by simp[Op.operands]);rw[hc]at h1;refine⟨a.eval x,?_,hx▸hrep x (by simp[Op.operands])⟩;simp[execOp,qI h1,asBool,hb]
theorem bA{c x y:Operand}{b:Bool}{v:AV}(hc:ρ c=.p (.c (.v (.bool b))))(hb:b=false)(hy:ρ y=v):Eff P ⟨dst,.pick c x y,ty,pos,af,gd⟩ d ρ own v [] none [] :=
 aP fun C h r own' a w hrep _ _=>by
  have h1:=hrep c (by simp[Op.operands]);rw[hc]at h1;refine⟨a.eval y,?_,hy▸hrep y (by simp[Op.operands])⟩;simp[execOp,qI h1,asBool,hb]
theorem kR{x:Operand}{i:Nat}{vs:List PV}{v:PV}(hx:ρ x=.t vs)(hi:vs[i]?=some v):Eff P ⟨dst,.extract x i,ty,pos,af,gd⟩ d ρ own (.p v) [] none [] :=
 aP fun C h r own' a w hrep _ _=>by
  have h1:=hrep x (by simp[Op.operands]);rw[hx]at h1;obtain⟨xs,h2,h3⟩:=h1;have key:∀ (ps:List PV) (ys:List Value),PReps h ps ys->∀ (j:Nat),ps[j]?=some v->∃ y,ys[j]?=some y∧PRep h v y:=by
   intro ps;induction ps with
   |nil=>intro ys _ j hj;simp at hj
   |cons p ps ih=>intro ys hk j hj;cases ys with
    |nil=>exact hk.elim
    |cons y ys=>cases j with
     |zero=>simp at hj;subst hj;exact⟨y,rfl,hk.1⟩
     |succ j=>exact ih ys hk.2 j (by simpa using hj)
  obtain⟨y,h4,h5⟩:=key _ _ h3 i hi;refine⟨y,?_,h5⟩;simp[execOp,h2,Instr.extract,h4]
theorem cZ{T:TypeId}{x:Operand}{b:Bool}(hx:ρ x=.p (.c (.v (.bool b)))):Eff P ⟨dst,.unOp .not T x,ty,pos,af,gd⟩ d ρ own (.p (.c (.v (.bool (!b))))) [] none [] :=
 aP fun C h r own' a w hrep _ _=>by
  have h1:=hrep x (by simp[Op.operands]);rw[hx]at h1;exact⟨_,by simp[execOp,qI h1,Op.unary],jp _ _ _⟩
theorem fA{T:TypeId}{x:Operand}{k:IntKind}{n c:Int}(hx:ρ x=.p (.c (.v (.int k n))))(hc:k.wrap (0-n)=c):Eff P ⟨dst,.unOp .neg T x,ty,pos,af,gd⟩ d ρ own (.p (.c (.v (.int k c)))) [] none [] :=
 aP fun C h r own' a w hrep _ _=>by
  have h1:=hrep x (by simp[Op.operands]);rw[hx]at h1;exact⟨_,by simp only[execOp,bh h1,Op.unary,Op.intArith,hc];rfl,lC _ _ _ _⟩
theorem cB{op:BinOp}{T yT:TypeId}{x y:Operand}{k k':IntKind}{m n:Int}{v:Value}(hx:ρ x=.p (.c (.v (.int k m))))(hy:ρ y=.p (.c (.v (.int k' n))))(hv:∀ w,(binOp op T (.int k m) (.int k' n)).run P w=.ok v w)(h1:v.oneCell'=true) :
  Eff P ⟨dst,.binOp op T x y yT,ty,pos,af,gd⟩ d ρ own (.p (.c (.v v))) [] none [] :=
 aP fun C h r own' a w hrep _ _=>by
  have e1:=hrep x (by simp[Op.operands]);have e2:=hrep y (by simp[Op.operands]);rw[hx]at e1;rw[hy]at e2;refine⟨v,?_,by simp only[AVRep,PRep,DRep];exact⟨trivial,h1⟩⟩;simp only[execOp,bh e1,bh e2,eqGuard_at_int,Sem.run_bind,Sem.run_pure,Result.andThen_ok,hv]
variable {T yT:TypeId}{x y:Operand}{k k':IntKind}{m n c:Int}
theorem bB(hx:ρ x=.p (.c (.v (.int k m))))(hy:ρ y=.p (.c (.v (.int k n))))(hc:k.wrap (m+n)=c):Eff P ⟨dst,.binOp .add T x y yT,ty,pos,af,gd⟩ d ρ own (.p (.c (.v (.int k c)))) [] none [] :=
 cB hx hy (fun w=>by rw[binOp_add];simp[Op.intArith,hc]) rfl
theorem aY(hx:ρ x=.p (.c (.v (.int k m))))(hy:ρ y=.p (.c (.v (.int k n))))(hc:k.wrap (m-n)=c):Eff P ⟨dst,.binOp .sub T x y yT,ty,pos,af,gd⟩ d ρ own (.p (.c (.v (.int k c)))) [] none [] :=
 cB hx hy (fun w=>by rw[binOp_sub];simp[Op.intArith,hc]) rfl
theorem bw(hx:ρ x=.p (.c (.v (.int k m))))(hy:ρ y=.p (.c (.v (.int k n))))(hc:k.wrap (m*n)=c):Eff P ⟨dst,.binOp .mul T x y yT,ty,pos,af,gd⟩ d ρ own (.p (.c (.v (.int k c)))) [] none [] :=
 cB hx hy (fun w=>by rw[binOp_mul];simp[Op.intArith,hc]) rfl
theorem bV(hx:ρ x=.p (.c (.v (.int k m))))(hy:ρ y=.p (.c (.v (.int k n))))(hn:n≠0)(hc:k.wrap (m.tdiv n)=c):Eff P ⟨dst,.binOp .quo T x y yT,ty,pos,af,gd⟩ d ρ own (.p (.c (.v (.int k c)))) [] none [] :=
 cB hx hy (fun w=>by rw[binOp_quo];simp[Op.intDiv,hc,hn]) rfl
theorem cf(hx:ρ x=.p (.c (.v (.int k m))))(hy:ρ y=.p (.c (.v (.int k n))))(hn:n≠0)(hc:m.tmod n=c):Eff P ⟨dst,.binOp .rem T x y yT,ty,pos,af,gd⟩ d ρ own (.p (.c (.v (.int k c)))) [] none [] :=
 cB hx hy (fun w=>by rw[binOp_rem];simp[Op.intDiv,hc,hn]) rfl
theorem N3(hx:ρ x=.p (.c (.v (.int k m))))(hy:ρ y=.p (.c (.v (.int k n))))(hc:bits .and k m n=c):Eff P ⟨dst,.binOp .and T x y yT,ty,pos,af,gd⟩ d ρ own (.p (.c (.v (.int k c)))) [] none [] :=
 cB hx hy (fun w=>by rw[binOp_and,intBits_and];simp[hc]) rfl
theorem pE(hx:ρ x=.p (.c (.v (.int k m))))(hy:ρ y=.p (.c (.v (.int k n))))(hc:bits .or k m n=c):Eff P ⟨dst,.binOp .or T x y yT,ty,pos,af,gd⟩ d ρ own (.p (.c (.v (.int k c)))) [] none [] :=
 cB hx hy (fun w=>by rw[binOp_or,intBits_or];simp[hc]) rfl
theorem rJ(hx:ρ x=.p (.c (.v (.int k m))))(hy:ρ y=.p (.c (.v (.int k' n))))(hn:0<=n)(hc:k.wrap (m*2^(min n.toNat k.bits))=c):Eff P ⟨dst,.binOp .shl T x y yT,ty,pos,af,gd⟩ d ρ own (.p (.c (.v (.int k c)))) [] none [] :=
 cB hx hy (fun w=>by rw[binOp_shl];simp[Op.shift,show ¬ n<0 by omega,hc]) rfl
theorem N1(hx:ρ x=.p (.c (.v (.int k m))))(hy:ρ y=.p (.c (.v (.int k' n))))(hn:0<=n)(hc:m.fdiv (2^(min n.toNat k.bits))=c):Eff P ⟨dst,.binOp .shr T x y yT,ty,pos,af,gd⟩ d ρ own (.p (.c (.v (.int k c)))) [] none [] :=
 cB hx hy (fun w=>by rw[binOp_shr];simp[Op.shift,show ¬ n<0 by omega,hc]) rfl
theorem kz(hx:ρ x=.p (.c (.v (.int k m))))(hy:ρ y=.p (.c (.v (.int k n)))):Eff P ⟨dst,.binOp .eql T x y yT,ty,pos,af,gd⟩ d ρ own (.p (.c (.v (.bool (m==n))))) [] none [] :=
 cB hx hy (fun w=>by rw[binOp_eql];rfl) rfl
theorem eZ(hx:ρ x=.p (.c (.v (.int k m))))(hy:ρ y=.p (.c (.v (.int k n)))):Eff P ⟨dst,.binOp .neq T x y yT,ty,pos,af,gd⟩ d ρ own (.p (.c (.v (.bool (m != n))))) [] none [] :=
 cB hx hy (fun w=>by rw[binOp_neq];rfl) rfl
theorem ed(hx:ρ x=.p (.c (.v (.int k m))))(hy:ρ y=.p (.c (.v (.int k n)))):Eff P ⟨dst,.binOp .lss T x y yT,ty,pos,af,gd⟩ d ρ own (.p (.c (.v (.bool (decide (m<n)))))) [] none [] :=
 cB hx hy (fun w=>by rw[binOp_lss];rfl) rfl
theorem kx(hx:ρ x=.p (.c (.v (.int k m))))(hy:ρ y=.p (.c (.v (.int k n)))):Eff P ⟨dst,.binOp .leq T x y yT,ty,pos,af,gd⟩ d ρ own (.p (.c (.v (.bool (decide (m<=n)))))) [] none [] :=
 cB hx hy (fun w=>by rw[binOp_leq];rfl) rfl
theorem iL(hx:ρ x=.p (.c (.v (.int k m))))(hy:ρ y=.p (.c (.v (.int k n)))):Eff P ⟨dst,.binOp .gtr T x y yT,ty,pos,af,gd⟩ d ρ own (.p (.c (.v (.bool (decide (n<m)))))) [] none [] :=
 cB hx hy (fun w=>by rw[binOp_gtr];rfl) rfl
theorem rN(hx:ρ x=.p (.c (.v (.int k m))))(hy:ρ y=.p (.c (.v (.int k n)))):Eff P ⟨dst,.binOp .geq T x y yT,ty,pos,af,gd⟩ d ρ own (.p (.c (.v (.bool (decide (n<=m)))))) [] none [] :=
 cB hx hy (fun w=>by rw[binOp_geq];rfl) rfl
include hT in
theorem N2{i:TyI}{p q:Bool}(ht:tt T=some i)(hs:i.sh=.bool)(hx:ρ x=.p (.c (.v (.bool p))))(hy:ρ y=.p (.c (.v (.bool q)))):Eff P ⟨dst,.binOp .eql T x y yT,ty,pos,af,gd⟩ d ρ own (.p (.c (.v (.bool (p==q))))) [] none [] :=
 aP fun C h r own' a w hrep _ _=>by
  have e1:=hrep x (by simp[Op.operands]);have e2:=hrep y (by simp[Op.operands]);rw[hx]at e1;rw[hy]at e2;refine⟨_,?_,jp _ _ _⟩;simp only[execOp,bh e1,bh e2,eqGuard_at_bool,Sem.run_bind,Sem.run_pure,Result.andThen_ok,binOp,run_equal_bool w T p q ((hT T i ht).bool hs)]
include hT in
theorem ox{i:TyI}{p q:Bool}(ht:tt T=some i)(hs:i.sh=.bool)(hx:ρ x=.p (.c (.v (.bool p))))(hy:ρ y=.p (.c (.v (.bool q)))):Eff P ⟨dst,.binOp .neq T x y yT,ty,pos,af,gd⟩ d ρ own (.p (.c (.v (.bool (!(p==q)))))) [] none [] :=
 aP fun C h r own' a w hrep _ _=>by
  have e1:=hrep x (by simp[Op.operands]);have e2:=hrep y (by simp[Op.operands]);rw[hx]at e1;rw[hy]at e2;refine⟨_,?_,jp _ _ _⟩;simp only[execOp,bh e1,bh e2,eqGuard_at_bool,Sem.run_bind,Sem.run_pure,Result.andThen_ok,binOp,run_equal_bool w T p q ((hT T i ht).bool hs)]
include hT in
theorem aQ{S:TypeId}{i j:TyI}(hs:tt S=some i)(ht:tt T=some j)(hj:j.sh=.int k')(hx:ρ x=.p (.c (.v (.int k m))))(hc:k'.wrap m=c):Eff P ⟨dst,.convert S T x,ty,pos,af,gd⟩ d ρ own (.p (.c (.v (.int k' c)))) [] none [] :=
 aP fun C h r own' a w hrep _ _=>by
  have e1:=hrep x (by simp[Op.operands]);rw[hx]at e1;refine⟨_,?_,lC _ _ _ _⟩;obtain⟨d1,g1,_⟩:=(hT S i hs).und;simp only[execOp,bh e1,convert,Sem.run_bind,run_underlying g1,run_underlying ((hT T j ht).int hj),Result.andThen_ok,Conv.intToInt,hc,Sem.run_pure]
theorem gv{b:Builtin}{args:Array Operand}{tys:Array TypeId}{v:Value}(hb:∀ (C:Ctx) h r own' (a:Act) w,(∀ x∈args.toList,AVRep h r (ρ x) (a.eval x))->WOK C h r own' w->(builtin b tys ty (args.map fun | .const _=>true|_=>false) (args.map a.eval)).run P w=.ok (.value v) w)(h1:v.oneCell'=true) :
  Eff P ⟨dst,.call ⟨.builtin b,args,tys⟩,ty,pos,af,gd⟩ d ρ own (.p (.c (.v v))) [] none [] :=
 aP fun C h r own' a w hrep _ hw=>by
  refine⟨v,?_,by simp only[AVRep,PRep,DRep];exact⟨trivial,h1⟩⟩;have:=hb C h r own' a w (fun x hx=>hrep x (by simp only[Op.operands,Call.operands];exact Wa.2 (.inr (VN.1 hx)))) hw;simp only[execOp,resolve,Sem.run_bind,Sem.run_pure,Result.andThen_ok,invoke];exact this
def oZ:DV->Option (Nat×List DV)
 |.sl n xs=>some (n,xs)
 |.v (.slice none 0 0)=>some (0,[])
 |_=>none
theorem iZ{h:Hp}{dv:DV}{n:Nat}{xs:List DV}{v:Value}(e:oZ dv=some (n,xs))(k:DRep h dv v):DRep h (.sl n xs) v:=by
 unfold oZ at e;split at e
 ·cases e;exact k
 ·cases e;simp only[DRep]at k ⊢;exact⟨none,0,k.1,Iv _,by omega,.inl trivial⟩
 cases e
include hT in
theorem dy{i:TyI}{e l:Nat}{xs:List DV}{dv:DV}(ht:tt T=some i)(hs:i.sh=.sl e)(hx:ρ x=.p (.c dv))(hsl:oZ dv=some (l,xs)):Eff P ⟨dst,.call ⟨.builtin .len,#[x],#[T]⟩,ty,pos,af,gd⟩ d ρ own (.p (.c (.v (.int .i64 l)))) [] none [] :=
 gv (fun C h r own' a w hrep _=>by
  have e1:=hrep x (by simp);rw[hx]at e1;have e2:=iZ hsl e1;simp only[DRep]at e2;obtain⟨ad,cap,h1,_⟩:=e2;simp[builtin,h1,Builtin.len_,run_underlying ((hT T i ht).slice hs),goInt]) rfl
end ops
def bv:PV->List DV
 |.c d=>[d]
 |.a ds=>ds
theorem PRep.cells{h:Hp}:∀ {v:PV} {x:Value},PRep h v x->x.cells.size=(bv v).length∧DReps h (bv v) (fun i=>x.cells[i]?)∧∀ y∈x.cells.toList,y.oneCell'=true
 |.c d,x,k=>by
  have h1:=DRep.one k;have hc:x.cells=#[x]:=by cases x <;> first|rfl|(cases h1)
  rw[hc];refine⟨rfl,?_,?_⟩
  ·simp only[bv,DReps,and_true];exact⟨x,rfl,k⟩
  intro y hy;simp at hy;subst hy;exact h1
 |.a ds,x,⟨cs,e,s,r⟩=>by
  subst e;refine⟨s,r,?_⟩;intro y hy;obtain⟨i,hi⟩:=List.mem_iff_getElem?.1 hy;have hi':cs[i]?=some y:=by rw[<- UJ];exact hi
  have hlt:=(K0.1 hi').1;obtain⟨z,h1,h2⟩:=r.get i ds[i] (Fl (by omega));rw[hi']at h1;cases h1;exact h2.one
theorem TyOK.zero{P:Program}{T:TypeId}{i:TyI}(h:TyOK P T i)(w:World):∃ z,(zeroValue T).run P w=.ok z w∧z.cells.size=i.size∧i.zero.length=i.size∧∀ h,DReps h i.zero fun j=>z.cells[j]?:=by
 obtain⟨ti,h1,_,_,z,h4,h5⟩:=h.info;exact⟨z,by simp[zeroValue,typeInfo,h1,h4],h5⟩
def spl:Nat->List DV->List DV->List DV
 |_,[],cs=>cs
 |0,v::vs,_::cs=>v::spl 0 vs cs
 |n+1,vs,c::cs=>c::spl n vs cs
 |_,_,[]=>[]
theorem fO:∀ (n:Nat) (vs cs:List DV),(spl n vs cs).length=cs.length
 |_,[],cs=>by simp[spl]
 |0,v::vs,c::cs=>by simp[spl,fO 0 vs cs]
 |n+1,v::vs,c::cs=>by simp[spl,fO n (v::vs) cs]
 |0,_::_,[]=>by simp[spl]
 |_+1,_::_,[]=>by simp[spl]
theorem mI:∀ (n:Nat) (vs cs:List DV),n+vs.length<=cs.length->∀ (j:Nat),(spl n vs cs)[j]?=if n<=j∧j<n+vs.length then vs[j-n]? else cs[j]?
 |n,[],cs,_,j=>by
  simp only[spl,List.length_nil];rw[G2 (by omega)]
 |0,v::vs,c::cs,h,j=>by
  simp only[List.length_cons]at h;cases j with
  |zero=>simp[spl]
  |succ j =>
   simp only[spl,List.getElem?_cons_succ,mI 0 vs cs (by omega) j,List.length_cons,Nat.sub_zero];by_cases hj:j<vs.length
   ·rw[H2 (by omega),H2 (by omega)]
   rw[G2 (by omega),G2 (by omega)]
 |n+1,v::vs,c::cs,h,j=>by
  simp only[List.length_cons]at h;cases j with
  |zero=>simp[spl]
  |succ j =>
   simp only[spl,List.getElem?_cons_succ,mI n (v::vs) cs (by simp only[List.length_cons];omega) j,List.length_cons];by_cases hj:n<=j∧j<n+(vs.length+1)
   ·rw[H2 hj,H2 (by omega),show j+1-(n+1)=j-n by omega]
   rw[G2 hj,G2 (by omega)]
 |0,_::_,[],h,_=>by simp at h
 |_+1,_::_,[],h,_=>by simp at h
section ops
variable {P:Program}{tt:TT}(hT:bM P tt)
variable {dst:Option Nat}{ty:TypeId}{pos:String}{af:Array Edge}{gd:Option (Nat×Bool)}{d:Nat}{ρ:Operand->AV}{own:Own}
variable {T:TypeId}{i:TyI}{x y:Operand}
theorem iP{C:Ctx}{h:Hp}{r:Nat->Value}{own':Own}{a:Act}{w:World}{o:Oper}{K:Act->World->Prop}{Q:Exit->Act->World->Prop}{b:Blk}{v:AV}{x:Value}{c:Array Value}(hal:own' d=none∧C.np<=d∧∀ m b,own' m=some b->d ∉ lnk b)(hw:WOK C h r own' w)(hx:∀ k,aD x=some k->k=w.heap.size)(hb:BlkRep h (w.alloc (.cells c b.e)) x b)(hv:∀ h r',r' d=x->AVRep h r' v x)(hrun:(execOp a.eval o).run P w=.ok (.value x) (w.alloc (.cells c b.e)))(hK:∀ x h' r' w',Hle h h'->(∀ m,(some b≠none->m≠d)->r' m=r m)->AVRep h' r' v x->WOK C h' r' (gJ own' [] (some b) d) w'->K (a.put o.dst x) w')(hl0:lnk b=[]:=by rfl):o.wp P a w K Q:=by
 unfold Oper.wp;rw[hrun];exact hK x h (upd r d x) _ (.refl _) (fun m hm=>aj _ _ _ _ (hm (by simp))) (hv _ _ (by simp)) (hw.alloc hal.1 hal.2.1 hx hb hal.2.2 hl0)
theorem wo{v:PV}{cs:List DV}(hx:ρ x=.p v)(hcs:bv v=cs):Eff P ⟨dst,.box T x,ty,pos,af,gd⟩ d ρ own (.loc d 0) [] (some ⟨false,1,T,cs⟩) []:=by
 intro C h r own' a w K Q hrep _ hw hal hK;have e1:=hrep x (by simp[Op.operands]);rw[hx]at e1;obtain⟨h1,h2,_⟩:=PRep.cells e1;refine iP (hal (by simp)) hw (x:=.pointer (some ⟨w.heap.size,0,none⟩)) (c:=(a.eval x).cells) ?_ ?_ ?_ ?_ hK
 ·intro k hk;simp[aD]at hk;exact hk.symm
 ·refine⟨w.heap.size,(a.eval x).cells,rfl,by rw[heap_alloc,H2 rfl],?_,?_⟩
  ·rw[h1,hcs]
  rw[<- hcs];exact h2
 ·intro h r' hr;exact⟨w.heap.size,⟨by rw[hr];rfl,by rw[hr];rfl⟩,rfl⟩
 simp only[execOp,Instr.box,newVar,newRow,Sem.run_bind,run_newObj,Result.andThen_ok,Sem.run_pure];rfl
include hT in
theorem wt{z:List DV}(ht:tt T=some i)(hz:i.zero=z):Eff P ⟨dst,.alloc T,ty,pos,af,gd⟩ d ρ own (.loc d 0) [] (some ⟨false,1,T,z⟩) []:=by
 subst hz;intro C h r own' a w K Q hrep _ hw hal hK;obtain⟨z,h1,h2,h3,h4⟩:=(hT T i ht).zero w;refine iP (hal (by simp)) hw (x:=.pointer (some ⟨w.heap.size,0,none⟩)) (c:=z.cells) ?_ ?_ ?_ ?_ hK
 ·intro k hk;simp[aD]at hk;exact hk.symm
 ·exact⟨w.heap.size,z.cells,rfl,by rw[heap_alloc,H2 rfl],by rw[h2,h3],h4 _⟩
 ·intro h r' hr;exact⟨w.heap.size,⟨by rw[hr];rfl,by rw[hr];rfl⟩,rfl⟩
 simp only[execOp,Instr.alloc,newVar,newRow,Sem.run_bind,h1,run_newObj,Result.andThen_ok,Sem.run_pure];rfl
theorem ez{a:Addr}{w:World}:(Instr.loadAt T (.pointer (some a))).run P w=(loadVar T a).run P w:=by
 simp[Instr.loadAt,Instr.sureAddr]
include hT in
theorem aN{m off:Nat}{b:Blk}{cs rest:List DV}(ht:tt T=some i)(hg:i.sh.agg=true)(hx:ρ x=.loc m off)(hb:own m=some b)(hcs:b.cs.drop off=cs++rest)(hl:cs.length=i.size) :
  Eff P ⟨dst,.load T x,ty,pos,af,gd⟩ d ρ own (.p (.a cs)) [] none [m] :=
 aP fun C h r own' a w hrep hrd hw=>by
  have e1:=hrep x (by simp[Op.operands]);rw[hx]at e1;obtain⟨k,h1,h2⟩:=fz hw ((hrd m (by simp)).trans hb) e1;obtain⟨y,h3,h4⟩:=gz (hT T i ht) hg hl (h2.take (es:=cs) ⟨rest,hcs.symm⟩);refine⟨y,?_,h4⟩;simp only[execOp,h1,Sem.run_bind,ez,h3,Result.andThen_ok,Sem.run_pure]
include hT in
theorem bq{m off:Nat}{b:Blk}{dv:DV}(ht:tt T=some i)(hg:i.sh.agg=false)(hx:ρ x=.loc m off)(hb:own m=some b)(hcs:b.cs[off]?=some dv) :
  Eff P ⟨dst,.load T x,ty,pos,af,gd⟩ d ρ own (.p (.c dv)) [] none [m] :=
 aP fun C h r own' a w hrep hrd hw=>by
  have e1:=hrep x (by simp[Op.operands]);rw[hx]at e1;obtain⟨k,h1,h2⟩:=fz hw ((hrd m (by simp)).trans hb) e1;have hd:[dv] <+: b.cs.drop off:=by
   obtain⟨hlt,hv⟩:=Uu.1 hcs;rw[Vn hlt,hv];exact⟨_,rfl⟩
  obtain⟨y,h3,h4⟩:=gy (hT T i ht) hg (h2.take hd);refine⟨y,?_,h4⟩;simp only[execOp,h1,Sem.run_bind,ez,h3,Result.andThen_ok,Sem.run_pure]
include hT in
theorem au{xs cs rest:List DV}(ht:tt T=some i)(hg:i.sh.agg=true)(hx:ρ x=.ip xs)(hcs:xs=cs++rest)(hl:cs.length=i.size) :
  Eff P ⟨dst,.load T x,ty,pos,af,gd⟩ d ρ own (.p (.a cs)) [] none [] :=
 aP fun C h r own' a w hrep hrd hw=>by
  have e1:=hrep x (by simp[Op.operands]);rw[hx]at e1;obtain⟨k,off,h1,h2⟩:=wX hw e1;obtain⟨y,h3,h4⟩:=gz (hT T i ht) hg hl (h2.take (es:=cs) ⟨rest,hcs.symm⟩);refine⟨y,?_,h4⟩;simp only[execOp,h1,Sem.run_bind,ez,h3,Result.andThen_ok,Sem.run_pure]
include hT in
theorem aM{xs:List DV}{dv:DV}(ht:tt T=some i)(hg:i.sh.agg=false)(hx:ρ x=.ip xs)(hcs:xs[0]?=some dv) :
  Eff P ⟨dst,.load T x,ty,pos,af,gd⟩ d ρ own (.p (.c dv)) [] none [] :=
 aP fun C h r own' a w hrep hrd hw=>by
  have e1:=hrep x (by simp[Op.operands]);rw[hx]at e1;obtain⟨k,off,h1,h2⟩:=wX hw e1;have hd:[dv] <+: xs:=by
   cases xs with
   |nil=>simp at hcs
   |cons y ys=>simp at hcs;subst hcs;exact⟨ys,rfl⟩
  obtain⟨y,h3,h4⟩:=gy (hT T i ht) hg (h2.take hd);refine⟨y,?_,h4⟩;simp only[execOp,h1,Sem.run_bind,ez,h3,Result.andThen_ok,Sem.run_pure]
include hT in
theorem iI{m off:Nat}{b:Blk}{v:PV}{cs:List DV}(ht:tt T=some i)(hx:ρ x=.loc m off)(hy:ρ y=.p v)(hb:own m=some b)(hl:(bv v).length=i.size)(hin:off+(bv v).length<=b.cs.length)(hcs:spl off (bv v) b.cs=cs) :
  Eff P ⟨dst,.store T x y,ty,pos,af,gd⟩ d ρ own .junk [(m,some ⟨b.vec,usz b,b.e,cs⟩)] none [m]:=by
 subst hcs;intro C h r own' a w K Q hrep hrd hw _ hK;have hb':=(hrd m (by simp)).trans hb;have e1:=hrep x (by simp[Op.operands]);have e2:=hrep y (by simp[Op.operands]);rw[hx]at e1;rw[hy]at e2;obtain⟨k,h1,h2,c,h3,h4,h5⟩:=lY hw hb' e1;obtain⟨g1,g2,g3⟩:=PRep.cells e2;obtain⟨w',c',k1,k2,k3,k4,k5⟩:=bJ P k b.e (a.eval y).cells.toList off 0 w c h3 (by simp only[Array.length_toList,g1];omega) g3;have hrun:(execOp a.eval ⟨dst,.store T x y,ty,pos,af,gd⟩).run P w=.ok .skip w':=by
  have:¬ ((a.eval y).cells.size≠i.size):=by rw[g1,hl];simp
  simp only[execOp,h1,Instr.storeAt,Instr.sureAddr,storeVar,Sem.run_bind,Sem.run_pure,(hT T i ht).size,Result.andThen_ok,this,if_false];simp only[Result.andThen_ok,k1]
 unfold Oper.wp;rw[hrun];have hrep':DReps h (spl off (bv v) b.cs) fun j=>c'[j]?:=by
  rw[DReps.iff];intro j dv hj;rw[mI _ _ _ hin]at hj;have:=k5 j;simp only[Nat.add_zero,Array.length_toList,g1]at this;by_cases hc:off<=j∧j<off+(bv v).length
  ·rw[H2 hc]at hj this;obtain⟨z,q1,q2⟩:=g2.get _ _ hj;exact⟨z,by rw[this,UJ];exact q1,q2⟩
  rw[G2 hc]at hj this;obtain⟨z,q1,q2⟩:=h5.get _ _ hj;exact⟨z,by rw[this];exact q1,q2⟩
 refine hK undef h r w' (.refl _) (fun _ _=>rfl) trivial (hw.write (by rw[hb'];simp) h2 k2 ?_ (by rw[KH];intro j hj;cases hj));have hold:=hw.ow m b hb';have him:isMap (r m)=false:=by have:=hrep x (by simp[Op.operands]);rw[hx]at this;exact this.choose_spec.1.2
 rcases BlkRep.kinds b with hv|⟨hv,hs0⟩|⟨hv,hs0⟩
 ·rw[BlkRep.boxE hv]at hold;rw[BlkRep.boxE (by simp only[hv])];obtain⟨k',c0,q1,q2,q3,q4⟩:=hold;rw[q1]at h2;simp only[aD,Option.some.injEq]at h2;subst h2;refine⟨k',c',q1,k3,?_,hrep'⟩;rw[h3]at q2;cases q2;rw[k4,q3,fO]
 ·have hus:usz b=b.sz:=by unfold usz;rw[hv];rfl
  rw[hus];rw[BlkRep.slE hv hs0]at hold;rw[BlkRep.slE (by simp only[hv]) (by simp only[hs0])];obtain⟨ad,n,cap,q1,q2,q3,q4,q5⟩:=hold;refine⟨ad,n,cap,q1,by rw[fO];exact q2,q3,q4,?_⟩;rcases q5 with q5|⟨k',c0,rfl,p2,p3,p4⟩
  ·exact .inl q5
  rw[q1]at h2;simp only[aD]at h2;split at h2
  ·cases h2
  simp only[Option.some.injEq]at h2;subst h2;rw[h3]at p2;cases p2;exact .inr ⟨k',c',rfl,k3,by rw[k4,p3],hrep'⟩
 rw[BlkRep.mpE hv hs0]at hold;obtain⟨i,e⟩:=hold.isMap;rw[e]at him;cases him
include hT in
theorem dO{m off:Nat}{b:Blk}{v:PV}{cs:List DV}(ht:tt T=some i)(hx:ρ x=.loc m off)(hy:ρ y=.p v)(hb:own m=some b)(hl:(bv v).length=i.size)(hin:Nat.ble (off+(bv v).length) b.cs.length=true)(hcs:spl off (bv v) b.cs=cs) :
  Eff P ⟨dst,.store T x y,ty,pos,af,gd⟩ d ρ own .junk [(m,some ⟨b.vec,usz b,b.e,cs⟩)] none [m] :=
 iI hT ht hx hy hb hl (bL0 hin) hcs
include hT in
theorem dU{l:List (Nat×Nat)}{f fo ft m off:Nat}{j:TyI}(ht:tt T=some i)(hs:i.sh=.st l)(hf:l[f]?=some (fo,ft))(hft:tt ft=some j)(hj:Nat.blt 0 j.size=true)(hx:ρ x=.loc m off) :
  Eff P ⟨dst,.fieldAddr T x f,ty,pos,af,gd⟩ d ρ own (.loc m (off+fo)) [] none [] :=
 aP fun C h r own' a w hrep hrd hw=>by
  have e1:=hrep x (by simp[Op.operands]);rw[hx]at e1;obtain⟨k,h1,h2⟩:=e1;obtain⟨fs,g1,g2⟩:=(hT T i ht).struct hs;have hj':j.size≠0:=by have:=WR▸hj;have h:=bL0 hj;omega
  have g3:∃ fd,fs[f]?=some fd∧fd.offset=fo∧fd.type=ft:=by
   rw[<- g2,UE]at hf;cases e:fs.toList[f]? with
   |none=>rw[e]at hf;cases hf
   |some fd =>
    rw[e]at hf;simp only[Option.map_some,Option.some.injEq,Prod.mk.injEq]at hf;exact⟨fd,by rw[<- UJ];exact e,hf⟩
  obtain⟨fd,g4,g5,g6⟩:=g3;refine⟨.pointer (some ⟨k,off+fo,none⟩),?_,k,h1,rfl⟩;simp only[execOp,h2,Instr.fieldAt,Sem.run_bind,run_underlying g1,Result.andThen_ok,g4,Instr.sureAddr,Sem.run_pure,fieldPlace,g6,(hT ft j hft).size,hj',if_false,g5,Addr.add_lit]
include hT in
theorem ye{l:List (Nat×Nat)}{f fo ft:Nat}{xs:List DV}{j:TyI}(ht:tt T=some i)(hs:i.sh=.st l)(hf:l[f]?=some (fo,ft))(hft:tt ft=some j)(hj:Nat.blt 0 j.size=true)(hx:ρ x=.ip xs) :
  Eff P ⟨dst,.fieldAddr T x f,ty,pos,af,gd⟩ d ρ own (.ip (xs.drop fo)) [] none [] :=
 aP fun C h r own' a w hrep hrd hw=>by
  have e1:=hrep x (by simp[Op.operands]);rw[hx]at e1;obtain⟨b,off,c,e,fr,h1,h2,h3⟩:=e1;obtain⟨fs,g1,g2⟩:=(hT T i ht).struct hs;have hj':j.size≠0:=by have h:=bL0 hj;omega
  have g3:∃ fd,fs[f]?=some fd∧fd.offset=fo∧fd.type=ft:=by
   rw[<- g2,UE]at hf;cases e:fs.toList[f]? with
   |none=>rw[e]at hf;cases hf
   |some fd =>
    rw[e]at hf;simp only[Option.map_some,Option.some.injEq,Prod.mk.injEq]at hf;exact⟨fd,by rw[<- UJ];exact e,hf⟩
  obtain⟨fd,g4,g5,g6⟩:=g3;refine⟨.pointer (some ⟨b,off+fo,none⟩),?_,b,off+fo,c,e,fr,rfl,h2,?_⟩
  ·simp only[execOp,h1,Instr.fieldAt,Sem.run_bind,run_underlying g1,Result.andThen_ok,g4,Instr.sureAddr,Sem.run_pure,fieldPlace,g6,(hT ft j hft).size,hj',if_false,g5,Addr.add_lit]
  exact(h3.drop fo).congr fun k _=>by rw[We]
include hT in
theorem b8{e l:Nat}{j:TyI}{k:IntKind}{n:Int}{xs:List DV}{dv:DV}(ht:tt T=some i)(hs:i.sh=.sl e)(he:tt e=some j)(hx:ρ x=.p (.c dv))(hsl:oZ dv=some (l,xs))(hy:ρ y=.p (.c (.v (.int k n))))(hn:0<=n∧n<l)(hne:xs≠[]) :
  Eff P ⟨dst,.indexAddr T x y,ty,pos,af,gd⟩ d ρ own (.ip (xs.drop (n.toNat*j.size))) [] none [] :=
 aP fun C h r own' a w hrep hrd hw=>by
  have e1:=hrep x (by simp[Op.operands]);have e2:=hrep y (by simp[Op.operands]);rw[hx]at e1;rw[hy]at e2;have e3:=iZ hsl e1;simp only[DRep]at e3;obtain⟨ad,cap,h1,h2,h3,h4⟩:=e3;rcases h4 with h4|⟨b,off,c,et,fr,rfl,h5,h6⟩
  ·exact absurd h4 hne
  refine⟨.pointer (some ⟨b,off+n.toNat*j.size,none⟩),?_,b,off+n.toNat*j.size,c,et,fr,rfl,h5,?_⟩
  ·have hu:=(hT T i ht).slice hs;simp only[execOp,h1,bh e2,Instr.indexAt,asIntOf,Sem.run_bind,Sem.run_pure,Result.andThen_ok,run_underlying hu,hn,and_self,if_true,(hT e j he).size,Addr.add_lit]
  exact(h6.drop _).congr fun k _=>by rw[We]
include hT in
theorem lB{e m:Nat}{j:TyI}{k:IntKind}{n:Int}{b:Blk}(ht:tt T=some i)(hs:i.sh=.sl e)(he:tt e=some j)(hx:ρ x=.vec m)(hb:own m=some b)(hbv:b.vec=true)(hsz:b.sz=j.size)(hy:ρ y=.p (.c (.v (.int k n))))(hn:0<=n∧(n.toNat+1)*j.size<=b.cs.length)(hj:Nat.blt 0 j.size=true) :
  Eff P ⟨dst,.indexAddr T x y,ty,pos,af,gd⟩ d ρ own (.loc m (n.toNat*j.size)) [] none [m] :=
 aP fun C h r own' a w hrep hrd hw=>by
  have e1:=hrep x (by simp[Op.operands]);have e2:=hrep y (by simp[Op.operands]);rw[hx]at e1;rw[hy]at e2;have h1:a.eval x=r m:=e1;have hold:=hw.ow m b ((hrd m (by simp)).trans hb);have hj':0<j.size:=bL0 hj;rw[BlkRep.slE hbv (by omega)]at hold;obtain⟨ad,l,cap,q1,q2,q3,q4,q5⟩:=hold;have hlt:n.toNat<l:=by
   rw[<- q2,hsz]at hn;have:=Xq hn.2 hj';omega
  have hlt':n<l:=by omega
  rcases q5 with q5|⟨k',c0,rfl,p2,p3,p4⟩
  ·omega
  refine⟨.pointer (some ⟨k',n.toNat*j.size,none⟩),?_,k',?_,rfl⟩
  ·have hu:=(hT T i ht).slice hs;simp only[execOp,h1,q1,bh e2,Instr.indexAt,asIntOf,Sem.run_bind,Sem.run_pure,Result.andThen_ok,run_underlying hu,hn.1,hlt',and_self,if_true,(hT e j he).size,Addr.add_lit,Nat.zero_add]
  rw[q1];simp only[aD];rw[G2 (by omega)];exact⟨rfl,rfl⟩
include hT in
theorem de{e m l off:Nat}{j:TyI}{k:IntKind}{n:Int}(ht:tt T=some i)(hs:i.sh=.ar l e)(he:tt e=some j)(hx:ρ x=.loc m off)(hy:ρ y=.p (.c (.v (.int k n))))(hn:0<=n∧n<l) :
  Eff P ⟨dst,.indexAddr T x y,ty,pos,af,gd⟩ d ρ own (.loc m (off+n.toNat*j.size)) [] none [] :=
 aP fun C h r own' a w hrep hrd hw=>by
  have e1:=hrep x (by simp[Op.operands]);have e2:=hrep y (by simp[Op.operands]);rw[hx]at e1;rw[hy]at e2;obtain⟨k',h1,h2⟩:=e1;refine⟨.pointer (some ⟨k',off+n.toNat*j.size,none⟩),?_,k',h1,rfl⟩;have hu:=(hT T i ht).array hs;simp only[execOp,h2,bh e2,Instr.indexAt,asIntOf,Sem.run_bind,Sem.run_pure,Result.andThen_ok,run_underlying hu,Instr.sureAddr,hn,and_self,if_true,(hT e j he).size,Addr.add_lit]
theorem Ft{e:Nat}{j:TyI}(he:TyOK P e j)(hg:j.sh.agg=true){h:Hp}{w:World}{cs:Array Value}{ds es rest:List DV}{off:Nat}(hs:cs.size=ds.length)(hd:DReps h ds fun i=>cs[i]?)(hcs:ds.drop off=es++rest)(hl:es.length=j.size)(hin:off+j.size<=ds.length) :
  ∃ v,(part e cs off).run P w=.ok v w∧PRep h (.a es) v:=by
 refine⟨.agg (cs.extract off (off+j.size)),?_,_,rfl,?_,?_⟩
 ·simp only[part,Sem.run_bind,he.isAgg,hg,Result.andThen_ok,if_true,he.size,Sem.run_pure]
 ·simp only[Array.size_extract];omega
 rw[DReps.iff];intro q dv hq;have hlt:=(Uu.1 hq).1;obtain⟨y,k1,k2⟩:=(hd.drop off).get q dv (by rw[hcs,UQ hlt];exact hq);refine⟨y,?_,k2⟩;rw[Array.getElem?_extract];rw[H2 (by omega)];exact k1
theorem wc{e:Nat}{j:TyI}(he:TyOK P e j)(hg:j.sh.agg=false){h:Hp}{w:World}{cs:Array Value}{ds:List DV}{dv:DV}{off:Nat}(hd:DReps h ds fun i=>cs[i]?)(hcs:ds[off]?=some dv) :
  ∃ v,(part e cs off).run P w=.ok v w∧PRep h (.c dv) v:=by
 obtain⟨y,k1,k2⟩:=hd.get off dv hcs;refine⟨y,?_,k2⟩;simp only[part,Sem.run_bind,he.isAgg,hg,Result.andThen_ok,Bool.false_eq_true,if_false,k1,Sem.run_pure]
include hT in
theorem kJ{e l:Nat}{j:TyI}{k:IntKind}{n:Int}{ds es rest:List DV}(ht:tt T=some i)(hs:i.sh=.ar l e)(he:tt e=some j)(hg:j.sh.agg=true)(hx:ρ x=.p (.a ds))(hy:ρ y=.p (.c (.v (.int k n))))(hn:0<=n∧n<l)(hcs:ds.drop (n.toNat*j.size)=es++rest)(hl:es.length=j.size) :
  Eff P ⟨dst,.index T x y,ty,pos,af,gd⟩ d ρ own (.p (.a es)) [] none [] :=
 aP fun C h r own' a w hrep hrd hw=>by
  have e1:=hrep x (by simp[Op.operands]);have e2:=hrep y (by simp[Op.operands]);rw[hx]at e1;rw[hy]at e2;obtain⟨cs,h1,h2,h3⟩:=e1;have hin:n.toNat*j.size+j.size<=ds.length∨j.size=0:=by
   have:=Ur List.length hcs;simp only[List.length_drop,List.length_append]at this;omega
  have hu:=(hT T i ht).array hs;rcases hin with hin|hz
  ·obtain⟨v,q1,q2⟩:=Ft (w:=w) (hT e j he) hg h2 h3 hcs hl hin;refine⟨v,?_,q2⟩;simp only[execOp,h1,bh e2,Instr.index,asIntOf,Sem.run_bind,Sem.run_pure,Result.andThen_ok,run_underlying hu,hn,and_self,if_true,(hT e j he).size,q1]
  have he0:es=[]:=Ux (by rw[hl,hz]);subst he0;refine⟨.agg (cs.extract (n.toNat*j.size) (n.toNat*j.size+j.size)),?_,_,rfl,by simp[hz],by simp only[DReps]⟩;simp only[execOp,h1,bh e2,Instr.index,asIntOf,Sem.run_bind,Sem.run_pure,Result.andThen_ok,run_underlying hu,hn,and_self,if_true,(hT e j he).size,part,(hT e j he).isAgg,hg]
end ops
theorem Dt(cs:List Value):∀ (off k:Nat) (c:Array Value),off+k+cs.length<=c.size->∃ c',(cs.zipIdx k).foldl (fun(c:Array Value) (x:Value×Nat)=>c.setIfInBounds (off+x.2) x.1) c=c'∧c'.size=c.size ∧
  ∀ j,c'[j]?=if off+k<=j∧j<off+k+cs.length then cs[j-(off+k)]? else c[j]?:=by
 induction cs with
 |nil=>intro off k c _;exact⟨c,rfl,rfl,fun j=>by rw[G2 (by simp only[List.length_nil];omega)]⟩
 |cons v cs ih =>
  intro off k c h;simp only[List.length_cons]at h;obtain⟨c',h1,h2,h3⟩:=ih off (k+1) (c.setIfInBounds (off+k) v) (by simp;omega);refine⟨c',by rw[List.zipIdx_cons,List.foldl_cons];exact h1,by rw[h2];simp,fun j=>?_⟩;rw[h3 j];simp only[Array.getElem?_setIfInBounds,List.length_cons];by_cases h6:j=off+k
  ·subst h6;rw[G2 (by omega),H2 (by omega),H2 (by omega)];simp
  by_cases h7:off+(k+1)<=j∧j<off+(k+1)+cs.length
  ·rw[H2 h7,H2 (by omega)];rw[show j-(off+k)=(j-(off+(k+1)))+1 by omega];simp
  rw[G2 h7,G2 (by omega),G2 (by omega)]
def iT(ρ:Operand->AV)(pl:Nat->Option (Nat×Nat)):List DV->List (Nat×Operand)->Option (List DV)
 |cs,[]=>some cs
 |cs,(k,x)::rest =>
  match pl k,ρ x with
  |some (off,size),.p v=>bif Nat.beq (bv v).length size&&Nat.ble (off+size) cs.length then iT ρ pl (spl off (bv v) cs) rest else none
  |_,_=>none
theorem nH{h:Hp}{r:Nat->Value}{ρ:Operand->AV}{a:Act}{pl pc:Nat->Option (Nat×Nat)}(hpl:∀ k q,pl k=some q->pc k=some q):∀ (parts:List (Nat×Operand)) (ds es:List DV) (c:Array Value),iT ρ pl ds parts=some es->(∀ p∈parts,AVRep h r (ρ p.2) (a.eval p.2)) ->
  c.size=ds.length->DReps h ds (fun j=>c[j]?)->∃ c',Instr.fill pc c (parts.map fun p=>(p.1,a.eval p.2))=some c'∧c'.size=es.length∧DReps h es fun j=>c'[j]?
 | [],ds,es,c,hf,_,hs,hd=>by
  simp only[iT,Option.some.injEq]at hf;subst hf;exact⟨c,rfl,hs,hd⟩
 |(k,x)::rest,ds,es,c,hf,hr,hs,hd=>by
  simp only[iT]at hf;split at hf
  ·rename_i off size v hp hv;cases hc:(Nat.beq (bv v).length size&&Nat.ble (off+size) ds.length)with
   |false=>rw[hc]at hf;cases hf
   |true =>
    rw[hc]at hf;simp only[cond_true]at hf;simp only[Bool.and_eq_true]at hc;have hl:=UT hc.1;have hin:=bL0 hc.2;have hx:=hr (k,x) (by simp);simp only at hx;rw[hv]at hx;obtain⟨g1,g2,_⟩:=PRep.cells hx;obtain⟨c1,k1,k2,k3⟩:=Dt (a.eval x).cells.toList off 0 c (by simp only[Array.length_toList];omega);obtain⟨c',q1,q2,q3⟩:=nH (pc:=pc) hpl rest (spl off (bv v) ds) es c1 hf (fun p hp=>hr p (by simp[hp])) (by rw[k2,hs,fO]) (by
     rw[DReps.iff];intro j dv hj;rw[mI _ _ _ (by omega)]at hj;have:=k3 j;simp only[Nat.add_zero,Array.length_toList,g1]at this;by_cases hcc:off<=j∧j<off+(bv v).length
     ·rw[H2 hcc]at hj this;obtain⟨z,p1,p2⟩:=g2.get _ _ hj;exact⟨z,by rw[this,UJ];exact p1,p2⟩
     rw[G2 hcc]at hj this;obtain⟨z,p1,p2⟩:=hd.get _ _ hj;exact⟨z,by rw[this];exact p1,p2⟩)
    refine⟨c',?_,q2,q3⟩;have hcond:¬ ((decide ((a.eval x).cells.size≠size)||decide (off+(a.eval x).cells.size>c.size))=true):=by
     simp only[Bool.or_eq_true,decide_eq_true_eq];omega
    simp only[List.map_cons,Instr.fill,hpl k _ hp];rw[G2 hcond];have:((a.eval x).cells.zipIdx.foldl (fun cs (c,j)=>cs.setIfInBounds (off+j) c) c)=c1:=by
     rw[<- k1,<- Xe,Array.toList_zipIdx]
    rw[this];exact q1
  cases hf
section ops
variable {P:Program}{tt:TT}(hT:bM P tt)
variable {dst:Option Nat}{ty:TypeId}{pos:String}{af:Array Edge}{gd:Option (Nat×Bool)}{d:Nat}{ρ:Operand->AV}{own:Own}
variable {T:TypeId}{i:TyI}{x y:Operand}
def wb(tt:TT)(l:List (Nat×Nat))(k:Nat):Option (Nat×Nat) :=
 match l[k]? with
 |some (off,ft)=>match tt ft with
  |some j=>some (off,j.size)
  |none=>none
 |none=>none
include hT in
theorem A1(w:World):∀ (fs:List Field) (l:List (Nat×Nat)),fs.map (fun f=>(f.offset,f.type))=l->(l.all fun p=>(tt p.2).isSome)=true ->
  ∃ ps:List (Nat×Nat),(fs.mapM fun f=>(do pure (f.offset,<- sizeOf f.type):Sem (Nat×Nat))).run P w=.ok ps w∧∀ k q,wb tt l k=some q->ps[k]?=some q:=by
 intro fs;induction fs with
 |nil=>intro l hl _;subst hl;exact⟨[],by simp,fun k q h=>by simp[wb]at h⟩
 |cons f fs ih =>
  intro l hl ha;subst hl;simp only[List.map_cons,List.all_cons,Bool.and_eq_true]at ha;obtain⟨ps,h1,h2⟩:=ih _ rfl ha.2;obtain⟨j,hj⟩:=Option.isSome_iff_exists.1 ha.1;refine⟨(f.offset,j.size)::ps,?_,?_⟩
  ·rw[List.mapM_cons];simp only[Sem.run_bind,(hT _ _ hj).size,Result.andThen_ok,Sem.run_pure,h1]
  intro k q hk;cases k with
  |zero =>
   simp only[wb,List.map_cons,List.getElem?_cons_zero,hj]at hk;simpa using hk
  |succ k =>
   simp only[List.getElem?_cons_succ];refine h2 k q ?_;simpa[wb]using hk
include hT in
theorem dh{l:List (Nat×Nat)}{parts:Array (Nat×Operand)}{es:List DV}(ht:tt T=some i)(hs:i.sh=.st l)(hall:(l.all fun p=>(tt p.2).isSome)=true)(hf:iT ρ (wb tt l) i.zero parts.toList=some es) :
  Eff P ⟨dst,.build T parts,ty,pos,af,gd⟩ d ρ own (.p (.a es)) [] none [] :=
 aP fun C h r own' a w hrep hrd hw=>by
  obtain⟨z,h1,h2,h3,h4⟩:=(hT T i ht).zero w;obtain⟨fs,g1,g2⟩:=(hT T i ht).struct hs;obtain⟨ps,k1,k2⟩:=A1 hT w fs.toList l g2 hall;have hm:(fs.mapM fun f=>(do pure (f.offset,<- sizeOf f.type):Sem (Nat×Nat))).run P w=.ok ps.toArray w:=by
   rw[Array.mapM_eq_mapM_toList,Sem.run_map,k1];rfl
  obtain⟨c',q1,q2,q3⟩:=nH (h:=h) (r:=r) (a:=a) (pc:=fun k=>ps.toArray[k]?) (fun k q hk=>by simpa using k2 k q hk) parts.toList i.zero es z.cells hf (fun p hp=>hrep p.2 (by
   simp only[Op.operands,List.mem_toArray,List.mem_map];exact⟨p,hp,rfl⟩)) (by rw[h2,h3]) (h4 h)
  refine⟨.agg c',?_,c',rfl,q2,q3⟩;simp only[execOp,Instr.build,Sem.run_bind,h1,Result.andThen_ok,run_underlying g1,hm];have:(parts.map fun x=>(x.1,a.eval x.2)).toList=parts.toList.map fun p=>(p.1,a.eval p.2):=by simp
  rw[this,q1];rfl
include hT in
theorem fj{n e:Nat}{j:TyI}{parts:Array (Nat×Operand)}{es:List DV}(ht:tt T=some i)(hs:i.sh=.ar n e)(he:tt e=some j)(hf:iT ρ (fun k=>some (k*j.size,j.size)) i.zero parts.toList=some es) :
  Eff P ⟨dst,.build T parts,ty,pos,af,gd⟩ d ρ own (.p (.a es)) [] none [] :=
 aP fun C h r own' a w hrep hrd hw=>by
  obtain⟨z,h1,h2,h3,h4⟩:=(hT T i ht).zero w;have g1:=(hT T i ht).array hs;obtain⟨c',q1,q2,q3⟩:=nH (h:=h) (r:=r) (a:=a) (pc:=fun k=>some (k*j.size,j.size)) (fun k q hk=>hk) parts.toList i.zero es z.cells hf (fun p hp=>hrep p.2 (by
   simp only[Op.operands,List.mem_toArray,List.mem_map];exact⟨p,hp,rfl⟩)) (by rw[h2,h3]) (h4 h)
  refine⟨.agg c',?_,c',rfl,q2,q3⟩;simp only[execOp,Instr.build,Sem.run_bind,h1,Result.andThen_ok,run_underlying g1,(hT e j he).size];have:(parts.map fun x=>(x.1,a.eval x.2)).toList=parts.toList.map fun p=>(p.1,a.eval p.2):=by simp
  rw[this,q1];rfl
def reps:Nat->List DV->List DV
 |0,_=>[]
 |n+1,z=>z++reps n z
theorem fi:∀ (n:Nat) (z:List DV),(reps n z).length=n*z.length
 |0,z=>by simp[reps]
 |n+1,z=>by simp[reps,fi n z,Nat.succ_mul,Nat.add_comm]
theorem vP:∀ (n:Nat) (z:List DV) (j:Nat),j<n*z.length->(reps n z)[j]?=z[j%z.length]?
 |0,z,j,h=>by simp at h
 |n+1,z,j,h=>by
  rw[WT]at h;simp only[reps];by_cases hj:j<z.length
  ·rw[UQ hj,V0 hj]
  rw[US (by omega),vP n z _ (by omega)];rw[<- Nat.mod_eq_sub_mod (by omega)]
theorem Fe(n:Nat)(z:DV):reps n [z]=List.replicate n z:=by
 induction n with
 |zero=>rfl
 |succ n ih=>simp[reps,ih,List.replicate_succ]
theorem nr{h:Hp}{z:Value}{zs:List DV}(n:Nat)(hs:z.cells.size=zs.length)(hz:DReps h zs fun j=>z.cells[j]?):DReps h (reps n zs) fun j=>(madeCells z.cells (n*z.cells.size))[j]?:=by
 rw[DReps.iff];intro j dv hj;have hlt:=(Uu.1 hj).1;rw[fi]at hlt;rw[vP _ _ _ hlt]at hj;obtain⟨y,k1,k2⟩:=hz.get _ _ hj;refine⟨y,?_,k2⟩;unfold madeCells;have hpos:0<zs.length:=by
  rcases UI zs.length with h0|h0
  ·rw[h0]at hlt;omega
  exact h0
 have hm:j%z.cells.size<z.cells.size:=Vc _ (by omega);rw[Array.getElem?_map,Array.getElem?_range];rw[H2 (by rw[hs];exact hlt)];simp only[Option.map_some,Option.some.injEq];rw[<- hs]at k1;rw[UR hm]at k1;simp only[Option.some.injEq]at k1;rw[<- k1];simp[hm]
theorem DZ{C:Ctx}{h:Hp}{r:Nat->Value}{own':Own}{a:Act}{w:World}{o:Oper}{K:Act->World->Prop}{Q:Exit->Act->World->Prop}{v:AV}{x:Value}{ob:Obj}(hw:WOK C h r own' w)(hv:∀ h',h' w.heap.size=some ob->Hle h h'->AVRep h' r v x)(hrun:(execOp a.eval o).run P w=.ok (.value x) (w.alloc ob))(hK:∀ x h' r' w',Hle h h'->(∀ m,((none:Option Blk)≠none->m≠d)->r' m=r m)->AVRep h' r' v x->WOK C h' r' (gJ own' [] none d) w'->K (a.put o.dst x) w'):o.wp P a w K Q:=by
 unfold Oper.wp;rw[hrun];obtain⟨k1,k2⟩:=hw.imm ob;exact hK x _ r _ k2 (fun _ _=>rfl) (hv _ (by simp) k2) k1
include hT in
theorem na{e n:Nat}{j:TyI}{parts:Array (Nat×Operand)}{es:List DV}(ht:tt T=some i)(hs:i.sh=.sl e)(he:tt e=some j)(hf:iT ρ (fun k=>some (k*j.size,j.size)) (reps n j.zero) parts.toList=some es)(hn:n*j.size<=16777216){C:Ctx}{h:Hp}{r:Nat->Value}{own':Own}{a:Act}{w:World}(hrep:∀ x∈(Op.buildSlice T n parts).operands,AVRep h r (ρ x) (a.eval x))(_hw:WOK C h r own' w) :
  ∃ c,(execOp a.eval ⟨dst,.buildSlice T n parts,ty,pos,af,gd⟩).run P w=.ok (.value (.slice (some ⟨w.heap.size,0,none⟩) n n)) (w.alloc (.cells c e))∧c.size=n*j.size∧es.length=n*j.size∧DReps h es fun q=>c[q]?:=by
 obtain⟨z,h1,h2,h3,h4⟩:=(hT e j he).zero w;have hlen:(madeCells z.cells (n*z.cells.size)).size=(reps n j.zero).length:=by rw[size_madeCells,fi,h2,h3]
 obtain⟨c',q1,q2,q3⟩:=nH (h:=h) (r:=r) (a:=a) (pc:=fun k=>some (k*j.size,j.size)) (fun k q hk=>hk) parts.toList (reps n j.zero) es (madeCells z.cells (n*z.cells.size)) hf (fun p hp=>hrep p.2 (by
  simp only[Op.operands,List.mem_toArray,List.mem_map];exact⟨p,hp,rfl⟩)) hlen (nr n (by rw[h2,h3]) (h4 h))
 have hsz:∀ (ps:List (Nat×Operand)) (ds es:List DV),iT ρ (fun k=>some (k*j.size,j.size)) ds ps=some es->es.length=ds.length:=by
  intro ps;induction ps with
  |nil=>intro ds es hf;simp only[iT,Option.some.injEq]at hf;subst hf;rfl
  |cons p ps ih =>
   intro ds es hf;obtain⟨k,x⟩:=p;simp only[iT]at hf;split at hf
   ·rename_i off size v hp hv;cases hc:(Nat.beq (bv v).length size&&Nat.ble (off+size) ds.length)with
    |false=>rw[hc]at hf;cases hf
    |true=>rw[hc]at hf;simp only[cond_true]at hf;rw[ih _ _ hf,fO]
   cases hf
 have hel:es.length=n*j.size:=by rw[hsz _ _ _ hf,fi,h3]
 refine⟨c',?_,by rw[q2,hel],hel,q3⟩;have hle:¬ (n*j.size>16777216):=by omega
 have hparts:(parts.map fun x=>(x.1,a.eval x.2)).toList=parts.toList.map fun p=>(p.1,a.eval p.2):=by simp
 rw[h2]at q1;unfold madeCells at q1;by_cases hz:n*j.size=0
 ·rw[hz]at q1;have hle0:¬ ((0:Nat)>16777216):=by omega
  simp only[execOp,Instr.buildSlice,Sem.run_bind,run_underlying ((hT T i ht).slice hs),Result.andThen_ok,(hT e j he).size,Nat.reducePow,hz,hle0,if_false,if_true,Sem.run_pure,hparts];have:Array.map (fun x=>(#[]:Array Value)[x%(#[]:Array Value).size]!) (Array.range 0)=Array.map (fun x=>z.cells[x%z.cells.size]!) (Array.range 0):=by simp[Array.range_zero']
  rw[this,q1];simp only[newRow,Sem.run_bind,run_newObj,Result.andThen_ok,Sem.run_pure];rfl
 simp only[execOp,Instr.buildSlice,Sem.run_bind,run_underlying ((hT T i ht).slice hs),Result.andThen_ok,(hT e j he).size,Nat.reducePow,hle,if_false,hz,h1,Sem.run_pure,hparts,q1];simp only[newRow,Sem.run_bind,run_newObj,Result.andThen_ok,Sem.run_pure];rfl
include hT in
theorem db{e n:Nat}{j:TyI}{parts:Array (Nat×Operand)}{es:List DV}(ht:tt T=some i)(hs:i.sh=.sl e)(he:tt e=some j)(hf:iT ρ (fun k=>some (k*j.size,j.size)) (reps n j.zero) parts.toList=some es)(hn:Nat.ble (n*j.size) 16777216=true)(hn2:Nat.ble n 16777216=true) :
  Eff P ⟨dst,.buildSlice T n parts,ty,pos,af,gd⟩ d ρ own (.p (.c (.sl n es))) [] none []:=by
 intro C h r own' a w K Q hrep hrd hw _ hK;obtain⟨c,h1,h2,h3,h4⟩:=na (dst:=dst) (ty:=ty) (pos:=pos) (af:=af) (gd:=gd) hT ht hs he hf (bL0 hn) hrep hw;have hn2':=bL0 hn2;refine DZ hw ?_ h1 hK;intro h' hh' hle;simp only[AVRep,PRep,DRep];exact⟨_,n,rfl,Iv _,by omega,.inr ⟨w.heap.size,0,c,e,(0,0),rfl,hh',by simpa using DReps.mono hle _ _ h4⟩⟩
include hT in
theorem kI{e n:Nat}{j:TyI}{parts:Array (Nat×Operand)}{es:List DV}(ht:tt T=some i)(hs:i.sh=.sl e)(he:tt e=some j)(hf:iT ρ (fun k=>some (k*j.size,j.size)) (reps n j.zero) parts.toList=some es)(hn:Nat.ble (n*j.size) 16777216=true)(hn2:Nat.ble n 16777216=true)(hj:Nat.blt 0 j.size=true:=by first|rfl|simp[Nat.blt, *]) :
  Eff P ⟨dst,.buildSlice T n parts,ty,pos,af,gd⟩ d ρ own (.vec d) [] (some ⟨true,j.size,e,es⟩) []:=by
 intro C h r own' a w K Q hrep hrd hw hal hK;obtain⟨c,h1,h2,h3,h4⟩:=na (dst:=dst) (ty:=ty) (pos:=pos) (af:=af) (gd:=gd) hT ht hs he hf (bL0 hn) hrep hw;have hn2':=bL0 hn2;refine iP (b:=⟨true,j.size,e,es⟩) (hal (by simp)) hw (x:=.slice (some ⟨w.heap.size,0,none⟩) n n) (c:=c) ?_ ?_ ?_ h1 hK
 ·intro k hk;simp only[aD]at hk;split at hk
  ·cases hk
  simpa using hk.symm
 ·rw[BlkRep.slE (b:=⟨true,j.size,e,es⟩) rfl (bL0 hj)];exact⟨_,n,n,rfl,h3.symm,Iv _,by omega,.inr ⟨w.heap.size,c,rfl,by rw[heap_alloc,H2 rfl],h2,h4⟩⟩
 intro h r' hr;exact hr.symm
include hT in
theorem zo{e:Nat}{j:TyI}{k k':IntKind}{l:Int}{z:List DV}(ht:tt T=some i)(hs:i.sh=.sl e)(he:tt e=some j)(hz:j.zero=z)(hx:ρ x=.p (.c (.v (.int k l))))(hy:ρ y=.p (.c (.v (.int k' l))))(h0:0<=l)(hb:l<=140737488355328)(hbytes:(j.bytes:Int)*l<=281474976710656)(hj:Nat.blt 0 j.size=true:=by first|rfl|simp[Nat.blt, *]) :
  Eff P ⟨dst,.makeSlice T x y,ty,pos,af,gd⟩ d ρ own (.vec d) [] (some ⟨true,j.size,e,reps l.toNat z⟩) []:=by
 subst hz;intro C h r own' a w K Q hrep hrd hw hal hK;have e1:=hrep x (by simp[Op.operands]);have e2:=hrep y (by simp[Op.operands]);rw[hx]at e1;rw[hy]at e2;obtain⟨ti,g1,g2,g3,z,g4,g5,g6,g7⟩:=(hT e j he).info;have hr:=run_make (P:=P) w T e ti z ((hT T i ht).slice hs) g1 g4 k k' l l h0 (XZ _) (by rw[g3];exact hbytes) (by omega);refine iP (b:=⟨true,j.size,e,reps l.toNat j.zero⟩) (hal (by simp)) hw (x:=.slice (some ⟨w.heap.size,0,none⟩) l.toNat l.toNat) (c:=madeCells z.cells (l.toNat*ti.size)) ?_ ?_ ?_ ?_ hK
 ·intro k hk;simp only[aD]at hk;split at hk
  ·cases hk
  simpa using hk.symm
 ·rw[BlkRep.slE (b:=⟨true,j.size,e,reps l.toNat j.zero⟩) rfl (bL0 hj)];refine⟨_,l.toNat,l.toNat,rfl,by rw[fi,g6],Iv _,by omega,.inr ⟨w.heap.size,_,rfl,by rw[heap_alloc,H2 rfl],by rw[size_madeCells,g2],?_⟩⟩;rw[g2,<- g5];exact nr _ (by rw[g5,g6]) (g7 h)
 ·intro h r' hr;exact hr.symm
 simp only[execOp,bh e1,bh e2,Sem.run_bind,hr,Result.andThen_ok,Sem.run_pure]
theorem Ny{h:Hp}{n:Nat}{xs:List DV}{v:Value}(k:DRep h (.sl n xs) v){lo hi size:Nat}(_h1:lo<=hi)(h2:hi<=n)(_hz:xs.length=n*size) :
  ∃ a cap,v=.slice a n cap∧n<=cap∧DRep h (.sl (hi-lo) ((xs.drop (lo*size)).take ((hi-lo)*size))) (sliced a lo hi cap size):=by
 simp only[DRep]at k;obtain⟨a,cap,h3,h4,h5,h6⟩:=k;refine⟨a,cap,h3,h4,?_⟩;simp only[DRep,sliced];refine⟨_,_,rfl,by omega,by omega,?_⟩;by_cases he:(xs.drop (lo*size)).take ((hi-lo)*size)=[]
 ·exact .inl he
 right;have hne:xs≠[]:=fun hx=>he (by rw[hx];simp)
 rcases h6 with h6|⟨b,off,c,e,fr,rfl,h7,h8⟩
 ·exact absurd h6 hne
 have hlt:lo≠cap:=fun hc=>he (by
  have:hi-lo=0:=by omega
  simp[this])
 rw[G2 (fun hc=>hlt hc.symm)];refine⟨b,off+lo*size,c,e,fr,by simp[Addr.add_lit],h7,?_⟩;exact((h8.drop (lo*size)).take _).congr fun q _=>by rw[We]
include hT in
theorem kP{e l:Nat}{j:TyI}{k':IntKind}{hi:Int}{xs es:List DV}{dv:DV}{yh:Operand}(ht:tt T=some i)(hs:i.sh=.sl e)(he:tt e=some j)(hx:ρ x=.p (.c dv))(hsl:oZ dv=some (l,xs))(hh:ρ yh=.p (.c (.v (.int k' hi))))(hlen:xs.length=l*j.size)(h0:0<=hi∧hi<=l)(hes:xs.take (hi.toNat*j.size)=es) :
  Eff P ⟨dst,.slice T x none (some yh) none,ty,pos,af,gd⟩ d ρ own (.p (.c (.sl hi.toNat es))) [] none []:=by
 subst hes;refine aP fun C h r own' a w hrep hrd hw=>?_
 have e1:=hrep x (by simp[Op.operands]);have e3:=hrep yh (by simp[Op.operands]);rw[hx]at e1;rw[hh]at e3;obtain⟨ad,cap,g1,g2,g3⟩:=Ny (iZ hsl e1) (lo:=0) (hi:=hi.toNat) (size:=j.size) (by omega) (by omega) hlen;simp only[Nat.zero_mul,List.drop_zero,Nat.sub_zero]at g3;refine⟨_,?_,g3⟩;have hu:=(hT T i ht).slice hs;have hel:P.elem T=e:=by simp[Program.elem,hu]
 have hu':P.underlying T=some (.slice (P.elem T)):=by rw[hel];exact hu
 simp only[execOp,g1,Option.map_some,Option.map_none,bh e3,Sem.run_bind,run_sliceAt_slice w T _ _ _ _ hu',run_slice_h w T ad l cap hu' k' hi h0.1 (by omega),hel,(hT e j he).size,Result.andThen_ok,Sem.run_pure]
end ops
theorem fZ{C:Ctx}{h:Hp}{r:Nat->Value}{own:Own}{w:World}(hw:WOK C h r own w){n:Nat}{xs:List DV}{v:Value}(k:DRep h (.sl n xs) v) :
  ∃ a cap,v=.slice a n cap∧n<=cap∧(xs=[]∨∃ ad,a=some ad∧Reads h w ad xs):=by
 simp only[DRep]at k;obtain⟨a,cap,h1,h2,h3,h4⟩:=k;refine⟨a,cap,h1,h2,?_⟩;rcases h4 with h4|⟨b,off,c,e,fr,h5,h6,h7⟩
 ·exact .inl h4
 exact .inr ⟨_,h5,Reads.of_cells (hw.hi _ _ h6) h7⟩
theorem Reads.values{h:Hp}{w:World}{a:Addr}{xs:List DV}(k:Reads h w a xs):∃ vs:List Value,vs.length=xs.length∧(∀ (j:Nat) v,vs[j]?=some v->w.cell? (a.add j)=some v)∧(∀ v∈vs,v.oneCell'=true)∧DReps h xs fun j=>vs[j]?:=by
 refine⟨(List.range xs.length).map fun j=>(w.cell? (a.add j)).getD undef,by simp,?_,?_,?_⟩
 ·intro j v hj;rw[UE]at hj;by_cases hlt:j<xs.length
  ·rw[Wb hlt]at hj;simp only[Option.map_some,Option.some.injEq]at hj;obtain⟨y,h1,_⟩:=k j xs[j] (Fl hlt);rw[h1]at hj ⊢;simpa using hj
  rw[UU (by simpa using Nat.le_of_not_lt hlt)]at hj;cases hj
 ·intro v hv;rw[UO]at hv;obtain⟨j,hj,rfl⟩:=hv;have hlt:j<xs.length:=by simpa using hj
  obtain⟨y,h1,h2⟩:=k j xs[j] (Fl hlt);rw[h1];exact h2.one
 rw[DReps.iff];intro j d hj;have hlt:=(Uu.1 hj).1;obtain⟨y,h1,h2⟩:=k j d hj;exact⟨y,by rw[UE,Wb hlt];simp[h1],h2⟩
theorem DReps.append{h:Hp}{xs ys:List DV}{vs us:List Value}(hl:vs.length=xs.length)(k:DReps h xs fun j=>vs[j]?)(q:DReps h ys fun j=>us[j]?):DReps h (xs++ys) fun j=>(vs++us)[j]?:=by
 rw[DReps.iff]at *;intro j d hj;by_cases hlt:j<xs.length
 ·rw[UQ hlt]at hj;rw[UQ (by omega)];exact k j d hj
 rw[US (by omega)]at hj;rw[US (by omega),hl];exact q _ d hj
section ops
variable {P:Program}{tt:TT}(hT:bM P tt)
variable {dst:Option Nat}{ty:TypeId}{pos:String}{af:Array Edge}{gd:Option (Nat×Bool)}{d:Nat}{ρ:Operand->AV}{own:Own}
variable {T:TypeId}{i:TyI}{x y:Operand}
theorem WOK.draw{C:Ctx}{h:Hp}{r:Nat->Value}{own:Own}{w:World}(k:WOK C h r own w):WOK C h r own w.drew:=k.drew
theorem xV{C:Ctx}{h:Hp}{r:Nat->Value}{own':Own}{a:Act}{w w2:World}{o:Oper}{K:Act->World->Prop}{Q:Exit->Act->World->Prop}{b:Blk}{v:AV}{x:Value}{c:Array Value}(hal:own' d=none∧C.np<=d∧∀ m b,own' m=some b->d ∉ lnk b)(hw:WOK C h r own' w2)(hx:∀ k,aD x=some k->k=w2.heap.size)(hb:BlkRep h (w2.alloc (.cells c b.e)) x b)(hv:∀ h r',r' d=x->AVRep h r' v x)(hrun:(execOp a.eval o).run P w=.ok (.value x) (w2.alloc (.cells c b.e)))(hK:∀ x h' r' w',Hle h h'->(∀ m,(some b≠none->m≠d)->r' m=r m)->AVRep h' r' v x->WOK C h' r' (gJ own' [] (some b) d) w'->K (a.put o.dst x) w')(hl0:lnk b=[]:=by rfl):o.wp P a w K Q:=by
 unfold Oper.wp;rw[hrun];exact hK x h (upd r d x) _ (.refl _) (fun m hm=>aj _ _ _ _ (hm (by simp))) (hv _ _ (by simp)) (hw.alloc hal.1 hal.2.1 hx hb hal.2.2 hl0)
theorem eC{b:Builtin}{xs:Array Operand}{tys:Array TypeId}{a:Act}{w w':World}{v:Value}(h:(builtin b tys ty (xs.map fun | .const _=>true|_=>false) (xs.map a.eval)).run P w=.ok (.value v) w') :
  (execOp a.eval ⟨dst,.call ⟨.builtin b,xs,tys⟩,ty,pos,af,gd⟩).run P w=.ok (.value v) w':=by
 simp only[execOp,resolve,Sem.run_bind,Sem.run_pure,Result.andThen_ok,invoke];exact h
include hT in
theorem gI{e n m:Nat}{j:TyI}{b:Blk}{xs:List DV}{dv:DV}(ht:tt T=some i)(hs:i.sh=.sl e)(he:tt e=some j)(hx:ρ x=.vec m)(hb:own m=some b)(hbv:b.vec=true)(hbs:b.sz=j.size)(hbe:b.e=e)(hy:ρ y=.p (.c dv))(hsl:oZ dv=some (n,xs))(hlen:xs.length=n*j.size)(hb1:Nat.ble j.bytes (32*j.size)=true)(hby2:32*(b.cs.length+n*j.size)<=140737488355328)(hj:Nat.blt 0 j.size=true)(hmd:m≠d) :
  Eff P ⟨dst,.call ⟨.builtin .append,#[x,y],#[T,T]⟩,ty,pos,af,gd⟩ d ρ own (.vec d) [(m,none)] (some ⟨true,j.size,e,b.cs++xs⟩) [m]:=by
 intro C h r own' a w K Q hrep hrd hw hal hK;have hb':=(hrd m (by simp)).trans hb;have e1:=hrep x (by simp[Op.operands,Call.operands]);have e2:=hrep y (by simp[Op.operands,Call.operands]);rw[hx]at e1;rw[hy]at e2;have e1':a.eval x=r m:=e1;obtain⟨ad,cap,h1,h2,h3⟩:=fZ hw (iZ hsl e2);have hj':0<j.size:=bL0 hj;have hb1':=bL0 hb1;obtain⟨ti,g1,g2,g3,z,g4,g5,g6,g7⟩:=(hT e j he).info;have hu:=(hT T i ht).slice hs;have hold:=hw.ow m b hb';rw[BlkRep.slE hbv (by omega)]at hold;obtain⟨ba,l,bcap,q1,q2,q3,q4,q5⟩:=hold;rw[hbs]at q2;have hal':=hal (by simp);have hlow:own' m≠none:=by rw[hb'];simp
 have hnb:(l+n)*j.bytes<=140737488355328:=by
  have:(l+n)*j.bytes<=(l+n)*(32*j.size):=UD _ hb1';have e3:(l+n)*(32*j.size)=32*(b.cs.length+n*j.size):=by rw[<- q2,<- Vt,Vx]
  omega
 have hln:l+n<=140737488355328:=by
  have:l+n<=(l+n)*j.size:=Wo _ hj';rw[Vt,q2]at this;omega
 have src:∃ vs:List Value,vs.length=n*j.size∧(∀ w2:World,(∀ A,w2.cell? A=w.cell? A)->(Builtin.firstCells j.size n (.slice ad n cap)).run P w2=.ok vs.toArray w2)∧(∀ v∈vs,v.oneCell'=true)∧DReps h xs fun p=>vs[p]?:=by
  rcases h3 with h3|⟨A,rfl,h3⟩
  ·have hn0:n=0:=by
    have h0:n*j.size=0:=by rw[<- hlen,h3];rfl
    rcases Nat.mul_eq_zero.1 h0 with h0|h0 <;> omega
   refine⟨[],by rw[hn0];simp,fun w2 _=>?_,by simp,by rw[h3];simp only[DReps]⟩;rw[hn0];cases ad with
   |none=>exact run_firstCells_none w2 _ _ _ _
   |some A=>exact run_firstCells_some w2 j.size 0 A 0 cap [] (by simp) (fun p v hp=>by simp at hp)
  obtain⟨vs,k1,k2,k3,k4⟩:=h3.values;exact⟨vs,by rw[k1,hlen],fun w2 hw2=>run_firstCells_some w2 j.size n A n cap vs (by rw[k1,hlen]) (fun p v hp=>by rw[hw2];exact k2 p v hp),k3,k4⟩
 obtain⟨vs,v1,v2,v3,v4⟩:=src;have hcl:b.cs.length+xs.length=(l+n)*j.size:=by rw[Vt,q2,hlen]
 have ap:∀ {w':World} {v:Value},(Builtin.append_ #[T,T] ty #[.slice ba l bcap,.slice ad n cap]).run P w=.ok v w'->(execOp a.eval ⟨dst,.call ⟨.builtin .append,#[x,y],#[T,T]⟩,ty,pos,af,gd⟩).run P w=.ok (.value v) w':=fun{w' v} hh=>by
  apply eC;simp only[List.map_toArray,List.map_cons,List.map_nil,e1',q1,h1,builtin,Sem.run_bind,hh,Result.andThen_ok,Sem.run_pure]
 unfold Oper.wp;by_cases hroom:l+n<=bcap
 ·by_cases hc0:bcap=0
  ·
   have hl0:l=0:=by omega
   have hn0:n=0:=by omega
   have hvs:vs=[]:=Ux (by rw[v1,hn0];simp);have hxs:xs=[]:=Ux (by rw[hlen,hn0];simp);have hcs:b.cs=[]:=Ux (by rw[<- q2,hl0];simp);have hf:=v2 w (fun _=>rfl);rw[hvs]at hf;have hrun:(Builtin.append_ #[T,T] ty #[.slice ba l bcap,.slice ad n cap]).run P w=.ok (.slice ba (l+n) bcap) w:=by
    cases ba with
    |none=>simp[Builtin.append_,run_underlying hu,sizeOf,typeInfo,g1,g2,Builtin.lenOf,hroom,hf]
    |some B=>simp[Builtin.append_,run_underlying hu,sizeOf,typeInfo,g1,g2,Builtin.lenOf,hroom,hf,storeCells]
   rw[ap hrun];refine hK _ h (upd r d (.slice ba (l+n) bcap)) w (.refl _) (fun p hp=>aj _ _ _ _ (hp (by simp))) (by show _=upd r d _ d;simp) ?_;refine hw.rename hlow hal'.1 hal'.2.1 (fun p hp=>by subst hc0;cases ba <;> simp[aD]at hp) ?_ hal'.2.2 rfl;rw[BlkRep.slE (b:=⟨true,j.size,e,b.cs++xs⟩) rfl hj'];exact⟨ba,l+n,bcap,rfl,by rw[hcs,hxs,hl0,hn0];simp,hroom,hln,.inl hc0⟩
  rcases q5 with q5|⟨k,c,rfl,p2,p3,p4⟩
  ·exact absurd q5 hc0
  have hbk:aD (r m)=some k:=by rw[q1];simp only[aD];rw[G2 hc0]
  rw[hbs]at p3;have hfitc:l*j.size+vs.length<=c.size:=by rw[v1,p3,<- Vt];exact Uy _ hroom
  obtain⟨w',c',k1,k2,k3,k4,k5⟩:=bJ P k b.e vs (l*j.size) 0 w c p2 (by simpa using hfitc) v3;have hf:=v2 w (fun _=>rfl);have hrun:(Builtin.append_ #[T,T] ty #[.slice (some ⟨k,0,none⟩) l bcap,.slice ad n cap]).run P w=.ok (.slice (some ⟨k,0,none⟩) (l+n) bcap) w':=by
   simp[Builtin.append_,run_underlying hu,sizeOf,typeInfo,g1,g2,Builtin.lenOf,hroom,hf,Addr.add_lit,k1]
  rw[ap hrun];have hcsr:DReps h b.cs fun p=>c'[p]?:=p4.congr fun p hp=>by
   have:=k5 p;simp only[Nat.add_zero]at this;rw[this,G2 (by rw[q2];omega)]
  have hw':=hw.write hlow hbk k2 (b:=b) (by
   rw[BlkRep.slE hbv (by omega)];exact⟨_,l,bcap,q1,by rw[hbs];exact q2,q3,q4,.inr ⟨k,c',rfl,k3,by rw[k4,p3,hbs],hcsr⟩⟩) (by rw[js hbv];intro j hj;cases hj)
  have e0:upd own' m (some b)=own':=by
   funext p
   by_cases hp:p=m
   ·subst hp;rw[upd_same,hb']
   rw[aj _ _ _ _ hp]
  rw[e0]at hw';refine hK _ h (upd r d (.slice (some ⟨k,0,none⟩) (l+n) bcap)) w' (.refl _) (fun p hp=>aj _ _ _ _ (hp (by simp))) (by show _=upd r d _ d;simp) ?_;refine hw'.rename hlow hal'.1 hal'.2.1 (fun p hp=>by
   rw[q1];simp only[aD]at hp ⊢;exact hp) ?_ hal'.2.2 rfl
  rw[BlkRep.slE (b:=⟨true,j.size,e,b.cs++xs⟩) rfl hj'];refine⟨_,l+n,bcap,rfl,by rw[UB,hcl],hroom,hln,.inr ⟨k,c',rfl,by rw[k3,hbe],by rw[k4,p3],?_⟩⟩;rw[DReps.iff];intro p dv' hp;by_cases hlt:p<b.cs.length
  ·rw[UQ hlt]at hp;exact hcsr.get p dv' hp
  rw[US (by omega)]at hp;have hpl:=(Uu.1 hp).1;obtain⟨u,u1,u2⟩:=v4.get _ _ hp;refine⟨u,?_,u2⟩;have:=k5 p;simp only[Nat.add_zero]at this;rw[this,H2 (by rw[q2,v1,<- hlen];omega),q2];exact u1
 ·
  have olds:∃ us:List Value,us.length=l*j.size∧(∀ w2:World,(∀ A,w2.cell? A=w.cell? A)->(Builtin.firstCells j.size l (.slice ba l bcap)).run P w2=.ok us.toArray w2)∧DReps h b.cs fun p=>us[p]?:=by
   by_cases hc0:bcap=0
   ·have hl0:l=0:=by omega
    have hcs:b.cs=[]:=Ux (by rw[<- q2,hl0];simp);refine⟨[],by rw[hl0];simp,fun w2 _=>?_,by rw[hcs];simp only[DReps]⟩;rw[hl0];cases ba with
    |none=>exact run_firstCells_none w2 _ _ _ _
    |some A=>exact run_firstCells_some w2 j.size 0 A 0 bcap [] (by simp) (fun p v hp=>by simp at hp)
   rcases q5 with q5|⟨k,c,rfl,p2,p3,p4⟩
   ·exact absurd q5 hc0
   have rd:Reads h w ⟨k,0,none⟩ b.cs:=Reads.of_cells p2 (by simpa using p4);obtain⟨us,k1,k2,k3,k4⟩:=rd.values;exact⟨us,by rw[k1,q2],fun w2 hw2=>run_firstCells_some w2 j.size l _ l bcap us (by rw[k1,q2]) (fun p v hp=>by rw[hw2];exact k2 p v hp),k4⟩
  obtain⟨us,u1,u2,u3⟩:=olds;have hf:=v2 w.drew (fun _=>rfl);have hfo:=u2 w.drew (fun _=>rfl);have hrun:(Builtin.append_ #[T,T] ty #[.slice ba l bcap,.slice ad n cap]).run P w=.ok (.slice (some ⟨w.heap.size,0,none⟩) (l+n) (grownCap w (l+n) bcap e)) (w.drew.alloc (.cells (us.toArray++(vs.toArray++Builtin.zeroCells z.cells (grownCap w (l+n) bcap e-(l+n)))) e)):=by
   have h63':¬ (9223372036854775807<((l:Int)+(n:Int))):=by omega
   have h48:Builtin.nextslicecap (l+n) bcap*ti.bytes<=281474976710656:=growslice_fits (by omega) (by rw[g3];exact hnb);have h48':¬ (281474976710656<Builtin.nextslicecap (l+n) bcap*ti.bytes):=by omega
   simp[Builtin.append_,run_underlying hu,sizeOf,typeInfo,zeroValue,g1,g2,g4,Builtin.lenOf,hroom,h63',h48',Question.forced,hf,hfo,newRow,grownCap]
  rw[ap hrun];have hge:=grownCap_ge w (l+n) bcap e;have hal2:=hw.draw.alloc (d:=d) hal'.1 hal'.2.1 (o:=.cells (us.toArray++(vs.toArray++Builtin.zeroCells z.cells (grownCap w (l+n) bcap e-(l+n)))) e) (v:=.slice (some ⟨w.heap.size,0,none⟩) (l+n) (grownCap w (l+n) bcap e)) (b:=⟨true,j.size,e,b.cs++xs⟩) (fun k hk=>by
   simp only[aD]at hk;split at hk
   ·cases hk
   ·simpa using hk.symm) (by
   rw[BlkRep.slE (b:=⟨true,j.size,e,b.cs++xs⟩) rfl hj'];refine⟨_,l+n,grownCap w (l+n) bcap e,rfl,by rw[UB,hcl],hge,hln,.inr ⟨w.heap.size,_,rfl,by rw[heap_alloc];exact H2 rfl,?_,?_⟩⟩
   ·simp only[Array.size_append,List.size_toArray,size_zeroCells,u1,v1,g5];rw[<- Vt,<- Vt];congr 1;omega
   have hap:=DReps.append (vs:=us) (us:=vs) (by rw[u1,q2]) u3 v4;refine hap.congr fun p hp=>?_
   rw[UB]at hp;have hpl:p<(us++vs).length:=by rw[UB,u1,v1,q2,<- hlen];exact hp
   rw[<- UJ];simp only[Array.toList_append];rw[<- Wt,UQ hpl]) hal'.2.2 rfl
  refine hK _ h (upd r d (.slice (some ⟨w.heap.size,0,none⟩) (l+n) (grownCap w (l+n) bcap e))) _ (.refl _) (fun p hp=>aj _ _ _ _ (hp (by simp))) (by show _=upd r d _ d;simp) ?_;refine hal2.forget fun p=>?_
  show upd (upd own' m none) d _ p=_∨_;by_cases hp:p=d
  ·subst hp;exact .inl (by simp)
  rw[aj _ _ _ _ hp,aj _ _ _ _ hp];by_cases hpm:p=m
  ·subst hpm;exact .inr (by simp[gJ,cw,aj _ _ _ _ hp])
  exact .inl (by rw[aj _ _ _ _ hpm])
include hT in
theorem zq{e n m:Nat}{j:TyI}{b:Blk}{xs:List DV}{dv:DV}(ht:tt T=some i)(hs:i.sh=.sl e)(he:tt e=some j)(hx:ρ x=.vec m)(hb:own m=some b)(hbv:b.vec=true)(hbs:b.sz=j.size)(hy:ρ y=.p (.c dv))(hsl:oZ dv=some (n,xs))(hlen:xs.length=n*j.size)(hfit:xs.length<=b.cs.length){cs:List DV}(hcs:spl 0 xs b.cs=cs)(hj:Nat.blt 0 j.size=true) :
  Eff P ⟨dst,.call ⟨.builtin .copy,#[x,y],#[T,T]⟩,ty,pos,af,gd⟩ d ρ own (.p (.c (.v (.int .i64 n)))) [(m,some ⟨b.vec,b.sz,b.e,cs⟩)] none [m]:=by
 subst hcs;intro C h r own' a w K Q hrep hrd hw hal hK;have hb':=(hrd m (by simp)).trans hb;have e1:=hrep x (by simp[Op.operands,Call.operands]);have e2:=hrep y (by simp[Op.operands,Call.operands]);rw[hx]at e1;rw[hy]at e2;have e1':a.eval x=r m:=e1;obtain⟨ad,cap,h1,h2,h3⟩:=fZ hw (iZ hsl e2);have hj':0<j.size:=bL0 hj;have hu:=(hT T i ht).slice hs;obtain⟨ti,g1,g2,g3,z,g4,g5,g6,g7⟩:=(hT e j he).info;have hold:=hw.ow m b hb';rw[BlkRep.slE hbv (by omega)]at hold;obtain⟨ba,l,bcap,q1,q2,q3,q4,q5⟩:=hold;rw[hbs]at q2;have hnl:n<=l:=by
  rw[hlen,<- q2]at hfit;exact Xq hfit hj'
 have hlow:own' m≠none:=by rw[hb'];simp
 have src:∃ vs:List Value,vs.length=n*j.size∧(Builtin.firstCells j.size n (.slice ad n cap)).run P w=.ok vs.toArray w∧(∀ v∈vs,v.oneCell'=true)∧DReps h xs fun p=>vs[p]?:=by
  rcases h3 with h3|⟨A,rfl,h3⟩
  ·have hn0:n=0:=by
    have h0:n*j.size=0:=by rw[<- hlen,h3];rfl
    rcases Nat.mul_eq_zero.1 h0 with h0|h0 <;> omega
   refine⟨[],by rw[hn0];simp,?_,by simp,by rw[h3];simp only[DReps]⟩;rw[hn0];cases ad with
   |none=>exact run_firstCells_none w _ _ _ _
   |some A=>exact run_firstCells_some w j.size 0 A 0 cap [] (by simp) (fun p v hp=>by simp at hp)
  obtain⟨vs,k1,k2,k3,k4⟩:=h3.values;exact⟨vs,by rw[k1,hlen],run_firstCells_some w j.size n A n cap vs (by rw[k1,hlen]) k2,k3,k4⟩
 obtain⟨vs,v1,v2,v3,v4⟩:=src;have hmin:Nat.min n l=n:=Vu hnl;have ap:∀ {w':World} {v:Value},(Builtin.copy_ #[T,T] ty #[.slice ba l bcap,.slice ad n cap]).run P w=.ok v w'->(execOp a.eval ⟨dst,.call ⟨.builtin .copy,#[x,y],#[T,T]⟩,ty,pos,af,gd⟩).run P w=.ok (.value v) w':=fun{w' v} hh=>by
  apply eC;simp only[List.map_toArray,List.map_cons,List.map_nil,e1',q1,h1,builtin,Sem.run_bind,hh,Result.andThen_ok,Sem.run_pure]
 unfold Oper.wp;by_cases hc0:bcap=0
 ·have hl0:l=0:=by omega
  have hn0:n=0:=by omega
  have hvs:vs=[]:=Ux (by rw[v1,hn0];simp);have hxs:xs=[]:=Ux (by rw[hlen,hn0];simp);rw[hvs]at v2;have hrun:(Builtin.copy_ #[T,T] ty #[.slice ba l bcap,.slice ad n cap]).run P w=.ok (goInt n) w:=by
   cases ba with
   |none=>simp[Builtin.copy_,run_underlying hu,sizeOf,typeInfo,g1,g2,Builtin.lenOf,hmin,v2]
   |some B=>simp[Builtin.copy_,run_underlying hu,sizeOf,typeInfo,g1,g2,Builtin.lenOf,hmin,v2,storeCells]
  rw[ap hrun];refine hK _ h r w (.refl _) (fun _ _=>rfl) (lC _ _ _ _) ?_;have hsp:spl 0 xs b.cs=b.cs:=by rw[hxs];cases b.cs <;> rfl
  rw[hsp];have e0:upd own' m (some b)=own':=by
   funext p
   by_cases hp:p=m
   ·subst hp;rw[upd_same,hb']
   rw[aj _ _ _ _ hp]
  show WOK C h r (upd own' m (some ⟨b.vec,b.sz,b.e,b.cs⟩)) w;rw[e0];exact hw
 rcases q5 with q5|⟨k,c,rfl,p2,p3,p4⟩
 ·exact absurd q5 hc0
 have hbk:aD (r m)=some k:=by rw[q1];simp only[aD];rw[G2 hc0]
 rw[hbs]at p3;have hfitc:0+vs.length<=c.size:=by rw[v1,p3];have:=Uy j.size (UA hnl q3);omega
 obtain⟨w',c',k1,k2,k3,k4,k5⟩:=bJ P k b.e vs 0 0 w c p2 (by simpa using hfitc) v3;have hrun:(Builtin.copy_ #[T,T] ty #[.slice (some ⟨k,0,none⟩) l bcap,.slice ad n cap]).run P w=.ok (goInt n) w':=by
  simp[Builtin.copy_,run_underlying hu,sizeOf,typeInfo,g1,g2,Builtin.lenOf,hmin,v2,k1]
 rw[ap hrun];refine hK _ h r w' (.refl _) (fun _ _=>rfl) (lC _ _ _ _) (hw.write hlow hbk k2 ?_ (fun j hj=>by rw[js (b:=⟨b.vec,b.sz,b.e,spl 0 xs b.cs⟩) hbv]at hj;cases hj));rw[BlkRep.slE (by simp only[hbv]) (by simp only[hbs];omega)];refine⟨_,l,bcap,q1,by simp only[fO];rw[hbs];exact q2,q3,q4,.inr ⟨k,c',rfl,k3,by rw[k4,p3,hbs],?_⟩⟩;rw[DReps.iff];intro p dv' hp;rw[mI _ _ _ (by omega)]at hp;have:=k5 p;simp only[Nat.add_zero,Nat.zero_add,Nat.sub_zero,v1]at this hp;rw[hlen]at hp;by_cases hcc:0<=p∧p<n*j.size
 ·rw[H2 hcc]at hp this;obtain⟨u,k1,k2⟩:=v4.get _ _ hp;exact⟨u,by rw[this];exact k1,k2⟩
 rw[G2 hcc]at hp this;obtain⟨u,k1,k2⟩:=p4.get _ _ hp;exact⟨u,by rw[this];exact k1,k2⟩
end ops
section rk
variable {P:Program}{N np:Nat}{ops:Array Oper}{draw:Bool}{os:List Oper}{s:St}{acc:List Io}{K:St->Prop}
variable {op:Op}{ty:TypeId}{pos:String}{af:Array Edge}{gd:Option (Nat×Bool)}{t:Nat}
theorem ag{dst:Option Nat}{regs:eR}:cm ops ⟨dst,op,ty,pos,af,none⟩ regs true:=rfl
theorem aw{dst:Option Nat}{regs:eR}{j t:Nat}{want c:Bool}(h1:kL ops j=some t)(h2:regs t=.p (.c (.v (.bool c))))(h3:c=want):cm ops ⟨dst,op,ty,pos,af,some (j,want)⟩ regs true :=
 ⟨t,h1,.inl ⟨c,h2,by rw[h3];cases want <;> rfl⟩⟩
theorem Gl{dst:Option Nat}{regs:eR}{j t:Nat}{want:Bool}(h1:kL ops j=some t)(h2:regs t=.t []):cm ops ⟨dst,op,ty,pos,af,some (j,want)⟩ regs false :=
 ⟨t,h1,.inr ⟨h2,rfl⟩⟩
theorem jX{dst:Option Nat}{regs:eR}{j t:Nat}{want c:Bool}(h1:kL ops j=some t)(h2:regs t=.p (.c (.v (.bool c))))(h3:c = !want):cm ops ⟨dst,op,ty,pos,af,some (j,want)⟩ regs false :=
 ⟨t,h1,.inl ⟨c,h2,by rw[h3];cases want <;> rfl⟩⟩
theorem an{v:AV}{rd:List Nat}(hg:cm ops ⟨some t,op,ty,pos,af,gd⟩ s.regs true)(he:Eff P ⟨some t,op,ty,pos,af,gd⟩ t (ev s.regs) s.own v [] none rd)(hr:RK P N np ops draw os ⟨upd s.regs t v,s.own⟩ (acc++[⟨men v++[],[],rd,false⟩]) K):RK P N np ops draw (⟨some t,op,ty,pos,af,gd⟩::os) s acc K :=
 RK.step (Step.run v [] none rd hg he (fun h=>absurd rfl h)) hr
theorem bD{v:AV}{b:Blk}{rd:List Nat}(hg:cm ops ⟨some t,op,ty,pos,af,gd⟩ s.regs true)(he:Eff P ⟨some t,op,ty,pos,af,gd⟩ t (ev s.regs) s.own v [] (some b) rd)(hr:RK P N np ops draw os ⟨upd s.regs t v,upd s.own t (some b)⟩ (acc++[⟨men v++lE [] (some b),[t],rd,true⟩]) K):RK P N np ops draw (⟨some t,op,ty,pos,af,gd⟩::os) s acc K :=
 RK.step (Step.run v [] (some b) rd hg he (fun _=>by simp)) hr
theorem aZ{v:AV}{m:Nat}{b:Option Blk}{rd:List Nat}(hg:cm ops ⟨none,op,ty,pos,af,gd⟩ s.regs true)(he:Eff P ⟨none,op,ty,pos,af,gd⟩ 0 (ev s.regs) s.own v [(m,b)] none rd)(hr:RK P N np ops draw os ⟨s.regs,upd s.own m b⟩ (acc++[⟨men v++lE [(m,b)] none,[m],rd,false⟩]) K):RK P N np ops draw (⟨none,op,ty,pos,af,gd⟩::os) s acc K :=
 RK.step (Step.run v [(m,b)] none rd hg he (fun h=>absurd rfl h)) hr
theorem RK.mut{v:AV}{m:Nat}{b:Option Blk}{rd:List Nat}(hg:cm ops ⟨some t,op,ty,pos,af,gd⟩ s.regs true)(he:Eff P ⟨some t,op,ty,pos,af,gd⟩ t (ev s.regs) s.own v [(m,b)] none rd)(hr:RK P N np ops draw os ⟨upd s.regs t v,upd s.own m b⟩ (acc++[⟨men v++lE [(m,b)] none,[m],rd,false⟩]) K):RK P N np ops draw (⟨some t,op,ty,pos,af,gd⟩::os) s acc K :=
 RK.step (Step.run v [(m,b)] none rd hg he (fun h=>absurd rfl h)) hr
theorem RK.app{v:AV}{m:Nat}{b:Blk}{rd:List Nat}(hg:cm ops ⟨some t,op,ty,pos,af,gd⟩ s.regs true)(he:Eff P ⟨some t,op,ty,pos,af,gd⟩ t (ev s.regs) s.own v [(m,none)] (some b) rd)(hr:RK P N np ops draw os ⟨upd s.regs t v,upd (upd s.own m none) t (some b)⟩ (acc++[⟨men v++lE [(m,none)] (some b),[m,t],rd,true⟩]) K):RK P N np ops draw (⟨some t,op,ty,pos,af,gd⟩::os) s acc K :=
 RK.step (Step.run v [(m,none)] (some b) rd hg he (fun _=>by simp)) hr
theorem nc(hg:cm ops ⟨some t,op,ty,pos,af,gd⟩ s.regs false)(hr:RK P N np ops draw os ⟨upd s.regs t (.t []),s.own⟩ (acc++[⟨[],[],[],false⟩]) K):RK P N np ops draw (⟨some t,op,ty,pos,af,gd⟩::os) s acc K :=
 RK.step (Step.skip hg) hr
end rk
section res
variable {P:Program}{tt:TT}(hT:bM P tt){s:St}
theorem a8{t:Nat}{pv:PV}(h:s.regs t=.p pv):iQ P s (.tmp t) pv:=by
 intro C N hh r a w hc;have:=hc.rg t;rw[h]at this;exact⟨_,rfl,this⟩
include hT in
theorem aA{t m off:Nat}{T:TypeId}{i:TyI}{b:Blk}{cs rest:List DV}(ht:tt T=some i)(hg:i.sh.agg=true)(h:s.regs t=.loc m off)(hb:s.own m=some b)(hcs:b.cs.drop off=cs++rest)(hl:cs.length=i.size) :
  iQ P s (.cell t T) (.a cs):=by
 intro C N hh r a w hc;have e1:=hc.rg t;rw[h]at e1;obtain⟨k,h1,h2⟩:=fz hc.wk hb e1;obtain⟨y,h3,h4⟩:=gz (hT T i ht) hg hl (h2.take (es:=cs) ⟨rest,hcs.symm⟩);refine⟨y,?_,h4⟩;simp only[iG,h1,asAddr,Sem.run_bind,Sem.run_pure,Result.andThen_ok,h3]
include hT in
theorem vO{t m off:Nat}{T:TypeId}{i:TyI}{b:Blk}{dv:DV}(ht:tt T=some i)(hg:i.sh.agg=false)(h:s.regs t=.loc m off)(hb:s.own m=some b)(hcs:b.cs[off]?=some dv) :
  iQ P s (.cell t T) (.c dv):=by
 intro C N hh r a w hc;have e1:=hc.rg t;rw[h]at e1;obtain⟨k,h1,h2⟩:=fz hc.wk hb e1;have hd:[dv] <+: b.cs.drop off:=by
  obtain⟨hlt,hv⟩:=Uu.1 hcs;rw[Vn hlt,hv];exact⟨_,rfl⟩
 obtain⟨y,h3,h4⟩:=gy (hT T i ht) hg (h2.take hd);refine⟨y,?_,h4⟩;simp only[iG,h1,asAddr,Sem.run_bind,Sem.run_pure,Result.andThen_ok,h3]
theorem bK{fn:Func}{rv:ResultVar}{pv:PV}{res:AV}{e:Exit}{o':Own}(hres:fn.results=#[rv])(he:e=.normal∨e=.ret)(h:iQ P s rv pv)(hs:Sub (.p pv) res)(ho:∀ m b,o' m=some b->s.own m=some b):nS P fn res o' e s :=
 ⟨he,⟨[pv],by rw[hres];exact .cons h .nil,hs⟩,ho⟩
theorem ju{fn:Func}{res:AV}{e:Exit}{o':Own}(hres:fn.results=#[])(he:e=.normal∨e=.ret)(hs:Sub (.t []) res)(ho:∀ m b,o' m=some b->s.own m=some b):nS P fn res o' e s :=
 ⟨he,⟨[],by rw[hres];exact .nil,hs⟩,ho⟩
theorem b9{fn:Func}{r1 r2:ResultVar}{p1 p2:PV}{res:AV}{e:Exit}{o':Own}(hres:fn.results=#[r1,r2])(he:e=.normal∨e=.ret)(h1:iQ P s r1 p1)(h2:iQ P s r2 p2)(hs:Sub (.t [p1,p2]) res)(ho:∀ m b,o' m=some b->s.own m=some b):nS P fn res o' e s :=
 ⟨he,⟨[p1,p2],by rw[hres];exact .cons h1 (.cons h2 .nil),hs⟩,ho⟩
theorem dz{fn:Func}{r1 r2 r3:ResultVar}{p1 p2 p3:PV}{res:AV}{e:Exit}{o':Own}(hres:fn.results=#[r1,r2,r3])(he:e=.normal∨e=.ret)(h1:iQ P s r1 p1)(h2:iQ P s r2 p2)(h3:iQ P s r3 p3)(hs:Sub (.t [p1,p2,p3]) res)(ho:∀ m b,o' m=some b->s.own m=some b):nS P fn res o' e s :=
 ⟨he,⟨[p1,p2,p3],by rw[hres];exact .cons h1 (.cons h2 (.cons h3 .nil)),hs⟩,ho⟩
theorem bd:∀ m b,O m=some b->s.own m=some b:=fun m b h=>by cases h
end res
def DSub(x y:DV):Prop:=∀ h v,DRep h x v->DRep h y v
def DSubs:List DV->List DV->Prop
 | [],[]=>True
 |x::xs,y::ys=>DSub x y∧DSubs xs ys
 |_,_=>False
theorem DSub.refl(x:DV):DSub x x:=fun _ _ k=>k
theorem DSub.of_eq{x y:DV}(h:x=y):DSub x y:=h▸DSub.refl x
theorem DSub.nil_sl:DSub (.v (.slice none 0 0)) (.sl 0 []):=fun _ _ k=>iZ rfl k
theorem DSubs.reps{h:Hp}:∀ {xs ys:List DV} {g:Nat->Option Value},DSubs xs ys->DReps h xs g->DReps h ys g
 | [],[],_,_,_=>by simp only[DReps]
 |x::xs,y::ys,g,k,r=>by
  simp only[DReps]at r ⊢;obtain⟨⟨v,e,q⟩,r⟩:=r;exact⟨⟨v,e,k.1 _ _ q⟩,DSubs.reps k.2 r⟩
 | [],_::_,_,k,_=>k.elim
 |_::_,[],_,k,_=>k.elim
theorem DSubs.len:∀ {xs ys:List DV},DSubs xs ys->xs.length=ys.length
 | [],[],_=>rfl
 |_::_,_::_,k=>by simp[DSubs.len k.2]
 | [],_::_,k=>k.elim
 |_::_,[],k=>k.elim
def PSub:PV->PV->Prop
 |.c x,.c y=>DSub x y
 |.a xs,.a ys=>DSubs xs ys
 |_,_=>False
theorem PSub.rep{h:Hp}:∀ {p q:PV} {x:Value},PSub p q->PRep h p x->PRep h q x
 |.c _,.c _,_,k,r=>k _ _ r
 |.a _,.a _,_,k,⟨cs,e,s,r⟩=>⟨cs,e,by rw[s,k.len],k.reps r⟩
 |.c _,.a _,_,k,_=>k.elim
 |.a _,.c _,_,k,_=>k.elim
def PSubs:List PV->List PV->Prop
 | [],[]=>True
 |x::xs,y::ys=>PSub x y∧PSubs xs ys
 |_,_=>False
theorem PSubs.reps{h:Hp}:∀ {ps qs:List PV} {xs:List Value},PSubs ps qs->PReps h ps xs->PReps h qs xs
 | [],[],[],_,_=>trivial
 |_::_,_::_,_::_,k,r=>⟨k.1.rep r.1,PSubs.reps k.2 r.2⟩
 | [],[],_::_,_,r=>r.elim
 |_::_,_::_,[],_,r=>r.elim
 | [],_::_,_,k,_=>k.elim
 |_::_,[],_,k,_=>k.elim
theorem Sub.tup{ps qs:List PV}(h:PSubs ps qs):Sub (.t ps) (.t qs):=fun _ _ _ ⟨xs,e,k⟩=>⟨xs,e,h.reps k⟩
section ghost
variable {P:Program}{B:Bool}{N np:Nat}{Q:Exit->St->Prop}{s:St}{c:Code}
theorem fe{t m n:Nat}{b:Blk}(ht:s.regs t=.vec m)(hb:s.own m=some b)(hbv:b.vec=true)(hn:n*b.sz=b.cs.length)(hsz:0<b.sz)(h:AWp P B N np c Q ⟨upd s.regs t (.p (.c (.sl n b.cs))),upd s.own m none⟩):AWp P B N np c Q s:=by
 intro ro hB C hh r a w hnp hc;have hold:=hc.wk.ow m b hb;rw[BlkRep.slE hbv hsz]at hold;obtain⟨ad,l,cap,q1,q2,q3,q4,q5⟩:=hold;have hl:l=n:=by
  have:=q2.trans hn.symm;exact U4 hsz this
 subst hl;have hx:a.tmps.getD t undef=r m:=by
  have:=hc.rg t;rw[ht]at this;exact this
 have hlow:s.own m≠none:=by rw[hb];simp
 rcases q5 with q5|⟨k,cc,rfl,p2,p3,p4⟩
 ·refine h ro hB C hh r a w hnp ⟨hc.sz,hc.df,fun t'=>?_,hc.wk.forget fun p=>?_⟩
  ·show AVRep _ _ (upd s.regs t _ t') _;by_cases e:t'=t
   ·subst e;rw[upd_same,hx,q1];have hl0:l=0:=by omega
    have hcs:b.cs=[]:=Ux (by rw[<- q2,hl0];simp);simp only[AVRep,PRep,DRep];exact⟨ad,cap,rfl,q3,q4,.inl hcs⟩
   rw[aj _ _ _ _ e];exact hc.rg t'
  show upd s.own m none p=_∨upd s.own m none p=_;by_cases e:p=m
  ·subst e;exact .inr (by simp)
  exact .inl (by rw[aj _ _ _ _ e])
 by_cases hc0:cap=0
 ·refine h ro hB C hh r a w hnp ⟨hc.sz,hc.df,fun t'=>?_,hc.wk.forget fun p=>?_⟩
  ·show AVRep _ _ (upd s.regs t _ t') _;by_cases e:t'=t
   ·subst e;rw[upd_same,hx,q1];have hl0:l=0:=by omega
    have hcs:b.cs=[]:=Ux (by rw[<- q2,hl0];simp);simp only[AVRep,PRep,DRep];exact⟨_,cap,rfl,q3,q4,.inl hcs⟩
   rw[aj _ _ _ _ e];exact hc.rg t'
  show upd s.own m none p=_∨upd s.own m none p=_;by_cases e:p=m
  ·subst e;exact .inr (by simp)
  exact .inl (by rw[aj _ _ _ _ e])
 have hbk:aD (r m)=some k:=by rw[q1];simp only[aD];rw[G2 hc0]
 obtain⟨f1,f2⟩:=hc.wk.freeze hlow hbk p2;refine h ro hB C _ r a w hnp ⟨hc.sz,hc.df.mono f2,fun t'=>?_,f1⟩;show AVRep _ _ (upd s.regs t _ t') _;by_cases e:t'=t
 ·subst e;rw[upd_same,hx,q1];simp only[AVRep,PRep,DRep];exact⟨_,cap,rfl,q3,q4,.inr ⟨k,0,cc,b.e,(0,0),rfl,by simp,by simpa using DReps.mono f2 _ _ p4⟩⟩
 rw[aj _ _ _ _ e];exact AVRep.mono f2 _ _ (hc.rg t')
def Unr(P:Program)(B:Bool)(N np:Nat)(c:Code)(Q:Exit->St->Prop):Nat->St->Prop
 |0,_=>False
 |n+1,s=>AWp P B N np c (kn (Unr P B N np c Q n) Q) s
theorem bX(n:Nat)(h:Unr P B N np c Q n s):AWp P B N np (.loop c) Q s:=by
 refine aC (ι:=Nat×St) (fun i=>i.2) (fun i=>Unr P B N np c Q i.1 i.2) (fun i=>i.1) (n,s) h (Le.refl s) ?_;rintro⟨k,t⟩ hk;cases k with
 |zero=>exact hk.elim
 |succ k =>
  refine AWp.mono hk ?_;intro e s' hq;cases e with
  |normal=>exact⟨(k,s'),hq,Nat.lt_succ_self k,Le.refl s'⟩
  |_=>exact hq
def a7:List (Nat×AV)->eR
 | []=>fun _=>.junk
 |(t,v)::l=>upd (a7 l) t v
def SubL(regs:eR):List (Nat×AV)->Prop
 | []=>True
 |(t,v)::l=>Sub (regs t) v∧SubL regs l
theorem SubL.regs{regs:eR}:∀ {l:List (Nat×AV)},SubL regs l->∀ t,Sub (regs t) (a7 l t)
 | [],_,_=>.junk _
 |(k,v)::l,h,t=>by
  show Sub (regs t) (upd (a7 l) k v t);by_cases e:t=k
  ·subst e;rw[upd_same];exact h.1
  rw[aj _ _ _ _ e];exact SubL.regs h.2 t
def c9:List (Nat×Blk)->Own
 | []=>fun _=>none
 |(m,b)::l=>upd (c9 l) m (some b)
def SubO(own:Own):List (Nat×Blk)->Prop
 | []=>True
 |(m,b)::l=>own m=some b∧SubO own l
theorem SubO.own{own:Own}:∀ {l:List (Nat×Blk)},SubO own l->∀ m,c9 l m=own m∨c9 l m=none
 | [],_,_=>.inr rfl
 |(k,v)::l,h,t=>by
  show upd (c9 l) k (some v) t=_∨upd (c9 l) k (some v) t=_;by_cases e:t=k
  ·subst e;rw[upd_same];exact .inl h.1.symm
  rw[aj _ _ _ _ e];exact SubO.own h.2 t
def stL(l:List (Nat×AV))(o:List (Nat×Blk)):St:=⟨a7 l,c9 o⟩
theorem ai{l:List (Nat×AV)}{o:List (Nat×Blk)}(h1:SubL s.regs l)(h2:SubO s.own o):Le s (stL l o):=⟨h1.regs,h2.own⟩
end ghost
theorem WOK.beside{C:Ctx}{h:Hp}{r:Nat->Value}{own:Own}{w w':World}(k:WOK C h r own w)(os:w'.os=w.os)(tape:w'.tape=w.tape)(output:OutD w' w)(size:w.heap.size<=w'.heap.size)(old:∀ i,i<w.heap.size->w'.heap[i]?=w.heap[i]?):WOK C h r own w' :=
 ⟨fun m b e=>(k.ow m b e).world fun i hi=>old i ((k.ow m b e).lt hi),k.inj,fun i o e=>by rw[old i (k.hlt e)];exact k.hi i o e,k.ho,os.trans k.os,tape.trans k.tape,output.trans k.output,UA k.size size,
  fun i hi hf=>by rw[old i (Vf hi k.size)];exact k.old i hi hf,k.fo,k.hg,k.hn,k.gl,k.kp,fun m b j e hj=>let ⟨q,t,h1,h2⟩:=k.lk m b j e hj;⟨q,t,h1,by rw[old q (K0.1 h2).1];exact h2⟩⟩
abbrev I(z:Int):AV:=.p (.a [zn z,zm z])
abbrev B(b:Bool):AV:=.p (.c (.v (.bool b)))
abbrev Z(n:Int):AV:=.p (.c (.v (.int .i64 n)))
end Go.AM
