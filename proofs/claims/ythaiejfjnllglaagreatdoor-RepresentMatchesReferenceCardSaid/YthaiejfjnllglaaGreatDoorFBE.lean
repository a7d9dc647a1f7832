import Derived.Test.YthaiejfjnllglaaGreatDoorFBD
import Derived.Test.YthaiejfjnllglaaGreatDoorFBC
set_option maxRecDepth 100000
namespace Go.AM
section
open Go Go.RowKit
section
variable {F:Fence} {n:Nat} {P:Program}
theorem Iq {o:Oper} {a:Act} {w:World} {K:Act→World→Prop} {QA Q:Exit→Act→World→Prop} (hq:∀ e a w,QA e a w→e=.normal) (h:o.wpIn F n P a w K QA):o.wpIn F n P a w K Q:=by
  unfold Oper.wpIn at *
  refine ⟨h.1,?_⟩
  have hh:=h.2
  have no:∀ {X:Prop} {e:Exit} {a:Act} {w:World},e≠.normal→QA e a w→X:=fun hne h=>absurd (hq _ _ _ h) hne
  generalize (o.semAt F.round a.eval).run P w=r at *
  cases r with
  | ok x w' =>
    cases x <;> simp only [Oper.uponIn] at hh ⊢ <;>
      first
        | exact hh
        | exact ⟨hh.1,CallsIn.mono hh.2 (fun e w'' he=>by cases e <;> first | exact he | exact no (by simp) he | (obtain ⟨a1,w1,h1⟩:=he;exact no (by simp) h1))⟩
        | exact ⟨hh.1,RoundIn.mono hh.2 (fun e w'' he=>by cases e <;> first | exact he | exact no (by simp) he | (obtain ⟨a1,w1,h1⟩:=he;exact no (by simp) h1))⟩
  | halt x w'=>cases x <;> simp only [Oper.uponIn] at hh ⊢ <;> first | exact hh | exact no (by simp) hh
theorem Be {ops ops':Array Oper} {i:Nat} {a:Act} {w:World} {K K':Act→World→Prop} {QA Q:Exit→Act→World→Prop} (hq:∀ e a w,QA e a w→e=.normal) (h1:ops'[i]?=ops[i]?)
    (h2:∀ o j want,ops[i]?=some o→o.guard=some (j,want)→ops'[j]?=ops[j]?) (hK:∀ a w,K a w→K' a w) (h:wpOpIn F n P ops' QA i K a w):wpOpIn F n P ops Q i K' a w:=by
  refine wpOpIn_mono hK ?_
  unfold wpOpIn at *
  rw [h1] at h
  cases ho:ops[i]? with
  | none=>rw [ho] at h;exact h
  | some o =>
    rw [ho] at h
    simp only at h ⊢
    have e:Region.wanted o (yielded ops' a.tmps)=Region.wanted o (yielded ops a.tmps):=by
      unfold Region.wanted
      cases hg:o.guard with
      | none=>rfl
      | some x =>
        obtain ⟨j,want⟩:=x
        simp only
        have:yielded ops' a.tmps j=yielded ops a.tmps j:=by
          unfold yielded;rw [h2 o j want ho hg]
        rw [this]
    rw [e] at h
    split at h
    · next hw=>rw [if_pos hw];exact Iq hq h
    next hw=>rw [if_neg hw];exact h
def Dp (ops:List Oper) (y:Nat):Bool :=
  Nat.blt y ops.length && (ops.zipIdx.all fun (o,i)=>(o.after.toList.all fun e=>!Region.binds .any e || Nat.blt e.on i) && (match o.guard with | some (j,_)=>Nat.blt j i | none=>true)) &&
  (let bs:=vw ops
   (List.range ops.length).all fun i=>Nat.blt i y || (List.range i).all fun j=>(bs.getD i 0).testBit j)
structure OkY (ops:Array Oper) (y:Nat):Prop where
  lt:y < ops.size
  edge:∀ k o,ops[k]?=some o→∀ e∈o.after.toList,Region.binds .any e=true→e.on < k
  guard:∀ (k:Nat) (o:Oper) (j:Nat) (b:Bool),ops[k]?=some o→o.guard=some (j,b)→j < k
  bef:∀ i j,y≤i→i < ops.size→j < i→((vw ops.toList).getD i 0).testBit j=true
theorem HZ {ops:Array Oper} {y:Nat} (h:Dp ops.toList y=true):OkY ops y:=by
  unfold Dp at h
  simp only [Bool.and_eq_true] at h
  obtain ⟨⟨h1,h2⟩,h3⟩:=h
  have get:∀ (k:Nat) (o:Oper),ops[k]?=some o→(o,k)∈ops.toList.zipIdx:=fun k o ho=>by
    rw [List.mem_zipIdx_iff_getElem?,Array.getElem?_toList];exact ho
  refine ⟨by simpa using h1,fun k o ho e he hb=>?_,fun k o j b ho hg=>?_,fun i j hy hi hj=>?_⟩
  · have:=List.all_eq_true.1 h2 _ (get k o ho)
    simp only [Bool.and_eq_true] at this
    have:=List.all_eq_true.1 this.1 e he
    simpa [hb] using this
  · have:=List.all_eq_true.1 h2 _ (get k o ho)
    simp only [Bool.and_eq_true,hg] at this
    simpa using this.2
  have:=List.all_eq_true.1 h3 i (by simpa using hi)
  rw [Bool.or_eq_true] at this
  rcases this with k | k
  · simp at k;omega
  exact List.all_eq_true.1 k j (by simpa using hj)
def lL (ops:Array Oper) (l:Array Bool):Prop:=∀ (k:Nat) (o:Oper),ops.toList[k]?=some o→l.getD k false=true→∀ e∈o.after.toList,Region.binds .any e=true→l.getD e.on false=true
theorem qi {l:Array Bool} {i:Nat} (hi:i < l.size):l.getD i true=false↔l.getD i false=false:=by
  simp only [Array.getD_eq_getD_getElem?]
  rw [Array.getElem?_eq_getElem hi]
  simp
theorem mp {ops:Array Oper} {l:Array Bool} {i:Nat} (hs:l.size=ops.size) (hc:lL ops l) (hr:i∈Region.ready .any ops l):lL ops (l.setIfInBounds i true):=by
  rw [eF] at hr
  obtain ⟨h1,h2,o,h3,h4⟩:=hr
  intro k o' hk hS e he hb
  rw [dq _ _ _ (by omega)] at hS ⊢
  simp only [Bool.or_eq_true,beq_iff_eq] at hS ⊢
  rcases hS with hS | hS
  · exact .inl (hc k o' hk hS e he hb)
  subst hS
  rw [Array.getElem?_toList,h3] at hk;cases hk
  exact .inl (h4 e he hb)
theorem rD {ops:Array Oper} {y:Nat} (ok:OkY ops y) {l:Array Bool} {i:Nat} (hs:l.size=ops.size) (hc:lL ops l) (hr:i∈Region.ready .any ops l) (hi:y≤i):∀ j,j < i→l.getD j false=true:=fun j hj=>by
  have hr':=hr
  rw [eF] at hr
  have hi2:=hr.1
  have:=ns (fun k=>(l.setIfInBounds i true).getD k false) ops.toList (mp hs hc hr') i j (ok.bef i j hi hi2 hj) (by show (l.setIfInBounds i true).getD i false=true;rw [dq _ _ _ (by omega)];simp)
  rw [dq _ _ _ (by omega)] at this
  have hne:(j == i)=false:=by simp;omega
  simpa [hne] using this
theorem pD {ops:Array Oper} {y:Nat} (ok:OkY ops y) {l:Array Bool} (hs:l.size=ops.size):∀ i,i < ops.size→l.getD i false=false→∃ j,j≤i∧j∈Region.ready .any ops l:=by
  intro i
  induction i using Nat.strongRecOn with
  | _ i ih =>
    intro hi hl
    by_cases h:∃ j,j < i∧l.getD j false=false
    · obtain ⟨j,hj,hlj⟩:=h
      obtain ⟨j',h1,h2⟩:=ih j hj (by omega) hlj
      exact ⟨j',by omega,h2⟩
    refine ⟨i,Nat.le_refl _,?_⟩
    rw [eF]
    refine ⟨hi,(qi (by omega)).2 hl,ops[i],Array.getElem?_eq_getElem hi,fun e he hb=>?_⟩
    have:=ok.edge i ops[i] (Array.getElem?_eq_getElem hi) e he hb
    cases hx:l.getD e.on false with
    | true=>rfl
    | false=>exact absurd ⟨_,this,hx⟩ h
variable {Q:Exit→Act→World→Prop}
theorem vy {ops:Array Oper} {y:Nat} (ok:OkY ops y):∀ (m:Nat) (l:Array Bool),l.size=ops.size→lL ops l→y+m≤ops.size→(∀ j,j < ops.size→(l.getD j false=true↔j < ops.size - m)) →
    ∀ a w,wpOpsIn F n P ops Q (List.range' (ops.size - m) m) a w→wpAnyIn F n P .any ops Q m l a w
  | 0,l,hs,hc,hy,hl,a,w,h=>by
    refine ⟨?_,h⟩
    cases hr:Region.ready .any ops l with
    | nil=>rfl
    | cons i rest =>
      have:i∈Region.ready .any ops l:=by rw [hr];simp
      rw [eF] at this
      have h2:=(qi (by omega)).1 this.2.1
      rw [(hl i this.1).2 (by omega)] at h2;cases h2
  | m+1,l,hs,hc,hy,hl,a,w,h=>by
    have hun:l.getD (ops.size - (m+1)) false=false:=by
      cases hx:l.getD (ops.size - (m+1)) false with
      | false=>rfl
      | true=>have:=(hl _ (by omega)).1 hx;omega
    refine ⟨fun hr=>?_,fun i hi=>?_⟩
    · obtain ⟨j,_,hj⟩:=pD ok hs _ (by omega) hun
      rw [hr] at hj;simp at hj
    have hi':=hi
    rw [eF] at hi'
    have h2:=(qi (by omega)).1 hi'.2.1
    have hge:ops.size - (m+1)≤i:=by
      rcases Nat.lt_or_ge i (ops.size - (m+1)) with x | x
      · rw [(hl i hi'.1).2 x] at h2;cases h2
      exact x
    have hall:=rD ok hs hc hi (by omega)
    have he:i=ops.size - (m+1):=by
      rcases Nat.lt_or_ge (ops.size - (m+1)) i with x | x
      · have:=hall _ x;rw [hun] at this;cases this
      omega
    subst he
    rw [List.range'_succ,wpOpsIn_cons] at h
    refine wpOpIn_mono (fun a' w' hk=>?_) h
    refine vy ok m _ (by simp [hs]) (mp hs hc hi) (by omega) (fun j hj=>?_) a' w' (by rw [show ops.size - m=ops.size - (m+1)+1 by omega];exact hk)
    rw [dq _ _ _ (by omega),Bool.or_eq_true,hl j hj,beq_iff_eq]
    omega
theorem H7 {ops:Array Oper} {y:Nat} (ok:OkY ops y):∀ (m:Nat) (l l':Array Bool),l.size=ops.size→l'.size=y→(∀ j,j < y→l'.getD j false=l.getD j false)→lL ops l→(∀ j,y≤j→l.getD j false=false)→left l' y=m →
    ∀ a w,wpAnyIn F n P .any (ops.toList.take y).toArray (fun e a w=>e=.normal∧wpOpsIn F n P ops Q (List.range' y (ops.size - y)) a w) m l' a w→wpAnyIn F n P .any ops Q (m+(ops.size - y)) l a w:=by
  have ylt:=ok.lt
  have hsz:(ops.toList.take y).toArray.size=y:=by simp;omega
  have hget:∀ j,j < y→(ops.toList.take y).toArray[j]?=ops[j]?:=fun j hj=>by
    rw [List.getElem?_toArray,List.getElem?_take,if_pos hj,Array.getElem?_toList]
  intro m
  induction m with
  | zero =>
    intro l l' hs hs' hll hc hbe hm a w h
    have all:∀ j,j < y→l.getD j false=true:=fun j hj=>by
      rw [← hll j hj]
      cases hb:l'.getD j false with
      | true=>rfl
      | false =>
        have:j∈(List.range y).filter fun i=>!l'.getD i false:=by rw [List.mem_filter];exact ⟨by simpa using hj,by simpa using hb⟩
        have h0:(List.range y).filter (fun i=>!l'.getD i false)=[]:=List.eq_nil_of_length_eq_zero hm
        rw [h0] at this;simp at this
    rw [Nat.zero_add]
    refine vy ok (ops.size - y) l hs hc (by omega) (fun j hj=>?_) a w (by rw [show ops.size - (ops.size - y)=y by omega];exact h.2.2)
    rw [show ops.size - (ops.size - y)=y by omega]
    constructor
    · intro hx
      rcases Nat.lt_or_ge j y with q | q
      · exact q
      rw [hbe j q] at hx;cases hx
    exact all j
  | succ m ih =>
    intro l l' hs hs' hll hc hbe hm a w h
    obtain ⟨q,hq,hqf⟩:∃ q,q < y∧l.getD q false=false:=by
      have:0 < ((List.range y).filter fun i=>!l'.getD i false).length:=by show 0 < left l' y;omega
      obtain ⟨q,hq⟩:=List.exists_mem_of_length_pos this
      rw [List.mem_filter] at hq
      have h1:q < y:=by simpa using hq.1
      exact ⟨q,h1,by rw [← hll q h1];simpa using hq.2⟩
    rw [show m+1+(ops.size - y)=m+(ops.size - y)+1 by omega]
    refine ⟨fun hr=>?_,fun i hi=>?_⟩
    · obtain ⟨j,_,hj⟩:=pD ok hs q (by omega) hqf
      rw [hr] at hj;simp at hj
    have hi':=hi
    rw [eF] at hi'
    obtain ⟨i1,i2,o,i3,i4⟩:=hi'
    have hiy:i < y:=by
      rcases Nat.lt_or_ge i y with x | x
      · exact x
      have:=rD ok hs hc hi x q (by omega)
      rw [hqf] at this;cases this
    have hun:=(qi (by omega)).1 i2
    have hri:i∈Region.ready .any (ops.toList.take y).toArray l':=by
      rw [eF]
      refine ⟨by omega,(qi (by omega)).2 (by rw [hll i hiy];exact hun),o,by rw [hget i hiy];exact i3,fun e he hb=>?_⟩
      have:=ok.edge i o i3 e he hb
      rw [hll e.on (by omega)];exact i4 e he hb
    refine Be (fun e a w k=>k.1) (hget i hiy) (fun o' j want ho hg=>hget j ?_) (fun a' w' hk=>?_) (h.2 i hri)
    · have:=ok.guard i o' j want ho hg;omega
    refine ih (l.setIfInBounds i true) (l'.setIfInBounds i true) (by simp [hs]) (by simp [hs']) (fun j hj=>?_) (mp hs hc hi) (fun j hj=>?_) ?_ a' w' hk
    · rw [dq _ _ _ (by omega),dq _ _ _ (by omega),hll j hj]
    · rw [dq _ _ _ (by omega),hbe j hj]
      simp;omega
    have:=uA l' y i hiy (by omega) (by rw [hll i hiy];exact hun)
    omega
end
section
variable {P:Program} {n0:Nat} {J:Nat→Hp→(Nat→Prop)→World→Prop} {N np:Nat} {Q:Exit→Nat→St→Prop} {k:Nat} {s:St}
abbrev mS (ops:Array Oper) (y:Nat):Array Oper:=(ops.toList.take y).toArray
theorem v7 (hP:P.follows .mixedOrders=true) {id:Nat} {ops:Array Oper} (y:Nat) (hy:Dp ops.toList y=true)
  (h:RK P N np (mS ops y) true (mS ops y).toList (dh (dU (mS ops y).toList) s) [] fun s'=>RY P n0 J N np Q ops (ops.toList.drop y) y k s'):AK P n0 J N np (.region id ops true) Q k s:=by
 intro ro S hh r a w G hc
 have ok:=HZ hy
 obtain ⟨C,hw,hj,hs,hF,hn,hm,hr0,hfr⟩:=hc.kj
 obtain ⟨sts,ios,h1,h2,h3,h4,h5⟩:=h
 simp only [List.nil_append] at h2 h3
 have hst:Start C.np N (mS ops y) (mS ops y).toList (dh (dU (mS ops y).toList) s) ios:=⟨hn.symm ▸ h2,h4,js _ _,kC _ _,jt _ _⟩
 have hc':=jM (dU (mS ops y).toList) (show Conc C N hh r s a w from ⟨hc.sz,by rw [hc.df];trivial,hc.rg,hw⟩)
 refine wpIn_region_any hP ?_
 have hyl:=ok.lt
 have hsz:(mS ops y).size=y:=by simp;omega
 have A:=wR (ro:=ro) (P:=P) (Q:=fun e a w=>e=.normal∧wpOpsIn (Wd ro) 0 P ops (fun e a' w'=>∃ k' s' h' r' G',Q e k' s'∧CK n0 J N np S k' G' h' r' s' a' w') (List.range' y (ops.size - y)) a w)
  rfl h1 hst (by simpa using h3) (fun h' r' a' w' c'=>⟨rfl,by
   have hdf:a'.defers=[]:=by
    have:=c'.df
    cases hd:a'.defers with
    | nil=>rfl
    | cons d ds =>
     rw [hd] at this
     have h1:=this.1
     rw [hm] at h1
     cases h1
   have h6:=h5 rfl ro S h' r' a' w' G ⟨c'.sz,hdf,c'.rg,C,c'.wk,hj,hs,hF,hn,hm,hr0,hfr⟩
   rw [List.length_drop] at h6
   simpa using h6⟩) y (Array.replicate y false) (by simp;omega) ?_ ?_ hh r a { w with drawn:=w.drawn+1 } ?_
 ·have:=H7 ok y (Array.replicate ops.size false) (Array.replicate y false) (by simp) (by simp) (fun j hj=>?_) ?_ (fun j hj=>?_) ?_ a { w with drawn:=w.drawn+1 } A
  ·rw [show y+(ops.size - y)=ops.size by omega] at this
   exact this
  ·simp only [Array.getD_eq_getD_getElem?,Array.getElem?_replicate]
   split <;> split <;> rfl
  ·intro k o hk hS
   simp only [Array.getD_eq_getD_getElem?,Array.getElem?_replicate] at hS
   split at hS <;> cases hS
  ·simp only [Array.getD_eq_getD_getElem?,Array.getElem?_replicate]
   split <;> rfl
  unfold left
  rw [List.filter_eq_self.2]
  ·simp
  intro i hi
  simp only [Array.getD_eq_getD_getElem?,Array.getElem?_replicate]
  split <;> rfl
 ·unfold left
  rw [List.filter_eq_self.2]
  ·simp;omega
  intro i hi
  simp only [Array.getD_eq_getD_getElem?,Array.getElem?_replicate]
  split <;> rfl
 ·intro k o hk hS
  simp only [Array.getD_eq_getD_getElem?,Array.getElem?_replicate] at hS
  split at hS <;> cases hS
 rw [gM (T:=fun _=>false) (fun j=>by
  simp only [Array.getD_eq_getD_getElem?,Array.getElem?_replicate]
  split <;> rfl),mm]
 exact ⟨hc'.sz,hc'.df,hc'.rg,hc'.wk.drew⟩
end
end
section
open Go Go.RowKit
abbrev bsC (b:Option Pr2):List DV:=anS ⟨bk b,bx b,by_ b,0,[],[]⟩
theorem ug {rest:List (Nat × Blk)} {m:Nat} {b:Blk} (h:da rest m=none):∀ x,da rest x=upd (da ((m,b) :: rest)) m none x:=by
 intro x
 show _=upd (upd (da rest) m (some b)) m none x
 by_cases e:x=m
 ·subst e;rw [upd_same,h]
 rw [aS _ _ _ _ e,aS _ _ _ _ e]
section
variable {D:Int} {m:Nat} {f:Fm}
theorem N3 (h:bk (cW (prL D m f)) > 0):bsC (cW (prL D m f))=anS (fnd D m f):=by
 have e:=Dt (b:=cW (prL D m f)) (by omega)
 rw [uW e]
 have:bk (cW (prL D m f))=1:=by rw [e];rfl
 unfold bsC
 rw [this]
theorem N4 (h:¬ bk (cW (prL D m f)) > 0):cW (prL D m f)=none:=by
 cases e:cW (prL D m f) with
 | none=>rfl
 | some q=>rw [e] at h;exact absurd (show (1:Int) > 0 by decide) h
def PtR (D:Int) (m k:Nat):Prop:=∀ q∈(parts m).take k,rbL D (q:Int)≠[]
theorem PtR.start:PtR D m 0:=fun q hq=>by simp at hq
theorem PtR.next {k q:Nat} (h:PtR D m k) (hq:(parts m)[k]?=some q) (hr:¬ rbL D (q:Int)=[]):PtR D m (k+1):=by
 intro q' hq'
 rw [ei hq,List.mem_append] at hq'
 rcases hq' with x | x
 ·exact h q' x
 simp only [List.mem_cons,List.not_mem_nil,or_false] at x;subst x;exact hr
theorem PtR.hit {k q:Nat} (h:PtR D m k) (hq:(parts m)[k]?=some q) (hr:rbL D (q:Int)=[]):blk D m=some q:=by
 unfold blk
 obtain ⟨r,e⟩:=qW hq
 rw [e,List.find?_append,List.find?_eq_none.2,Option.none_or,List.find?_cons_of_pos (by rw [hr];rfl)]
 intro x hx
 have:=h x hx
 simpa using this
theorem PtR.done {k:Nat} (h:PtR D m k) (hk:(parts m).length≤k):blk D m=none:=by
 unfold blk
 rw [List.find?_eq_none]
 intro x hx
 have:=h x (by rw [List.take_of_length_le hk];exact hx)
 simpa using this
theorem N2 {k q:Nat} (h0:cW (prL D m f)=none) (h:PtR D m k) (hq:(parts m)[k]?=some q) (hr:rbL D (q:Int)=[]):anS ⟨2,0,0,q,[],[]⟩=anS (fnd D m f):=by
 rw [xq h0 (h.hit hq hr)]
theorem N1 {k:Nat} {c:Int} (h0:cW (prL D m f)=none) (h1:blk D m=none) (hc:(agL D m f)[k]?=some c) (hk:k=0):anS ⟨2,0,0,c,[],[]⟩=anS (fnd D m f):=by
 subst hk
 cases e:agL D m f with
 | nil=>rw [e] at hc;simp at hc
 | cons a l =>
  rw [e] at hc
  simp only [List.getElem?_cons_zero,Option.some.injEq] at hc
  subst hc
  rw [Ay h0 h1 e]
theorem N0 (h0:cW (prL D m f)=none) (h1:blk D m=none) (hk:((agL D m f).map fun c=>([PE c]:List PV)).length=0):anS ⟨3,0,0,0,rbL D m,fmL D m⟩=anS (fnd D m f):=by
 have e:agL D m f=[]:=by rw [List.length_map] at hk;exact List.length_eq_zero_iff.1 hk
 rw [xp h0 h1 e]
theorem zS {n:Nat}:∀ x∈(parts n).map (fun (q:Nat)=>([PE (q:Int)]:List PV)),x.length=1:=by
 intro x hx
 obtain ⟨p,_,rfl⟩:=List.mem_map.1 hx
 rfl
theorem Ex {x:List PV} {k n:Nat} (h:((parts n).map fun (q:Nat)=>([PE (q:Int)]:List PV))[k]?=some x):∃ q,(parts n)[k]?=some q∧x=[PE (q:Int)]:=by
 rw [List.getElem?_map] at h
 obtain ⟨p,h1,rfl⟩:=Option.map_eq_some_iff.1 h
 exact ⟨p,h1,rfl⟩
theorem JV {k n:Nat} (hk:k=((parts n).map fun (q:Nat)=>([PE (q:Int)]:List PV)).length):(parts n).length≤k:=by
 rw [hk,List.length_map];exact Nat.le_refl _
theorem yf {k n q:Nat} (hn:1≤n∧n≤65536) (h:(parts n)[k]?=some q):1≤q∧q≤65536:=by
 have:=qH (by omega) (List.mem_of_getElem? h)
 omega
theorem Lo {k:Nat} {c n:Int} (hD:-4194304≤D∧D < 0) (h:(agL D n f)[k]?=some c):-8≤c∧c≤4194304:=by
 have h1:=List.mem_of_getElem? h
 unfold agL at h1
 split at h1
 ·obtain ⟨p,hp,rfl⟩:=List.mem_map.1 h1
  have h2:=(List.of_mem_zip (List.mem_filter.1 hp).1).1
  exact qh hD.2 hD.1 h2
 simp at h1
theorem AW {l:List Pr2} {n:Nat} (h:n=(l.map fun p=>([PA p]:List PV)).length):dQ l n=cW l:=AX (by rw [h,List.length_map];exact Nat.le_refl _)
end
end
section
open Go Go.RowKit
def nh (l:List (Int × Bool)) (es:List MapEntry):Prop:=es.map (fun e=>(e.key,e.val))=l.map fun p=>(Value.int .i64 p.1,Value.bool p.2)
def Lu (l:List (Int × Bool)):Hp→Value→Prop:=fun h x=>∃ b es clk,x=.map (some b)∧h b=some (.map es clk)∧nh l es.toList
theorem u7 {n:Int}:∀ (l:List (Int × Bool)) (es:List MapEntry) (i:Nat),nh l es→(l.lookup n=none→Instr.findNow (.int .i64) (.int .i64 n) es i=some none)∧∀ v,l.lookup n=some v→∃ j,Instr.findNow (.int .i64) (.int .i64 n) es i=some (some (j,.bool v))
 | [],[],i,_=>⟨fun _=>rfl,fun v h=>by simp at h⟩
 | [],_ :: _,_,h=>by simp [nh] at h
 | _ :: _,[],_,h=>by simp [nh] at h
 | (k,v) :: l,e :: es,i,h=>by
  unfold nh at h
  simp only [List.map_cons,List.cons.injEq,Prod.mk.injEq] at h
  obtain ⟨⟨h1,h2⟩,h3⟩:=h
  have ih:=u7 (n:=n) l es (i+1) h3
  by_cases hk:n=k
  ·subst hk
   have hl:List.lookup n ((n,v) :: l)=some v:=by simp [List.lookup]
   refine ⟨fun h=>(by rw [hl] at h;cases h),fun v' hv=>?_⟩
   rw [hl] at hv;cases hv
   exact ⟨i,by simp [Instr.findNow,Instr.sameNow,h1,h2]⟩
  have hb:(n == k)=false:=by simpa using hk
  have hl:List.lookup n ((k,v) :: l)=List.lookup n l:=by simp [List.lookup,hb]
  have hf:Instr.findNow (.int .i64) (.int .i64 n) (e :: es) i=Instr.findNow (.int .i64) (.int .i64 n) es (i+1):=by
   simp [Instr.findNow,Instr.sameNow,h1,hb]
  rw [hl,hf]
  exact ih
section
variable {P:Program} {T K E:TypeId}
theorem uZ {n:Int} {l:List (Int × Bool)} {es:List MapEntry} (hK:P.underlying K=some (.int .i64)) (hl:nh l es) (w:World) :
  (l.lookup n=none→(Instr.findKey K (.int .i64 n) es).run P w=.ok none w)∧∀ v,l.lookup n=some v→∃ j,(Instr.findKey K (.int .i64 n) es).run P w=.ok (some (j,.bool v)) w:=by
 obtain ⟨h1,h2⟩:=u7 (n:=n) l es 0 hl
 refine ⟨fun h=>?_,fun v hv=>?_⟩
 ·simp [Instr.findKey,Sem.run_bind,run_underlying hK,h1 h]
 obtain ⟨j,hj⟩:=h2 v hv
 exact ⟨j,by simp [Instr.findKey,Sem.run_bind,run_underlying hK,hj]⟩
theorem sB (hK:P.underlying K=some (.int .i64)) (n:Int) (e:Bool) (w2:World):(Instr.checkKey e 10000 K (.int .i64 n)).run P w2=.ok () w2:=by
 unfold Instr.checkKey
 simp [Sem.run_bind,run_underlying hK]
theorem yo {dst:Option Nat} {ty:TypeId} {pos:String} {af:Array Edge} {gd:Option (Nat × Bool)} {d:Nat} {ρ:Operand→AV} {own:Own} {x y:Operand} {n:Int} {l:List (Int × Bool)} {u:Bool}
  (hu:P.underlying T=some (.map K E)) (hK:P.underlying K=some (.int .i64)) (hE:∀ w,(zeroValue E).run P w=.ok (.bool false) w)
  (hx:ρ x=.ax (Lu l)) (hy:ρ y=.p (.c (.v (.int .i64 n)))) (hr:(l.lookup n).getD false=u) :
  Eff P ⟨dst,.lookup T x y false,ty,pos,af,gd⟩ d ρ own (.p (.c (.v (.bool u)))) [] none [] :=
 bD fun C h r own' a w hrep hrd hw=>by
  have e1:=hrep x (by simp [Op.operands])
  have e2:=hrep y (by simp [Op.operands])
  rw [hx] at e1;rw [hy] at e2
  obtain ⟨b,es,clk,h1,h2,h3⟩:=e1 h (fun _ _ _ e=>e)
  have h4:=hw.hi _ _ h2
  have hgo:(getObj b).run P w=.ok (.map es clk) w:=by simp [getObj,Sem.run,h4]
  obtain ⟨f1,f2⟩:=uZ (n:=n) hK h3 w
  have hck:=sB (P:=P) hK n
  refine ⟨.bool u,?_,lw _ _ _⟩
  cases hl:l.lookup n with
  | none =>
   rw [hl] at hr
   simp only [Option.getD_none] at hr
   subst hr
   simp [execOp,Instr.lookup,h1,b7 e2,Sem.run_bind,run_underlying hu,hgo,hck,f1 hl,hE]
  | some v =>
   obtain ⟨j,hj⟩:=f2 v hl
   rw [hl] at hr
   simp only [Option.getD_some] at hr
   subst hr
   simp [execOp,Instr.lookup,h1,b7 e2,Sem.run_bind,run_underlying hu,hgo,hck,hj]
end
section
variable (P:Program) (B:Bool) (N np:Nat) (Q:Exit→St→Prop) (ops:Array Oper)
def TQ (C:Ctx):Exit→Act→World→Prop:=fun e a' w'=>∃ s' h' r',Q e s'∧Conc C N h' r' s' a' w'
def RT (os:List Oper) (i:Nat) (s:St):Prop:=ops.toList.drop i=os→∀ (ro:Option Nat),(B=false→ro=none)→∀ (C:Ctx) (h:Hp) (r:Nat→Value) (a:Act) (w:World),C.np=np∧C.mar = !B→Conc C N h r s a w →
 wpOpsIn (Wd ro) 0 P ops (TQ N Q C) (List.range' i os.length) a w
def RM (d:Nat) (l:List (Int × Bool)) (os:List Oper) (i:Nat) (s:St):Prop:=ops.toList.drop i=os→∀ (ro:Option Nat),(B=false→ro=none)→∀ (C:Ctx) (h:Hp) (r:Nat→Value) (a:Act) (w:World) (b clk:Nat) (es:Array MapEntry),
 C.np=np∧C.mar = !B→Conc C N h r s a w→w.heap[b]?=some (.map es clk)→nh l es.toList→a.tmps.getD d undef=.map (some b)→C.w0.heap.size≤b→h b=none→(∀ m,s.own m≠none→bp (r m)≠some b) →
 wpOpsIn (Wd ro) 0 P ops (TQ N Q C) (List.range' i os.length) a w
variable {P:Program} {B:Bool} {N np:Nat} {Q:Exit→St→Prop} {ops:Array Oper} {os:List Oper} {i d t:Nat} {s:St} {l:List (Int × Bool)}
variable {op:Op} {ty:TypeId} {pos:String} {af:Array Edge} {gd:Option (Nat × Bool)}
theorem RT.done (h:Q .normal s):RT P B N np Q ops [] i s:=fun _ _ _ _ hh r _ _ _ hc=>⟨s,hh,r,h,hc⟩
theorem Conc.put {C:Ctx} {h:Hp} {r:Nat→Value} {a:Act} {w:World} {v:AV} {x:Value} (hc:Conc C N h r s a w) (ht:t < N) (hv:AVRep h r v x):Conc C N h r ⟨upd s.regs t v,s.own⟩ (a.put (some t) x) w :=
 ⟨by simp [Act.put,hc.sz],hc.df,hc.rg.put (dst:=some t) (fun d e=>by cases e;rw [hc.sz];exact ht) hv,hc.wk⟩
theorem kJ {a:Act} {x:Value} (h:d≠t):(a.put (some t) x).tmps.getD d undef=a.tmps.getD d undef:=by
 simp only [Act.put]
 simp only [Array.getD_eq_getD_getElem?,Array.getElem?_setIfInBounds]
 rw [if_neg (fun e=>h e.symm)]
theorem RT.mv {x:Operand} {v:AV} (hop:op=.move x∨op=.assign x) (hv:ev s.regs x=v) (hr:RT P B N np Q ops os (i+1) ⟨upd s.regs t v,s.own⟩) (hN:Nat.blt t N=true:=by rfl):RT P B N np Q ops (⟨some t,op,ty,pos,af,none⟩ :: os) i s:=by
 intro hd ro hB C hh r a w hn hc
 obtain ⟨h1,h2⟩:=eI hd
 rw [Nat.blt_eq] at hN
 rw [List.length_cons,List.range'_succ,wpOpsIn_cons]
 refine jX h1 rfl (by rcases hop with rfl | rfl <;> rfl) (x:=a.eval x) (w':=w) (by rcases hop with rfl | rfl <;> simp only [execOp,Sem.run_pure]) ?_
 exact hr h2 ro hB C hh r _ w hn (hc.put hN (hv ▸ dR hc.rg x))
theorem RM.mv {x:Operand} {v:AV} (hop:op=.move x∨op=.assign x) (hv:ev s.regs x=v) (hr:RM P B N np Q ops d l os (i+1) ⟨upd s.regs t v,s.own⟩) (hN:(Nat.blt t N && !Nat.beq d t)=true:=by rfl):RM P B N np Q ops d l (⟨some t,op,ty,pos,af,none⟩ :: os) i s:=by
 intro hd ro hB C hh r a w b clk es hn hc h3 h4 h5 h6 h7 h8
 obtain ⟨h1,h2⟩:=eI hd
 simp only [Bool.and_eq_true,Nat.blt_eq,Bool.not_eq_true'] at hN
 rw [List.length_cons,List.range'_succ,wpOpsIn_cons]
 refine jX h1 rfl (by rcases hop with rfl | rfl <;> rfl) (x:=a.eval x) (w':=w) (by rcases hop with rfl | rfl <;> simp only [execOp,Sem.run_pure]) ?_
 exact hr h2 ro hB C hh r _ w b clk es hn (hc.put hN.1 (hv ▸ dR hc.rg x)) h3 h4 (by rw [kJ (fun e=>by rw [e] at hN;simp at hN)];exact h5) h6 h7 h8
theorem RM.and {t1 t2 j:Nat} {y:Operand} {b1 b2:Bool} {op1:Op} {ty1 ty2:TypeId} {pos1 pos2:String} {af1 af2:Array Edge} {c:Nat}
  (hop:op1=.move y) (hg:ju ops j=some c) (hx:ev s.regs (.tmp c)=.p (.c (.v (.bool b1)))) (hy:ev s.regs y=.p (.c (.v (.bool b2))))
  (hr:RM P B N np Q ops d l os (i+1+1) ⟨upd (upd s.regs t1 .junk) t2 (.p (.c (.v (.bool (b1 && b2))))),s.own⟩)
  (hN:(Nat.blt t1 N && Nat.blt t2 N && !Nat.beq d t1 && !Nat.beq d t2 && !Nat.beq c t1)=true:=by rfl) :
  RM P B N np Q ops d l (⟨some t1,op1,ty1,pos1,af1,some (j,true)⟩ :: ⟨some t2,.pick (.tmp c) (.tmp t1) (.const (.bool false)),ty2,pos2,af2,none⟩ :: os) i s:=by
 intro hd ro hB C hh r a w b clk es hn hc h3 h4 h5 h6 h7 h8
 subst hop
 obtain ⟨h1,h2⟩:=eI hd
 obtain ⟨h1',h2'⟩:=eI h2
 simp only [Bool.and_eq_true,Nat.blt_eq,Bool.not_eq_true'] at hN
 obtain ⟨⟨⟨⟨n1,n2⟩,n3⟩,n4⟩,n5⟩:=hN
 have d1:d≠t1:=fun e=>by rw [e] at n3;simp at n3
 have d2:d≠t2:=fun e=>by rw [e] at n4;simp at n4
 have d3:c≠t1:=fun e=>by rw [e] at n5;simp at n5
 rw [List.length_cons,List.range'_succ,wpOpsIn_cons]
 have ec:a.tmps.getD c undef=.bool b1:=by
  have:=dR hc.rg (.tmp c)
  rw [hx] at this
  exact b7 this
 have ey:a.eval y=.bool b2:=by
  have:=dR hc.rg y
  rw [hy] at this
  exact b7 this
 have hw:∀ o:Oper,o.guard=some (j,true)→Region.wanted o (yielded ops a.tmps)=b1:=fun o ho=>by
  have hyy:=lN hc.rg hg (c:=b1) (by exact hx)
  unfold Region.wanted
  rw [ho]
  simp only [hyy]
  cases b1 <;> rfl
 have step:∀ x1:Value,(b1=true→x1=.bool b2)→wpOpsIn (Wd ro) 0 P ops (TQ N Q C) (List.range' (i+1) (os.length+1)) (a.put (some t1) x1) w:=fun x1 hx1=>by
  rw [List.range'_succ,wpOpsIn_cons]
  have e1:(a.put (some t1) x1).tmps.getD c undef=.bool b1:=by rw [kJ d3];exact ec
  have e2:(a.put (some t1) x1).tmps.getD t1 undef=x1:=by
   simp only [Act.put]
   rw [fe _ _ _ _ (by rw [hc.sz];exact n1),if_pos rfl]
  refine jX h1' rfl rfl (x:=.bool (b1 && b2)) (w':=w) ?_ ?_
  ·have e1':(a.put (some t1) x1).eval (.tmp c)=.bool b1:=e1
   have e2':(a.put (some t1) x1).eval (.tmp t1)=x1:=e2
   have e3':(a.put (some t1) x1).eval (.const (.bool false))=.bool false:=rfl
   cases b1
   ·simp [execOp,e1',e3',asBool]
   have e4:=hx1 rfl
   subst e4
   simp [execOp,e1',e2',asBool]
  refine hr h2' ro hB C hh r _ w b clk es hn ((hc.put (t:=t1) (v:=.junk) n1 trivial).put (t:=t2) n2 (lw _ _ _)) h3 h4 (by rw [kJ d2,kJ d1];exact h5) h6 h7 h8
 unfold wpOpIn
 simp only [h1]
 rw [hw _ rfl]
 cases hb:b1 with
 | true =>
  rw [if_pos rfl]
  refine ⟨fun _ _=>trivial,?_⟩
  rw [Oper.semAt_eq _ _ _ (fun c' e=>by cases e)]
  have hrun:(execOp a.eval ⟨some t1,.move y,ty1,pos1,af1,some (j,true)⟩).run P w=.ok (.value (.bool b2)) w:=by simp only [execOp,ey,Sem.run_pure]
  rw [hrun]
  exact step _ fun _=>rfl
 | false =>
  rw [if_neg (by simp)]
  exact ⟨fun _ _=>trivial,step _ fun e=>by rw [hb] at e;cases e⟩
theorem RM.insert {T K E:TypeId} {k:Int} {v:Bool} {y:Operand} (hu:P.underlying T=some (.map K E)) (hK:P.underlying K=some (.int .i64)) (hy:ev s.regs y=.p (.c (.v (.bool v)))) (hl:l.lookup k=none)
  (hr:RM P B N np Q ops d (l ++ [(k,v)]) os (i+1) s):RM P B N np Q ops d l (⟨none,.insert T (.tmp d) (.const (.int .i64 k)) y,ty,pos,af,none⟩ :: os) i s:=by
 intro hd ro hB C hh r a w b clk es hn hc h3 h4 h5 h6 h7 h8
 obtain ⟨h1,h2⟩:=eI hd
 rw [List.length_cons,List.range'_succ,wpOpsIn_cons]
 have ey:a.eval y=.bool v:=by
  have:=dR hc.rg y
  rw [hy] at this
  exact b7 this
 have ed:a.eval (.tmp d)=.map (some b):=h5
 have ek:a.eval (.const (.int .i64 k))=.int .i64 k:=rfl
 have hgo:(getObj b).run P w=.ok (.map es clk) w:=by simp [getObj,Sem.run,h3]
 have hso:∀ o,(setObj b o).run P w=.ok () (w.putObj b o):=fun o=>by simp [setObj,Sem.run,h3,World.putObj]
 have hf:=(uZ (n:=k) hK h4 w).1 hl
 have hck:=sB (P:=P) hK k
 refine vF h1 rfl rfl (w':=w.putObj b (.map (es.push ⟨.int .i64 k,.bool v,clk⟩) (clk+1))) ?_ ?_
 ·simp [execOp,ed,ek,ey,Sem.run_bind,Instr.mapUpdate,run_underlying hu,hgo,hck,hf,hso]
 have hlt:b < w.heap.size:=(Array.getElem?_eq_some_iff.1 h3).1
 refine hr h2 ro hB C hh r _ _ b (clk+1) (es.push ⟨.int .i64 k,.bool v,clk⟩) hn ⟨by simp [Act.put,hc.sz],hc.df,fun t=>hc.rg t,hc.wk.putL h8 h7 h6⟩ ?_ ?_ h5 h6 h7 h8
 ·simp [World.putObj,hlt]
 unfold nh at h4 ⊢
 rw [Array.toList_push,List.map_append,List.map_append,h4]
 rfl
theorem WOK.learn {C:Ctx} {h:Hp} {r:Nat→Value} {own:Own} {w:World} (k:WOK C h r own w) {b:Nat} {o:Obj} (hb:w.heap[b]?=some o) (h6:C.w0.heap.size≤b) (h7:h b=none) (h8:∀ m,own m≠none→bp (r m)≠some b) :
  WOK C (fun j=>if j=b then some o else h j) r own w∧Hle h (fun j=>if j=b then some o else h j):=by
 have hle:Hle h (fun j=>if j=b then some o else h j):=fun j o' hj=>by
  show (if j=b then some o else h j)=_
  rw [if_neg fun hji=>by subst hji;rw [h7] at hj;cases hj];exact hj
 refine ⟨⟨fun m b' hm=>(k.ow m b' hm).mono hle,k.inj,fun j o' hj=>?_,fun m j hm e=>?_,k.os,k.tape,k.output,k.size,k.old,k.fo,k.hg.trans hle,fun j hj=>?_,k.gl.mono hle,k.kp,k.lk⟩,hle⟩
 ·by_cases e:j=b
  ·subst e;simp only [if_true] at hj;rw [hb];exact hj
  rw [if_neg e] at hj;exact k.hi j o' hj
 ·show (if j=b then some o else h j)=none
  rw [if_neg fun x=>by subst x;exact h8 m hm e];exact k.ho m j hm e
 by_cases e:j=b
 ·subst e;exact .inr (.inl h6)
 have hj':h j≠none:=by intro x;apply hj;show (if j=b then some o else h j)=none;rw [if_neg e];exact x
 exact k.hn j hj'
theorem RM.freeze (hr:RT P B N np Q ops os i ⟨upd s.regs d (.ax (Lu l)),s.own⟩):RM P B N np Q ops d l os i s:=by
 intro hd ro hB C hh r a w b clk es hn hc h3 h4 h5 h6 h7 h8
 obtain ⟨f1,f2⟩:=hc.wk.learn h3 h6 h7 h8
 refine hr hd ro hB C _ r a w hn ⟨hc.sz,hc.df.mono f2,fun t'=>?_,f1⟩
 show AVRep _ _ (upd s.regs d _ t') _
 by_cases e':t'=d
 ·subst e'
  rw [upd_same]
  intro h' hl
  exact ⟨b,es,clk,h5,hl _ _ (fun q e=>by cases e) (if_pos rfl),h4⟩
 rw [aS _ _ _ _ e'];exact AVRep.mono f2 _ _ (hc.rg t')
theorem v6 {id:Nat} {T:TypeId} {os:List Oper} (h0:ops.toList=⟨some d,.makeMap T none,ty,pos,af,none⟩ :: os) (h:RM P B N np Q ops d [] os 1 ⟨upd s.regs d .junk,s.own⟩) (hN:Nat.blt d N=true:=by rfl):AWp P B N np (.region id ops false) Q s:=by
 intro ro hB C hh r a w hn hc
 rw [Nat.blt_eq] at hN
 apply wpIn_region
 have hsz:ops.size=os.length+1:=by rw [← Array.length_toList,h0];rfl
 rw [List.range_eq_range',hsz,List.range'_succ,wpOpsIn_cons]
 have h1:ops[0]?=some ⟨some d,.makeMap T none,ty,pos,af,none⟩:=by rw [← Array.getElem?_toList,h0];rfl
 refine jX h1 rfl rfl (x:=.map (some w.heap.size)) (w':=w.alloc (.map #[] 0)) (by simp [execOp,Instr.makeMap]) ?_
 have old:∀ i,i < w.heap.size→(w.alloc (.map #[] 0)).heap[i]?=w.heap[i]?:=fun i hi=>by rw [bX,if_neg (by omega)]
 have hw:=hc.wk.beside (w':=w.alloc (.map #[] 0)) rfl rfl (.refl _) (by show w.heap.size≤(w.heap.push _).size;rw [Array.size_push];omega) old
 refine h (by rw [h0];rfl) ro hB C hh r _ _ w.heap.size 0 #[] hn ((show Conc C N hh r s a (w.alloc (.map #[] 0)) from ⟨hc.sz,hc.df,hc.rg,hw⟩).put hN trivial) (by rw [bX,if_pos rfl]) rfl ?_ hc.wk.size ?_ ?_
 ·simp only [Act.put]
  rw [fe _ _ _ _ (by rw [hc.sz];exact hN),if_pos rfl]
 ·cases hx:hh w.heap.size with
  | none=>rfl
  | some o=>exact absurd (hc.wk.hlt hx) (Nat.lt_irrefl _)
 intro m hm e
 exact absurd (hc.wk.lt hm e) (Nat.lt_irrefl _)
end
end
section
open Go Go.RowKit
section
variable {α:Type}
structure SmG (l m:List α) (k:Nat):Prop where
 len:l.length=m.length
 le:k≤l.length
 eq:l.take k=m.take k
theorem SmG.start {l m:List α} (h:l.length=m.length):SmG l m 0:=⟨h,Nat.zero_le _,by simp⟩
theorem jv {l:List α} {k:Nat} (h:k < l.length) (d:α):l[k]?=some (l.getD k d):=by
 rw [List.getD_eq_getElem?_getD,List.getElem?_eq_getElem h];rfl
theorem SmG.next {l m:List α} {k:Nat} {d:α} (i:SmG l m k) (hk:k < l.length) (h:l.getD k d=m.getD k d):SmG l m (k+1) :=
 ⟨i.len,hk,by rw [ei (jv hk d),ei (jv (by have:=i.len;omega) d),i.eq,h]⟩
theorem SmG.yes {l m:List α} {k:Nat} (i:SmG l m k) (hk:¬ k < l.length):l=m:=by
 have h:=i.eq
 rw [List.take_of_length_le (by omega),List.take_of_length_le (by have:=i.len;omega)] at h
 exact h
theorem SmG.no {l m:List α} {k:Nat} {d:α} (h:¬ l.getD k d=m.getD k d):¬ l=m:=fun e=>h (by rw [e])
def jT (p:α→Bool):List α→Nat→Int
 | [],_=>-1
 | x :: l,k=>if p x=true then (k:Int) else jT p l (k+1)
theorem Az {p:α→Bool} {l:List α} {k:Nat} {d:α} (h:k < l.length) (hp:p (l.getD k d)=false):jT p (l.drop k) k=jT p (l.drop (k+1)) (k+1):=by
 rw [List.drop_eq_getElem_cons h]
 show (if p l[k]=true then (k:Int) else jT p (l.drop (k+1)) (k+1))=_
 rw [List.getD_eq_getElem?_getD,List.getElem?_eq_getElem h] at hp
 simp only [Option.getD_some] at hp
 rw [if_neg (by rw [hp];decide)]
theorem C9 {p:α→Bool} {l:List α} {k:Nat} {d:α} (h:k < l.length) (hp:p (l.getD k d)=true):jT p (l.drop k) k=k:=by
 rw [List.drop_eq_getElem_cons h]
 show (if p l[k]=true then (k:Int) else jT p (l.drop (k+1)) (k+1))=_
 rw [List.getD_eq_getElem?_getD,List.getElem?_eq_getElem h] at hp
 simp only [Option.getD_some] at hp
 rw [if_pos hp]
theorem Da {p:α→Bool} {l:List α} {k:Nat} (h:l.length≤k):jT p (l.drop k) k=-1:=by
 rw [List.drop_eq_nil_of_le h];rfl
theorem uY {p:α→Bool}:∀ (l:List α) (k:Nat),decide (jT p l k ≥ 0)=l.any p
 | [],_=>rfl
 | x :: l,k=>by
  rw [List.any_cons]
  unfold jT
  cases h:p x with
  | true=>rw [if_pos rfl,Bool.true_or,decide_eq_true_eq];omega
  | false=>rw [if_neg (by decide),Bool.false_or];exact uY l (k+1)
end
theorem Lk {o:Fm} {l:List Fm}:(l.any fun g=>decide (g.a=o.a∧g.b=o.b∧g.c=o.c))=decide (o∈l):=by
 rw [Bool.eq_iff_iff,List.any_eq_true,decide_eq_true_eq]
 constructor
 ·rintro ⟨g,hg,h⟩
  rw [decide_eq_true_eq] at h
  have:g=o:=Fm.ext h.1 h.2.1 h.2.2
  exact this ▸ hg
 intro h;exact ⟨o,h,by simp⟩
section
variable {D:Int} {m:Nat} {f:Fm} {a:Ans}
def rgV (D:Int) (m:Nat) (f:Fm) (a:Ans):Bool:=if a.kind=1 then dP f m (a.x,a.y) else if a.kind=2 then kR D m f a.m else ko D m f a.roots a.forms
theorem Nv (h:a.kind=1) (h1:decide ((Int.gcd a.x a.y:Int)=1)=true):decide (vl f.a f.b f.c a.x a.y=m)=rgV D m f a:=by
 unfold rgV dP
 have:=dT0 h1
 rw [if_pos h,show decide (Int.gcd (a.x,a.y).1 (a.x,a.y).2=1)=true from decide_eq_true (by show Int.gcd a.x a.y=1;omega),Bool.true_and]
theorem LU (h:a.kind=1) (h1:decide ((Int.gcd a.x a.y:Int)=1)=false):false=rgV D m f a:=by
 unfold rgV dP
 have:=dF0 h1
 rw [if_pos h,show decide (Int.gcd (a.x,a.y).1 (a.x,a.y).2=1)=false from decide_eq_false (by show ¬ Int.gcd a.x a.y=1;omega),Bool.false_and]
theorem BV (h1:¬ a.kind=1) (h2:a.kind=2) {b:Bool} (h:kR D m f a.m=b):b=rgV D m f a:=by
 unfold rgV;rw [if_neg h1,if_pos h2,h]
theorem xT (h1:¬ a.kind=1) (h2:¬ a.kind=2) {b:Bool} (h:ko D m f a.roots a.forms=b):b=rgV D m f a:=by
 unfold rgV;rw [if_neg h1,if_neg h2,h]
def AgN (D:Int) (m:Nat) (f:Fm) (x:Int) (k:Nat):Prop:=x ∉ (agL D m f).take k
theorem AgN.start {x:Int}:AgN D m f x 0:=by unfold AgN;simp
theorem AgN.next {x c:Int} {k:Nat} (h:AgN D m f x k) (hc:(agL D m f)[k]?=some c) (hn:¬ x=c):AgN D m f x (k+1):=by
 unfold AgN at *
 rw [ei hc,List.mem_append]
 rintro (q | q)
 ·exact h q
 simp only [List.mem_cons,List.not_mem_nil,or_false] at q;exact hn q
theorem AgN.done {x:Int} {k:Nat} (h:AgN D m f x k) (hk:k=((agL D m f).map fun c=>([PE c]:List PV)).length):x ∉ agL D m f:=by
 unfold AgN at h
 rw [List.length_map] at hk
 rwa [hk,List.take_length] at h
def PtX (m:Nat) (x:Int) (k:Nat):Prop:=∀ q∈(parts m).take k,x≠(q:Int)
theorem PtX.start {x:Int}:PtX m x 0:=fun q hq=>by simp at hq
theorem PtX.next {x:Int} {k q:Nat} (h:PtX m x k) (hq:(parts m)[k]?=some q) (hn:¬ x=(q:Int)):PtX m x (k+1):=by
 intro q' hq'
 rw [ei hq,List.mem_append] at hq'
 rcases hq' with z | z
 ·exact h q' z
 simp only [List.mem_cons,List.not_mem_nil,or_false] at z;subst z;exact hn
theorem Ju {x c:Int} {k:Nat} (hc:(agL D m f)[k]?=some c) (h:x=c):kR D m f x=true:=Gl (by rw [h];exact List.mem_of_getElem? hc)
theorem Js {x:Int} {k q:Nat} (hn:x ∉ agL D m f) (hq:(parts m)[k]?=some q) (h:x=(q:Int)):kR D m f x=decide (rbL D (q:Int)=[]):=by
 unfold kR
 rw [decide_eq_false hn,Bool.false_or,decide_eq_true (List.mem_map.2 ⟨q,List.mem_of_getElem? hq,h.symm⟩),Bool.true_and,h]
theorem Jt {x:Int} {k:Nat} (hn:x ∉ agL D m f) (h:PtX m x k) (hk:k=((parts m).map fun (q:Nat)=>([PE (q:Int)]:List PV)).length):kR D m f x=false:=by
 unfold kR
 rw [decide_eq_false hn,Bool.false_or,Bool.and_eq_false_iff]
 left
 rw [decide_eq_false_iff_not]
 intro hm
 obtain ⟨q,hq,e⟩:=List.mem_map.1 hm
 exact h q (by rw [hk,List.length_map,List.take_length];exact hq) e.symm
theorem rg3 {roots:List Int} {forms:List Fm} (h1:decide (((fmL D m).length:Int) > 0)=true) (h2:decide (roots=rbL D m)=true) (h3:decide (forms=fmL D m)=true) :
  ko D m f roots forms = !decide (f.rd∈fmL D m):=by
 have h4:=dT0 h1
 unfold ko
 rw [h2,h3,decide_eq_true]
 ·simp
 intro e;unfold fmL at h4;rw [e] at h4;simp at h4
theorem L3 {roots:List Int} {forms:List Fm} (h1:decide (((fmL D m).length:Int) > 0)=false):ko D m f roots forms=false:=by
 have h4:=dF0 h1
 have:rbL D m=[]:=by
  unfold fmL at h4
  rw [List.length_map] at h4
  exact List.length_eq_zero_iff.1 (by omega)
 unfold ko
 rw [this];rfl
theorem L2 {roots:List Int} {forms:List Fm} (h2:decide (roots=rbL D m)=false):ko D m f roots forms=false:=by
 unfold ko;rw [h2];simp
theorem L1 {roots:List Int} {forms:List Fm} (h3:decide (forms=fmL D m)=false):ko D m f roots forms=false:=by
 unfold ko;rw [h3];simp
theorem MR {hm:m≤65536}:((fmL D m).length:Int)≤131072:=by
 have:=qa D m hm;omega
def py (a:RA):List (Int × Bool):=[(1,decide (a.m.2=[]) && decide (((a.roots.length+a.forms.length:Nat):Int)=0)),(2,(decide (a.x.2=[]) && decide (a.y.2=[])) && decide (((a.roots.length+a.forms.length:Nat):Int)=0)),(3,(decide (a.x.2=[]) && decide (a.y.2=[])) && decide (a.m.2=[]))]
theorem Lb {a:RA} {r:Rw} (h:r∈a.nums) (hv:rV r=false):false=rgA D m f a:=by
 unfold rgA
 rw [(List.all_eq_false.2 ⟨r,h,by rw [hv];decide⟩),Bool.false_and]
theorem sy {a:RA} (h:∀ r∈a.nums,rV r=true):rgA D m f a=(((py a).lookup a.kind).getD false && rgV D m f a.ans):=by
 have hx:=Cb (h a.x (by unfold RA.nums;simp))
 have hy:=Cb (h a.y (by unfold RA.nums;simp))
 have hm:=Cb (h a.m (by unfold RA.nums;simp))
 have hl:decide (((a.roots.length+a.forms.length:Nat):Int)=0)=decide (a.ans.roots=[]∧a.ans.forms=[]):=by
  rw [decide_eq_decide]
  unfold RA.ans
  simp only [List.map_eq_nil_iff]
  constructor
  ·intro e;exact ⟨List.length_eq_zero_iff.1 (by omega),List.length_eq_zero_iff.1 (by omega)⟩
  rintro ⟨e1,e2⟩;rw [e1,e2];rfl
 unfold rgA py
 rw [List.all_eq_true.2 h,Bool.true_and,hx,hy,hm,hl]
 unfold rgt rgV
 have ek:a.ans.kind=a.kind:=rfl
 have e1:(decide (rZ a.x=0) && decide (rZ a.y=0))=decide (a.ans.x=0∧a.ans.y=0):=by
  show _=decide (rZ a.x=0∧rZ a.y=0)
  rw [Bool.decide_and]
 have e2:decide (rZ a.m=0)=decide (a.ans.m=0):=rfl
 rw [e1,e2,ek]
 generalize a.ans=b at *
 by_cases k1:a.kind=1
 ·rw [k1];simp [List.lookup]
 by_cases k2:a.kind=2
 ·rw [k2];simp [List.lookup]
 by_cases k3:a.kind=3
 ·rw [k3];simp [List.lookup]
 have f1:(a.kind == 1)=false:=by simpa using k1
 have f2:(a.kind == 2)=false:=by simpa using k2
 have f3:(a.kind == 3)=false:=by simpa using k3
 rw [if_neg k1,if_neg k2,if_neg k3]
 simp [List.lookup,f1,f2,f3]
theorem M1 {a:RA} (h:∀ r∈a.nums,rV r=true) {u:Bool} (hu:((py a).lookup a.kind).getD false=u) (ht:u=true):rgV D m f a.ans=rgA D m f a:=by
 rw [sy h,hu,ht,Bool.true_and]
theorem M2 {a:RA} (h:∀ r∈a.nums,rV r=true) {u:Bool} (hu:((py a).lookup a.kind).getD false=u) (ht:u=false):false=rgA D m f a:=by
 rw [sy h,hu,ht,Bool.false_and]
end
end
section
open Go Go.RowKit
section
variable {r:Rw}
theorem zA (h:((r.2.length:Nat):Int)=0):r.2=[]:=List.length_eq_zero_iff.1 (by omega)
theorem xS (h:¬ ((r.2.length:Nat):Int)=0):r.2≠[]:=fun e=>h (by rw [e];rfl)
theorem NA (h:((r.2.length:Nat):Int)=0):(!r.1)=rV r:=by unfold rV;rw [if_pos (zA h)]
theorem Nz (h:¬ ((r.2.length:Nat):Int)=0):(((r.2.getD (((r.2.length:Nat):Int) - 1).toNat 0:Nat):Int) != 0)=rV r:=by
 unfold rV
 rw [if_neg (xS h),show (((r.2.length:Nat):Int) - 1).toNat=r.2.length - 1 by omega]
 generalize r.2.getD (r.2.length - 1) 0=x
 rw [Bool.eq_iff_iff,bne_iff_ne,decide_eq_true_eq]
 omega
def rsg (r:Rw):Int:=if r.2=[] then 0 else if r.1=true then -1 else 1
theorem LZ (h:((r.2.length:Nat):Int)=0):0=rsg r:=by unfold rsg;rw [if_pos (zA h)]
theorem LY (h:¬ ((r.2.length:Nat):Int)=0) (h1:r.1=true):-1=rsg r:=by unfold rsg;rw [if_neg (xS h),if_pos h1]
theorem LX (h:¬ ((r.2.length:Nat):Int)=0) (h1:r.1=false):1=rsg r:=by unfold rsg;rw [if_neg (xS h),if_neg (by rw [h1];decide)]
theorem LV:(rsg r == 0)=decide (r.2=[]):=by
 unfold rsg
 by_cases h:r.2=[]
 ·rw [if_pos h,decide_eq_true h];rfl
 rw [if_neg h,decide_eq_false h];split <;> rfl
end
def VaK (l:List Rw) (k:Nat):Prop:=∀ r∈l.take k,rV r=true
theorem VaK.start {l:List Rw}:VaK l 0:=fun r hr=>by simp at hr
theorem VaK.next {l:List Rw} {k:Nat} {d:Rw} (h:VaK l k) (hk:k < l.length) (hv:rV (l.getD k d)=true):VaK l (k+1):=by
 intro r hr
 rw [ei (jv hk d),List.mem_append] at hr
 rcases hr with z | z
 ·exact h r z
 simp only [List.mem_cons,List.not_mem_nil,or_false] at z;subst z;exact hv
theorem VaK.done {l:List Rw} {k:Nat} (h:VaK l k) (hk:l.length≤k):∀ r∈l,rV r=true:=by
 unfold VaK at h;rwa [List.take_of_length_le hk] at h
def fv (a:RA) (k:Nat):List Rw:=[a.x,a.y,a.m] ++ a.roots ++ (a.forms.take k).flatMap rfL
theorem Kb (a:RA):([.v (.bool a.x.1),W a.x.2,.v (.bool a.y.1),W a.y.2,.v (.bool a.m.1),W a.m.2] ++ a.roots.flatMap rC:List DV)=(fv a 0).flatMap rC:=by
 unfold fv;simp
theorem Ka {a:RA} {k:Nat} {f:RF} (h:a.forms[k]?=some f):(fv a k).flatMap rC ++ rfC f=(fv a (k+1)).flatMap rC:=by
 unfold fv
 rw [ei h]
 simp [rfL]
theorem Cz {a:RA} {k:Nat} (h:a.forms.length≤k):fv a k=a.nums:=by
 unfold fv RA.nums;rw [List.take_of_length_le h]
theorem ur {a:RA} {k:Nat}:(fv a k).length≤3+a.roots.length+3*a.forms.length:=by
 unfold fv
 have:∀ l:List RF,(l.flatMap rfL).length=3*l.length:=by
  intro l
  induction l with
  | nil=>rfl
  | cons f l ih=>rw [List.flatMap_cons,List.length_append,ih];simp [rfL];omega
 rw [List.length_append,List.length_append,this,List.length_take]
 simp only [List.length_cons,List.length_nil]
 omega
end
section
open Go Go.RowKit
theorem Mn {k n:Nat} (h:32*k≤n):(4294967296:Nat) ^ k≤2 ^ n:=by
 rw [show (4294967296:Nat)=2 ^ 32 by rfl,← Nat.pow_mul]
 exact Nat.pow_le_pow_right (by decide) h
theorem Mj {n:Nat} {r:Rw} (ho:okW r.2) (h:32*r.2.length≤2 ^ n):L n (rZ r):=by
 have h1:=fp ho
 have h2:(rZ r).natAbs=wv r.2:=by unfold rZ sg;split <;> simp
 unfold L
 rw [h2]
 exact Nat.lt_of_lt_of_le h1 (Mn h)
theorem JL {r:Rw} (ho:okW r.2) (h:r.2.length≤1000):L 30 (rZ r):=Mj ho (Nat.le_trans (Nat.mul_le_mul_left 32 h) (by decide))
theorem w8 {x y:Nat}:(((x:Nat):Int)+((y:Nat):Int) == 0)=decide (((x+y:Nat):Int)=0):=by
 rw [Bool.eq_iff_iff,beq_iff_eq,decide_eq_true_eq]
 omega
theorem JB {a:RA}:a.x∈a.nums:=by unfold RA.nums;simp
theorem JA {a:RA}:a.y∈a.nums:=by unfold RA.nums;simp
theorem ra_len {a:RA}:a.ans.roots.length=a.roots.length∧a.ans.forms.length=a.forms.length:=by unfold RA.ans;simp
end
section
open Go Go.RowKit
section
variable {P:Program} {tt:TT} (hT:dX P tt)
variable {dst:Option Nat} {ty:TypeId} {pos:String} {af:Array Edge} {gd:Option (Nat × Bool)} {d:Nat} {ρ:Operand→AV} {own:Own} {T:TypeId} {i:TyI} {x y:Operand}
include hT in
theorem cE {e l:Nat} {j:TyI} {k:IntKind} {n:Int} {xs:List DV} (ht:tt T=some i) (hs:i.sh=.ar l e) (he:tt e=some j) (hx:ρ x=.ip xs) (hy:ρ y=.p (.c (.v (.int k n)))) (hn:0≤n∧n < l) :
  Eff P ⟨dst,.indexAddr T x y,ty,pos,af,gd⟩ d ρ own (.ip (xs.drop (n.toNat*j.size))) [] none [] :=
 bD fun C h r own' a w hrep hrd hw=>by
  have e1:=hrep x (by simp [Op.operands])
  have e2:=hrep y (by simp [Op.operands])
  rw [hx] at e1;rw [hy] at e2
  obtain ⟨b,off,c,e',fr,h1,h2,h3⟩:=e1
  refine ⟨.pointer (some ⟨b,off+n.toNat*j.size,none⟩),?_,b,off+n.toNat*j.size,c,e',fr,rfl,h2,?_⟩
  ·have hu:=(hT T i ht).array hs
   simp only [execOp,h1,b7 e2,Instr.indexAt,asIntOf,Sem.run_bind,Sem.run_pure,Result.andThen_ok,run_underlying hu,Instr.sureAddr,hn,and_self,if_true,(hT e j he).size,Addr.add_lit]
  exact (h3.drop (n.toNat*j.size)).congr fun k _=>by rw [Nat.add_assoc]
end
def sA (a b:Ans):Bool:=decide (a.kind=b.kind∧a.x=b.x∧a.y=b.y∧a.m=b.m∧a.roots=b.roots∧a.forms=b.forms)
theorem cz (a:Ans):(!sA a a)=false:=by unfold sA;simp
theorem Nu {a b:Ans} (h0:a.kind=b.kind) (h1:a.x=b.x) (h2:a.y=b.y) (h3:a.m=b.m) (h4:a.roots=b.roots):decide (a.forms=b.forms)=sA a b:=by
 unfold sA
 rw [decide_eq_decide]
 exact ⟨fun h=>⟨h0,h1,h2,h3,h4,h⟩,fun z=>z.2.2.2.2.2⟩
theorem sA_eq {a b:Ans}:sA a b=true↔a=b:=by
 unfold sA
 rw [decide_eq_true_eq]
 constructor
 ·obtain ⟨a1,a2,a3,a4,a5,a6⟩:=a
  obtain ⟨b1,b2,b3,b4,b5,b6⟩:=b
  rintro ⟨h0,h1,h2,h3,h4,h5⟩
  simp only at h0 h1 h2 h3 h4 h5
  subst h0 h1 h2 h3 h4 h5
  rfl
 rintro rfl;simp
theorem ng:Cl (-23) ⟨2,1,3⟩:=⟨⟨by decide,by decide⟩,by decide +kernel,rfl⟩
theorem KZ:Cl (-20) ⟨1,0,5⟩:=⟨⟨by decide,by decide⟩,by decide +kernel,rfl⟩
theorem MU:Cl (-4) ⟨1,0,1⟩:=⟨⟨by decide,by decide⟩,by decide +kernel,rfl⟩
end
section
open Go Go.RowKit
theorem ji {z:Int} (h:L 8 z):(eW z).2.length≤1000:=by
 have:=tn (n:=3) h
 show (wl z.natAbs).length≤1000
 omega
theorem Gu {a:Ans} (hx:L 8 a.x) (hy:L 8 a.y) (hz:L 8 a.m) (hr:∀ z∈a.roots,L 8 z) (hg:∀ g∈a.forms,L 8 g.a∧L 8 g.b∧L 8 g.c):∀ r∈(ku a).nums,r.2.length≤1000:=by
 intro r h
 unfold RA.nums ku at h
 simp only [List.mem_append,List.mem_cons,List.not_mem_nil,or_false,List.mem_map,List.mem_flatMap] at h
 rcases h with ((h | h | h) | ⟨z,h1,h⟩) | ⟨f,⟨g,h1,rfl⟩,h⟩
 ·rw [h];exact ji hx
 ·rw [h];exact ji hy
 ·rw [h];exact ji hz
 ·rw [← h];exact ji (hr z h1)
 simp only [rfL,List.mem_cons,List.not_mem_nil,or_false] at h
 obtain ⟨g1,g2,g3⟩:=hg g h1
 rcases h with h | h | h
 ·rw [h];exact ji g1
 ·rw [h];exact ji g2
 rw [h];exact ji g3
end
section
open Go Go.RowKit
def hM (p j:Int):Mt:=if j < p then ⟨p,j,0,1⟩ else ⟨1,0,0,p⟩
def gdV (p a b c j:Int):Int:=if j < p then a*j*j+b*j+c else a
def gd (p:Int) (f:Fm) (j:Int):Bool:=decide (gdV p f.a f.b f.c j % p≠0)
section
end
end
section
open Go Go.RowKit
section
end
end
section
open Go Go.RowKit
theorem F6 (D:Nat):(-szz D) % 4=0∨(-szz D) % 4=1:=by
 have:=wj D
 unfold szE at this
 split at this
 ·cases this
 omega
theorem pO {D n:Int} {f:Fm}:(prS D n f).length=(prL D n f).length:=wm
end
section
open Go Go.RowKit
theorem xo {D:Int} {m:Nat} {f:Fm} (hm:m≤65536):(fnd D m f).roots.length≤131072∧(fnd D m f).forms.length≤131072:=by
 have h1:=lr D m hm
 have h2:=qa D m hm
 unfold fnd
 split
 ·exact ⟨Nat.zero_le _,Nat.zero_le _⟩
 split
 ·exact ⟨Nat.zero_le _,Nat.zero_le _⟩
 split
 ·exact ⟨Nat.zero_le _,Nat.zero_le _⟩
 exact ⟨h1,h2⟩
end
section
open Go Go.RowKit
theorem xf {D b:Int} {m:Nat} (_hm:1≤m):(b*b - D) % (4*(m:Int))=0↔b*b % (4*(m:Int))=D % (4*(m:Int)):=by
 constructor
 ·intro h;exact Int.emod_eq_emod_iff_emod_sub_eq_zero.2 h
 intro h;exact Int.emod_eq_emod_iff_emod_sub_eq_zero.1 h
theorem sgn_0 {a:Int}:(sgn a == 0)=true↔a=0:=by rw [wq,decide_eq_true_eq]
theorem Mf {D:Int} {m i:Nat} (h:isR D m i=true):rbT D m (i+1)=rbT D m i ++ [(i:Int)]:=by rw [nK,if_pos h]
theorem Ev {D:Int} {m i:Nat} (h:isR D m i=false):rbT D m (i+1)=rbT D m i:=by rw [nK,if_neg (by rw [h];decide),List.append_nil]
theorem Gr {D:Int} {m i:Nat}:(rbT D m i).length≤i:=by
 unfold rbT
 refine Nat.le_trans (List.length_filter_le _ _) ?_
 rw [List.length_map,List.length_range]
 exact Nat.le_refl _
theorem Gt {D:Int} {m i:Nat} (h:i=2*m):rbT D m i=rbL D m:=by
 rw [← qy,h,show (2*(m:Int)).toNat=2*m by omega]
theorem GO {D:Int} (h:prE D=0):D≠0:=by
 rintro rfl
 revert h
 decide
theorem Nw {D n:Int} (h:sgn D > 0):5=iL D n:=Jm (by have:=sgn_gt_iff.1 h;omega)
theorem Jl {D n:Int} (h:prE D=0) (h2:¬ sgn D > 0):rgE n=iL D n:=BW h (by
 have h3:=GO h
 have h4:¬ 0 < D:=fun x=>h2 (sgn_gt_iff.2 x)
 omega)
theorem NK {f:Fm} {n x y:Int} (h:decide ((Int.gcd x y:Int)=1)=true):decide (vl f.a f.b f.c x y=n)=dP f n (x,y):=by
 unfold dP
 have:=dT0 h
 rw [show decide (Int.gcd (x,y).1 (x,y).2=1)=true from decide_eq_true (by show Int.gcd x y=1;omega),Bool.true_and]
theorem NL {f:Fm} {n x y:Int} (h:decide ((Int.gcd x y:Int)=1)=false):false=dP f n (x,y):=by
 unfold dP
 have:=dF0 h
 rw [show decide (Int.gcd (x,y).1 (x,y).2=1)=false from decide_eq_false (by show ¬ Int.gcd x y=1;omega),Bool.false_and]
theorem NU {p q:Pr2} (h:bB p.1 q.1 < 0):true=lt2 p q:=(lt2_iff.2 (.inl (cmpI_lt_zero.1 h))).symm
theorem NT {p q:Pr2} (h:¬ bB p.1 q.1 < 0) (h2:(bB p.1 q.1 == 0)=true):decide (bB p.2 q.2 < 0)=lt2 p q:=by
 have e:=cmpI_eq_zero.1 (by simpa using h2)
 unfold lt2
 rw [decide_eq_decide,cmpI_lt_zero]
 omega
theorem NS {p q:Pr2} (h:¬ bB p.1 q.1 < 0) (h2:(bB p.1 q.1 == 0)=false):false=lt2 p q:=by
 have e:¬ p.1=q.1:=fun e=>by rw [cmpI_eq_zero.2 e] at h2;cases h2
 have e2:¬ p.1 < q.1:=fun e=>h (cmpI_lt_zero.2 e)
 unfold lt2
 exact (decide_eq_false (by omega)).symm
theorem Mo {p n:Nat} (hp:2≤p) (hn:0 < n):(ptN p n).2≤n:=by
 obtain ⟨h1,h2,_⟩:=l5 hp hn
 exact Nat.le_of_dvd hn ⟨_,by rw [Nat.mul_comm];exact h2.symm⟩
def bkZ (D:Int) (n:Nat):Int:=match blk D n with
 | some q=>q
 | none=>0
theorem M5 {D:Int} {n q:Nat} (h:blk D n=some q):(q:Int)=bkZ D n:=by unfold bkZ;rw [h]
theorem M6 {D:Int} {n:Nat} (h:blk D n=none):0=bkZ D n:=by unfold bkZ;rw [h]
theorem HU {D:Int} {n:Int}:decide (((Int.gcd (2*D) n:Nat):Int)=1)=decide (Int.gcd (2*D) n=1):=by
 rw [decide_eq_decide];omega
def agK (D:Int) (f:Fm) (n:Int) (k:Nat):List Int:=(((agZ D f).take k).filter (agP n)).map Prod.fst
theorem Ng {D:Int} {f:Fm} {n:Int}:agK D f n 0=[]:=by unfold agK;simp
section
variable {D n:Int} {f:Fm} {k:Nat}
theorem Nc (hl:(gvL f).length=(chs D).length) (hk:k < (chs D).length) (hne:¬ cv ((chs D).getD k 0) n=(gvL f).getD k 0):agK D f n (k+1)=agK D f n k ++ [(chs D).getD k 0]:=by
 unfold agK
 rw [ei (lJ hl hk),List.filter_append,List.map_append,List.filter_cons,if_pos (by unfold agP;rw [decide_eq_true_eq];exact hne)]
 rfl
theorem Nf (hl:(gvL f).length=(chs D).length) (hk:k < (chs D).length) (hne:cv ((chs D).getD k 0) n=(gvL f).getD k 0):agK D f n (k+1)=agK D f n k:=by
 unfold agK
 rw [ei (lJ hl hk),List.filter_append,List.map_append,List.filter_cons,if_neg (by unfold agP;rw [decide_eq_true_eq];exact fun x=>x hne)]
 simp
theorem Ia (h:Int.gcd (2*D) n=1) (hl:(gvL f).length=(chs D).length) (hk:(chs D).length≤k):agK D f n k=agL D n f:=by
 rw [y9 h]
 unfold agK
 rw [List.take_of_length_le (by unfold agZ;rw [List.length_zip];omega)]
theorem H9:(agK D f n k).length≤(chs D).length:=by
 unfold agK
 rw [List.length_map]
 refine Nat.le_trans (List.length_filter_le _ _) ?_
 rw [List.length_take]
 unfold agZ
 rw [List.length_zip]
 omega
end
theorem MS {D:Int} {m i:Nat} (hi:i < (rbL D m).length):(fmL D m).take (i+1)=(fmL D m).take i ++ [(frq D m ((rbL D m).getD i 0)).rd]:=ER (jv hi 0)
theorem HK {D:Int} {m i:Nat} (hi:(rbL D m).length≤i):(fmL D m).take i=fmL D m:=List.take_of_length_le (by unfold fmL;rw [List.length_map];exact hi)
end
section
open Go Go.RowKit
section
variable {β:Type} {encD:β→List DV} {z:Nat}
variable {P:Program} {tt:TT} (hT:dX P tt)
variable {dst:Option Nat} {ty:TypeId} {pos:String} {af:Array Edge} {gd:Option (Nat × Bool)} {d:Nat} {ρ:Operand→AV} {own:Own}
variable {T e:TypeId} {i j:TyI} {x y:Operand}
include hT
theorem j7 (hL:∀ b,(encD b).length=z) (hz:Nat.blt 0 z=true) {m:Nat} {l l':List β} (ht:tt T=some i) (hs:i.sh=.sl e) (he:tt e=some j) (hj:j.size=z) (hjb:Nat.ble j.bytes (32*z)=true) (hx:ρ x=.vec m) (hb:own m=some (VB z e encD l)) (hy:ρ y=.p (.c (SL encD l'))) (hfit:l.length+l'.length≤10000000) (hmd:m≠d) (hzb:Nat.ble z 96=true) :
  Eff P ⟨dst,.call ⟨.builtin .append,#[x,y],#[T,T]⟩,ty,pos,af,gd⟩ d ρ own (.vec d) [(m,none)] (some (VB z e encD (l ++ l'))) [m]:=by
 have hz2:=bL0 hzb
 have h1:(l.length+l'.length)*z≤10000000*96:=Nat.mul_le_mul hfit hz2
 rw [Nat.add_mul] at h1
 have h:=fx (dst:=dst) (ty:=ty) (pos:=pos) (af:=af) (gd:=gd) (d:=d) hT ht hs he hx hb rfl hj.symm rfl hy (by rfl) (by rw [hj];exact di hL l') (by rw [hj];exact hjb) (by rw [hj,show (VB z e encD l).cs.length=l.length*z from di hL l];omega) (by rw [hj];exact hz) hmd
 rw [show (VB z e encD (l ++ l'))=⟨true,j.size,e,(VB z e encD l).cs ++ l'.flatMap encD⟩ by rw [hj,VB,List.flatMap_append]]
 exact h
theorem oy (hL:∀ b,(encD b).length=z) {k:IntKind} {n:Nat} {l:List β} {yh:Operand} (ht:tt T=some i) (hs:i.sh=.sl e) (he:tt e=some j) (hj:j.size=z) (hx:ρ x=.p (.c (SL encD l))) (hh:ρ yh=.p (.c (.v (.int k n)))) (hn:n≤l.length) :
  Eff P ⟨dst,.slice T x none (some yh) none,ty,pos,af,gd⟩ d ρ own (.p (.c (SL encD (l.take n)))) [] none []:=by
 have h:=pR (dst:=dst) (ty:=ty) (pos:=pos) (af:=af) (gd:=gd) (d:=d) (own:=own) hT ht hs he hx (l:=l.length) (xs:=l.flatMap encD) (by rfl) hh (by rw [hj];exact di hL l) (by omega) rfl
 rw [show (SL encD (l.take n))=.sl (n:Int).toNat ((l.flatMap encD).take ((n:Int).toNat*j.size)) by
  rw [SL,su hL,hj,List.length_take,Nat.min_eq_left hn];rfl]
 exact h
theorem ox (hL:∀ b,(encD b).length=z) {k:IntKind} {n:Nat} {l:List β} {yl:Operand} (ht:tt T=some i) (hs:i.sh=.sl e) (he:tt e=some j) (hj:j.size=z) (hx:ρ x=.p (.c (SL encD l))) (hh:ρ yl=.p (.c (.v (.int k n)))) (hn:n≤l.length) :
  Eff P ⟨dst,.slice T x (some yl) none none,ty,pos,af,gd⟩ d ρ own (.p (.c (SL encD (l.drop n)))) [] none []:=by
 have h:=yn (dst:=dst) (ty:=ty) (pos:=pos) (af:=af) (gd:=gd) (d:=d) (own:=own) hT ht hs he hx (l:=l.length) (xs:=l.flatMap encD) (by rfl) hh (by rw [hj];exact di hL l) (by omega) rfl
 have e1:(l.drop n).flatMap encD=(l.flatMap encD).drop (n*z):=by
  have h2:l.flatMap encD=(l.take n).flatMap encD ++ (l.drop n).flatMap encD:=by rw [← List.flatMap_append,List.take_append_drop]
  have h3:((l.take n).flatMap encD).length=n*z:=by rw [di hL,List.length_take,Nat.min_eq_left hn]
  rw [h2,← h3,List.drop_left]
 rw [show (SL encD (l.drop n))=.sl (l.length - (n:Int).toNat) ((l.flatMap encD).drop ((n:Int).toNat*j.size)) by
  rw [SL,e1,hj,List.length_drop];rfl]
 exact h
end
theorem uJ {p:Pr2}:∀ {l:List Pr2} {k:Nat},k≤l.length→(∀ i,i < k→lt2 (l.getD i (0,0)) p=true)→(k < l.length→lt2 (l.getD k (0,0)) p=false)→l.take k ++ [p] ++ l.drop k=fw p l
 | [],k,h,_,_=>by simp [fw]
 | q :: l,0,_,_,h2=>by
  have:=h2 (by simp)
  unfold fw
  rw [if_neg (by simpa using this)]
  rfl
 | q :: l,k+1,h,h1,h2=>by
  unfold fw
  rw [if_pos (by simpa using h1 0 (by omega))]
  rw [List.take_succ_cons,List.drop_succ_cons,List.cons_append,List.cons_append,
   uJ (l:=l) (k:=k) (by simpa using h) (fun i hi=>by simpa using h1 (i+1) (by omega)) (fun hk=>by simpa using h2 (by simpa using hk))]
def InI (p:Pr2) (l:List Pr2) (k:Nat):Prop:=k≤l.length∧∀ i,i < k→lt2 (l.getD i (0,0)) p=true
theorem InI.start {p:Pr2} {l:List Pr2}:InI p l 0:=⟨Nat.zero_le _,fun _ h=>absurd h (Nat.not_lt_zero _)⟩
theorem InI.next {p:Pr2} {l:List Pr2} {k:Nat} (h:InI p l k) (hk:k < l.length) (ht:lt2 (l.getD k (0,0)) p=true):InI p l (k+1) :=
 ⟨hk,fun i hi=>by rcases Nat.lt_or_eq_of_le (Nat.le_of_lt_succ hi) with e | rfl;exact h.2 i e;exact ht⟩
theorem InI.done {p:Pr2} {l:List Pr2} {k:Nat} (h:InI p l k) (hk:k < l.length→lt2 (l.getD k (0,0)) p=false):l.take k ++ [p] ++ l.drop k=fw p l:=uJ h.1 h.2 hk
def rP (g:Fm) (m:Mt) (n:Int) (k i:Nat):List Pr2:=((bxL k).take i).foldl (lS g m n (bxL k)) []
def rQ (g:Fm) (m:Mt) (n:Int) (k i j:Nat):List Pr2:=((bxL k).take j).foldl (lQ g m n ((i:Int) - k)) (rP g m n k i)
theorem xA {k i:Nat} (h:i < 2*k+1):(bxL k)[i]?=some ((i:Int) - k):=by
 unfold bxL;rw [List.getElem?_map,List.getElem?_range h];rfl
section
variable {g:Fm} {m:Mt} {n:Int} {k i j:Nat}
theorem rP_0:rP g m n k 0=[]:=by unfold rP;simp
theorem rQ_0:rQ g m n k i 0=rP g m n k i:=by unfold rQ;simp
theorem JM (h:j < 2*k+1):rQ g m n k i (j+1)=lQ g m n ((i:Int) - k) (rQ g m n k i j) ((j:Int) - k):=by
 unfold rQ;rw [ei (xA h),List.foldl_append];rfl
theorem NB (h:j < 2*k+1) (hp:dP g n ((i:Int) - k,(j:Int) - k)=true):rQ g m n k i (j+1)=fw (mvM m ((i:Int) - k,(j:Int) - k)) (rQ g m n k i j):=by
 rw [JM h];unfold lQ;rw [if_pos hp]
theorem NC (h:j < 2*k+1) (hp:dP g n ((i:Int) - k,(j:Int) - k)=false):rQ g m n k i (j+1)=rQ g m n k i j:=by
 rw [JM h];unfold lQ;rw [if_neg (by rw [hp];decide)]
theorem ND (h:i < 2*k+1) (hj:2*k+1≤j):rP g m n k (i+1)=rQ g m n k i j:=by
 unfold rQ
 rw [List.take_of_length_le (by rw [lF];exact hj)]
 unfold rP
 rw [ei (xA h),List.foldl_append];rfl
theorem JO (h:2*k+1≤i):rP g m n k i=rfP g m n k:=by unfold rP;rw [List.take_of_length_le (by rw [lF];exact h)];rfl
theorem F7 {u v:Int} {l:List Pr2}:(lQ g m n u l v).length≤l.length+1:=by
 unfold lQ;split
 ·rw [oY];omega
 omega
theorem o6 {u:Int}:∀ (vs:List Int) (l:List Pr2),(vs.foldl (lQ g m n u) l).length≤l.length+vs.length
 | [],l=>by simp
 | v :: vs,l=>by
  rw [List.foldl_cons,List.length_cons]
  have h1:=o6 (u:=u) vs (lQ g m n u l v)
  have h2:=F7 (g:=g) (m:=m) (n:=n) (u:=u) (v:=v) (l:=l)
  omega
theorem tG {k:Nat}:∀ (us:List Int) (l:List Pr2),(us.foldl (lS g m n (bxL k)) l).length≤l.length+us.length*(2*k+1)
 | [],l=>by simp
 | u :: us,l=>by
  rw [List.foldl_cons,List.length_cons,Nat.succ_mul]
  have h1:=tG (k:=k) us (lS g m n (bxL k) l u)
  have h2:=o6 (g:=g) (m:=m) (n:=n) (u:=u) (bxL k) l
  rw [lF] at h2
  unfold lS at h1 ⊢
  omega
theorem JN (hk:k≤400):(rQ g m n k i j).length≤1000000:=by
 have h1:=o6 (g:=g) (m:=m) (n:=n) (u:=(i:Int) - k) ((bxL k).take j) (rP g m n k i)
 have h2:=tG (g:=g) (m:=m) (n:=n) (k:=k) ((bxL k).take i) []
 have h3:((bxL k).take j).length≤801:=by have:=lF k;rw [List.length_take];omega
 have h4:((bxL k).take i).length≤801:=by have:=lF k;rw [List.length_take];omega
 have h5:((bxL k).take i).length*(2*k+1)≤801*801:=Nat.mul_le_mul h4 (by omega)
 unfold rQ
 have e:(rP g m n k i).length=(((bxL k).take i).foldl (lS g m n (bxL k)) []).length:=rfl
 simp only [List.length_nil] at h2
 omega
end
def MsI (n k:Nat):Prop:=1≤k∧(k=1∨3*(k - 1)*(k - 1)≤4*n)
theorem MsI.start {n:Nat}:MsI n 1:=⟨by decide,.inl rfl⟩
theorem MsI.le {n k:Nat} (h:MsI n k) (hn:n≤65536):k≤300:=by
 rcases h.2 with e | e
 ·omega
 refine Nat.le_of_not_lt fun c=>?_
 have:300*300≤(k - 1)*(k - 1):=Nat.mul_le_mul (by omega) (by omega)
 rw [Nat.mul_assoc] at e
 omega
theorem MsI.next {n k:Nat} (_h:MsI n k) (hk:3*(k:Int)*k≤4*(n:Int)):MsI n (k+1):=⟨by omega,.inr (by
 rw [Nat.add_sub_cancel]
 have:((3*k*k:Nat):Int)≤((4*n:Nat):Int):=by rw [Int.natCast_mul,Int.natCast_mul,Int.natCast_mul];exact hk
 exact Int.ofNat_le.1 this)⟩
theorem MsI.mul {n k:Nat} (h:MsI n k) (hn:n≤65536):3*k*k≤1000000000:=by
 have:=h.le hn
 have:3*k*k≤900*300:=Nat.mul_le_mul (by omega) this
 omega
theorem Hf {n k:Nat} (h:¬ 3*(k:Int)*k≤4*(n:Int)):4*(n:Int) < 3*((k:Int)*k):=by rw [Int.mul_assoc] at h;omega
theorem Kg {n k:Nat} (h:MsI n k) (hn:n≤65536):(.i64:IntKind).wrap (3*(k:Int)*(k:Int))=3*(k:Int)*k:=by
 have h1:=h.mul hn
 have h2:(3*(k:Int)*k)=((3*k*k:Nat):Int):=by rw [Int.natCast_mul,Int.natCast_mul];rfl
 rw [h2]
 exact iW0 _ (by omega)
theorem EQ {p:Pr2} (h1:¬ p.2 < 0) (h2:¬ p.2=0∨¬ p.1 < 0):okP p=true:=by
 unfold okP;rw [decide_eq_true_eq];omega
theorem uS {l:List Pr2} {i:Nat} {q:Pr2} (h:l[i]?=some q):l.getD i (0,0)=q:=by rw [List.getD_eq_getElem?_getD,h];rfl
theorem KV {l:List Pr2} {i:Nat} {q:Pr2} (h:l[i]?=some q):i < l.length:=(List.getElem?_eq_some_iff.1 h).1
end
section
open Go Go.RowKit
section
variable {D:Int} {m:Nat} {f:Fm}
theorem Ob (hf:Cl D f) (hm:1≤m) (h:¬ (prS D m f).length > 0):cW (prL D m f)=none :=
 (sG hf (by omega)).2 (List.length_eq_zero_iff.1 (by rw [pO] at h;omega))
theorem N5 (hf:Cl D f) (hm:1≤m) (h:(prS D m f).length > 0):∃ p,cW (prS D m f)=some p:=by
 rw [vu]
 cases e:cW (prL D m f) with
 | some p=>exact ⟨p,rfl⟩
 | none =>
  rw [sG hf (by omega)] at e
  rw [pO,e] at h
  exact absurd h (by decide)
theorem Oa {p:Pr2} (h:cW (prS D m f)=some p):anS ⟨1,p.1,p.2,0,[],[]⟩=anS (fnd D m f):=by
 rw [vu] at h;rw [uW h]
theorem Oe (hm:1≤m∧m≤65536):0≤bkZ D m∧bkZ D m≤65536:=by
 unfold bkZ
 cases e:blk D m with
 | none=>exact ⟨by decide,by decide⟩
 | some q =>
  have:=List.mem_of_find?_eq_some e
  have:=qH (by omega) this
  show 0≤(q:Int)∧(q:Int)≤65536
  omega
theorem N9 (h0:cW (prL D m f)=none) (h:bkZ D m > 0):anS ⟨2,0,0,bkZ D m,[],[]⟩=anS (fnd D m f):=by
 unfold bkZ at h ⊢
 cases e:blk D m with
 | none=>rw [e] at h;exact absurd h (by decide)
 | some q=>rw [xq h0 e]
theorem N6 (hm:1≤m∧m≤65536) (h:¬ bkZ D m > 0):blk D m=none:=by
 unfold bkZ at h
 cases e:blk D m with
 | none=>rfl
 | some q =>
  rw [e] at h
  have:=qH (by omega) (List.mem_of_find?_eq_some e)
  exact absurd (show (q:Int) > 0 by omega) h
theorem N8 (h0:cW (prL D m f)=none) (h1:blk D m=none) (h:(agL D m f).length > 0):anS ⟨2,0,0,(agL D m f).getD 0 0,[],[]⟩=anS (fnd D m f):=by
 cases e:agL D m f with
 | nil=>rw [e] at h;exact absurd h (by decide)
 | cons c l=>rw [Ay h0 h1 e];rfl
theorem N7 (h0:cW (prL D m f)=none) (h1:blk D m=none) (h:¬ (agL D m f).length > 0):anS ⟨3,0,0,0,rbL D m,fmL D m⟩=anS (fnd D m f):=by
 rw [xp h0 h1 (List.length_eq_zero_iff.1 (by omega))]
end
theorem e9 {a:Int}:(!decide (a=a))=false:=by rw [decide_eq_true rfl];rfl
theorem nnL {l:List Int}:(!decide (l=l))=false:=by rw [decide_eq_true rfl];rfl
theorem xR (a:Ans):sA a a=true:=sA_eq.2 rfl
theorem Lm {f:Fm} {x:Int} (h:¬ (1≤x∧x≤65536)):¬ alE f x=0:=by
 unfold alE
 split
 ·rcases Int.lt_or_le x 1 with h1 | h1
  ·rw [sR h1];decide
  rw [xX (by omega)];decide
 assumption
theorem zB {D:Int}:¬ iL D 0=0:=by
 unfold iL
 split
 ·decide
 rw [sR (by decide)];decide
end
section
open Go Go.RowKit
def bkL (zs:List Nat):List (List PV):=(List.range zs.length).map fun (k:Nat)=>[.c (.v (.int .i64 ((zs.length:Int) - 1 - (k:Int)))),.c (w32 (zs.getD (zs.length - 1 - k) 0))]
theorem ri (zs:List Nat):(bkL zs).length=zs.length:=by unfold bkL;simp
theorem AU {zs:List Nat} {k:Nat} (h:k < zs.length):(bkL zs)[k]?=some [.c (.v (.int .i64 ((zs.length:Int) - 1 - (k:Int)))),.c (w32 (zs.getD (zs.length - 1 - k) 0))]:=by
 unfold bkL;rw [List.getElem?_map,List.getElem?_range h];rfl
theorem H3 {zs:List Nat} {k:Nat} {x:List PV} (h:(bkL zs)[k]?=some x):k < zs.length∧x=[.c (.v (.int .i64 ((zs.length:Int) - 1 - (k:Int)))),.c (w32 (zs.getD (zs.length - 1 - k) 0))]:=by
 have hk:k < zs.length:=by have:=(List.getElem?_eq_some_iff.1 h).1;rwa [ri] at this
 rw [AU hk] at h
 exact ⟨hk,(Option.some.inj h).symm⟩
theorem H1 (zs:List Nat):∀ x∈bkL zs,x.length=2:=by
 intro x hx
 unfold bkL at hx
 obtain ⟨k,_,rfl⟩:=List.mem_map.1 hx
 rfl
def lwA (zs:List Nat) (k:Nat):Nat:=wv (zs.drop (zs.length - k))
theorem yD (zs:List Nat):lwA zs 0=0:=by unfold lwA;rw [Nat.sub_zero,List.drop_length];rfl
theorem Hi (zs:List Nat):lwA zs zs.length=wv zs:=by unfold lwA;rw [Nat.sub_self];rfl
theorem uw {zs:List Nat} {k:Nat} (h:k < zs.length):lwA zs (k+1)=lwA zs k*4294967296+zs.getD (zs.length - 1 - k) 0:=by
 unfold lwA
 have hi:zs.length - (k+1) < zs.length:=by omega
 rw [List.drop_eq_getElem_cons hi,show zs.length - (k+1)+1=zs.length - k by omega]
 have e:zs.getD (zs.length - 1 - k) 0=zs[zs.length - (k+1)]:=by
  rw [List.getD_eq_getElem?_getD,show zs.length - 1 - k=zs.length - (k+1) by omega,List.getElem?_eq_getElem hi];rfl
 rw [e]
 show _+4294967296*_=_
 omega
theorem MC {zs:List Nat} (hok:okW zs) (h2:zs.length≤2) {k:Nat} (h:k < zs.length):lwA zs k < 4294967296:=by
 rcases (show k=0∨k=1 by omega) with rfl | rfl
 ·rw [yD];omega
 have h0:0 < zs.length:=by omega
 rw [uw h0,yD]
 have:=hok.getD (zs.length - 1 - 0)
 omega
theorem NQ {m x:Nat} (hm:m < 4294967296) (hx:x < 4294967296):bits .or .u64 ((m*4294967296:Nat):Int) (x:Int)=((m*4294967296+x:Nat):Int):=by
 rw [oi rfl (gm (by omega)) (gm (by omega)),Nat.mul_comm m,show (4294967296:Nat)=2 ^ 32 by rfl,Nat.two_pow_add_eq_or_of_lt (i:=32) (by omega)]
def oI (m:Nat):Int:=if m < 9223372036854775808 then m else (m:Int) - 18446744073709551616
theorem zg (z:Int):IntKind.i64.wrap z=if 9223372036854775808≤z % 18446744073709551616 then z % 18446744073709551616 - 18446744073709551616 else z % 18446744073709551616:=by
 simp [IntKind.wrap,IntKind.signed,IntKind.bits]
theorem Jf {m:Nat} (h:m < 18446744073709551616):IntKind.i64.wrap (m:Int)=oI m:=by
 rw [zg]
 unfold oI
 split <;> split <;> omega
def yL (x:Int):Int:=if x < 0 then IntKind.i64.wrap (0 - oI x.natAbs) else oI x.natAbs
theorem Ik {x:Int} (h:x < 0):IntKind.i64.wrap (0 - oI x.natAbs)=yL x:=by unfold yL;rw [if_pos h]
theorem Ij {x:Int} (h:¬ x < 0):oI x.natAbs=yL x:=by unfold yL;rw [if_neg h]
theorem xI {x:Int} (h:x.natAbs < 18446744073709551616):(lwO x=true∧yL x=x)∨(lwO x=false∧¬ yL x=0∧¬ ((x < 0)↔(yL x < 0))):=by
 have hy:yL x=if x < 0 then (if x.natAbs≤9223372036854775808 then x else 18446744073709551616+x) else (if x < 9223372036854775808 then x else x - 18446744073709551616):=by
  unfold yL
  rw [zg]
  unfold oI
  repeat' split
  all_goals omega
 rw [hy]
 unfold lwO
 by_cases hr:-9223372036854775808≤x∧x < 9223372036854775808
 ·refine .inl ⟨decide_eq_true hr,?_⟩
  repeat' split
  all_goals omega
 refine .inr ⟨decide_eq_false hr,?_⟩
 repeat' split
 all_goals omega
theorem w9 {x:Int} (h:x.natAbs < 18446744073709551616) (h1:(decide (x < 0) != decide (yL x < 0))=true):AV.t [PE 0,PB false]=.t [PE (lwV x),PB (lwO x)]:=by
 rcases xI h with ⟨a,b⟩ | ⟨a,b,c⟩
 ·rw [b] at h1;simp at h1
 unfold lwV;rw [a];rfl
theorem ux {x:Int} (h:x.natAbs < 18446744073709551616) (h1:(decide (x < 0) != decide (yL x < 0))=false):AV.t [PE (yL x),PB true]=.t [PE (lwV x),PB (lwO x)]:=by
 rcases xI h with ⟨a,b⟩ | ⟨a,b,c⟩
 ·unfold lwV;rw [a,b];rfl
 exfalso
 apply c
 rw [bne_eq_false_iff_eq] at h1
 exact decide_eq_decide.1 h1
theorem sd {x:Int} (h:x.natAbs < 18446744073709551616) (h1:yL x=0):AV.t [PE (yL x),PB true]=.t [PE (lwV x),PB (lwO x)]:=by
 rcases xI h with ⟨a,b⟩ | ⟨a,b,c⟩
 ·unfold lwV;rw [a,b];rfl
 exact absurd h1 b
end
section
open Go Go.RowKit
def pz0 (f:Fm):Fm:=if rfE f=0 then prF (dsc f.a f.b f.c) else ⟨0,0,0⟩
theorem NG {f:Fm} (h:¬ rfE f=0):AV.t [PF ⟨0,0,0⟩,PE (rfE f)]=.t [PF (pz0 f),PE (rfE f)]:=by unfold pz0;rw [if_neg h]
theorem NF {f:Fm} (h:rfE f=0):AV.t [PF (prF (dsc f.a f.b f.c)),PE 0]=.t [PF (pz0 f),PE (rfE f)]:=by unfold pz0;rw [if_pos h,h]
end
end Go.AM
