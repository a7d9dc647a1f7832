import Derived.Test.YthaiejfjnllglaaGreatDoorABD
import Derived.Test.YthaiejfjnllglaaGreatDoorABC
import Derived.Test.YthaiejfjnllglaaGreatDoorABJ
import Derived.DataElems
set_option maxRecDepth 100000
namespace Go.AM
section
open Go Go.RowKit
section
variable {F:Fence} {n:Nat} {P:Program}
theorem H0 {o:Oper} {a:Act} {w:World} {K:Act→World→Prop} {QA Q:Exit→Act→World→Prop} (hq:∀ e a w,QA e a w→e=.normal) (h:o.wpIn F n P a w K QA):o.wpIn F n P a w K Q:=by
  unfold Oper.wpIn at *
  refine ⟨h.1,?_⟩
  have hh:=h.2
  have no:∀ {X:Prop} {e:Exit} {a:Act} {w:World},e≠.normal→QA e a w→X:=fun hne h=>absurd (hq _ _ _ h) hne
  generalize (o.semAt F.round a.eval).run P w=r at *
  cases r with
  | ok x w' =>
    cases x <;> simp only [Oper.uponIn] at hh ⊢ <;>
      first
        | exact hh
        | exact ⟨hh.1,CallsIn.mono hh.2 (fun e w'' he=>by cases e <;> first | exact he | exact no (by simp) he | (obtain ⟨a1,w1,h1⟩:=he;exact no (by simp) h1))⟩
        | exact ⟨hh.1,RoundIn.mono hh.2 (fun e w'' he=>by cases e <;> first | exact he | exact no (by simp) he | (obtain ⟨a1,w1,h1⟩:=he;exact no (by simp) h1))⟩
  | halt x w'=>cases x <;> simp only [Oper.uponIn] at hh ⊢ <;> first | exact hh | exact no (by simp) hh
theorem AY {ops ops':Array Oper} {i:Nat} {a:Act} {w:World} {K K':Act→World→Prop} {QA Q:Exit→Act→World→Prop} (hq:∀ e a w,QA e a w→e=.normal) (h1:ops'[i]?=ops[i]?)
    (h2:∀ o j want,ops[i]?=some o→o.guard=some (j,want)→ops'[j]?=ops[j]?) (hK:∀ a w,K a w→K' a w) (h:wpOpIn F n P ops' QA i K a w):wpOpIn F n P ops Q i K' a w:=by
  refine wpOpIn_mono hK ?_
  unfold wpOpIn at *
  rw [h1] at h
  cases ho:ops[i]? with
  | none=>rw [ho] at h;exact h
  | some o =>
    rw [ho] at h
    simp only at h ⊢
    have e:Region.wanted o (yielded ops' a.tmps)=Region.wanted o (yielded ops a.tmps):=by
      unfold Region.wanted
      cases hg:o.guard with
      | none=>rfl
      | some x =>
        obtain ⟨j,want⟩:=x
        simp only
        have:yielded ops' a.tmps j=yielded ops a.tmps j:=by
          unfold yielded;rw [h2 o j want ho hg]
        rw [this]
    rw [e] at h
    split at h
    · next hw=>rw [if_pos hw];exact H0 hq h
    next hw=>rw [if_neg hw];exact h
def CX (ops:List Oper) (y:Nat):Bool :=
  Nat.blt y ops.length && (ops.zipIdx.all fun (o,i)=>(o.after.toList.all fun e=>!Region.binds .any e || Nat.blt e.on i) && (match o.guard with | some (j,_)=>Nat.blt j i | none=>true)) &&
  (let bs:=ve ops
   (List.range ops.length).all fun i=>Nat.blt i y || (List.range i).all fun j=>(bs.getD i 0).testBit j)
structure OkY (ops:Array Oper) (y:Nat):Prop where
  lt:y < ops.size
  edge:∀ k o,ops[k]?=some o→∀ e∈o.after.toList,Region.binds .any e=true→e.on < k
  guard:∀ (k:Nat) (o:Oper) (j:Nat) (b:Bool),ops[k]?=some o→o.guard=some (j,b)→j < k
  bef:∀ i j,y≤i→i < ops.size→j < i→((ve ops.toList).getD i 0).testBit j=true
theorem HA {ops:Array Oper} {y:Nat} (h:CX ops.toList y=true):OkY ops y:=by
  unfold CX at h
  simp only [Bool.and_eq_true] at h
  obtain ⟨⟨h1,h2⟩,h3⟩:=h
  have get:∀ (k:Nat) (o:Oper),ops[k]?=some o→(o,k)∈ops.toList.zipIdx:=fun k o ho=>by
    rw [List.mem_zipIdx_iff_getElem?,Array.getElem?_toList];exact ho
  refine ⟨by simpa using h1,fun k o ho e he hb=>?_,fun k o j b ho hg=>?_,fun i j hy hi hj=>?_⟩
  · have:=List.all_eq_true.1 h2 _ (get k o ho)
    simp only [Bool.and_eq_true] at this
    have:=List.all_eq_true.1 this.1 e he
    simpa [hb] using this
  · have:=List.all_eq_true.1 h2 _ (get k o ho)
    simp only [Bool.and_eq_true,hg] at this
    simpa using this.2
  have:=List.all_eq_true.1 h3 i (by simpa using hi)
  rw [Bool.or_eq_true] at this
  rcases this with k | k
  · simp at k;omega
  exact List.all_eq_true.1 k j (by simpa using hj)
def lK (ops:Array Oper) (l:Array Bool):Prop:=∀ (k:Nat) (o:Oper),ops.toList[k]?=some o→l.getD k false=true→∀ e∈o.after.toList,Region.binds .any e=true→l.getD e.on false=true
theorem qd {l:Array Bool} {i:Nat} (hi:i < l.size):l.getD i true=false↔l.getD i false=false:=by
  simp only [Array.getD_eq_getD_getElem?]
  rw [Array.getElem?_eq_getElem hi]
  simp
theorem mm {ops:Array Oper} {l:Array Bool} {i:Nat} (hs:l.size=ops.size) (hc:lK ops l) (hr:i∈Region.ready .any ops l):lK ops (l.setIfInBounds i true):=by
  rw [ej] at hr
  obtain ⟨h1,h2,o,h3,h4⟩:=hr
  intro k o' hk hS e he hb
  rw [dc _ _ _ (by omega)] at hS ⊢
  simp only [Bool.or_eq_true,beq_iff_eq] at hS ⊢
  rcases hS with hS | hS
  · exact .inl (hc k o' hk hS e he hb)
  subst hS
  rw [Array.getElem?_toList,h3] at hk;cases hk
  exact .inl (h4 e he hb)
theorem rp {ops:Array Oper} {y:Nat} (ok:OkY ops y) {l:Array Bool} {i:Nat} (hs:l.size=ops.size) (hc:lK ops l) (hr:i∈Region.ready .any ops l) (hi:y≤i):∀ j,j < i→l.getD j false=true:=fun j hj=>by
  have hr':=hr
  rw [ej] at hr
  have hi2:=hr.1
  have:=nl (fun k=>(l.setIfInBounds i true).getD k false) ops.toList (mm hs hc hr') i j (ok.bef i j hi hi2 hj) (by show (l.setIfInBounds i true).getD i false=true;rw [dc _ _ _ (by omega)];simp)
  rw [dc _ _ _ (by omega)] at this
  have hne:(j == i)=false:=by simp;omega
  simpa [hne] using this
theorem pA {ops:Array Oper} {y:Nat} (ok:OkY ops y) {l:Array Bool} (hs:l.size=ops.size):∀ i,i < ops.size→l.getD i false=false→∃ j,j≤i∧j∈Region.ready .any ops l:=by
  intro i
  induction i using Nat.strongRecOn with
  | _ i ih =>
    intro hi hl
    by_cases h:∃ j,j < i∧l.getD j false=false
    · obtain ⟨j,hj,hlj⟩:=h
      obtain ⟨j',h1,h2⟩:=ih j hj (by omega) hlj
      exact ⟨j',by omega,h2⟩
    refine ⟨i,Nat.le_refl _,?_⟩
    rw [ej]
    refine ⟨hi,(qd (by omega)).2 hl,ops[i],Array.getElem?_eq_getElem hi,fun e he hb=>?_⟩
    have:=ok.edge i ops[i] (Array.getElem?_eq_getElem hi) e he hb
    cases hx:l.getD e.on false with
    | true=>rfl
    | false=>exact absurd ⟨_,this,hx⟩ h
variable {Q:Exit→Act→World→Prop}
theorem vg {ops:Array Oper} {y:Nat} (ok:OkY ops y):∀ (m:Nat) (l:Array Bool),l.size=ops.size→lK ops l→y+m≤ops.size→(∀ j,j < ops.size→(l.getD j false=true↔j < ops.size - m)) →
    ∀ a w,wpOpsIn F n P ops Q (List.range' (ops.size - m) m) a w→wpAnyIn F n P .any ops Q m l a w
  | 0,l,hs,hc,hy,hl,a,w,h=>by
    refine ⟨?_,h⟩
    cases hr:Region.ready .any ops l with
    | nil=>rfl
    | cons i rest =>
      have:i∈Region.ready .any ops l:=by rw [hr];simp
      rw [ej] at this
      have h2:=(qd (by omega)).1 this.2.1
      rw [(hl i this.1).2 (by omega)] at h2;cases h2
  | m+1,l,hs,hc,hy,hl,a,w,h=>by
    have hun:l.getD (ops.size - (m+1)) false=false:=by
      cases hx:l.getD (ops.size - (m+1)) false with
      | false=>rfl
      | true=>have:=(hl _ (by omega)).1 hx;omega
    refine ⟨fun hr=>?_,fun i hi=>?_⟩
    · obtain ⟨j,_,hj⟩:=pA ok hs _ (by omega) hun
      rw [hr] at hj;simp at hj
    have hi':=hi
    rw [ej] at hi'
    have h2:=(qd (by omega)).1 hi'.2.1
    have hge:ops.size - (m+1)≤i:=by
      rcases Nat.lt_or_ge i (ops.size - (m+1)) with x | x
      · rw [(hl i hi'.1).2 x] at h2;cases h2
      exact x
    have hall:=rp ok hs hc hi (by omega)
    have he:i=ops.size - (m+1):=by
      rcases Nat.lt_or_ge (ops.size - (m+1)) i with x | x
      · have:=hall _ x;rw [hun] at this;cases this
      omega
    subst he
    rw [List.range'_succ,wpOpsIn_cons] at h
    refine wpOpIn_mono (fun a' w' hk=>?_) h
    refine vg ok m _ (by simp [hs]) (mm hs hc hi) (by omega) (fun j hj=>?_) a' w' (by rw [show ops.size - m=ops.size - (m+1)+1 by omega];exact hk)
    rw [dc _ _ _ (by omega),Bool.or_eq_true,hl j hj,beq_iff_eq]
    omega
theorem HH {ops:Array Oper} {y:Nat} (ok:OkY ops y):∀ (m:Nat) (l l':Array Bool),l.size=ops.size→l'.size=y→(∀ j,j < y→l'.getD j false=l.getD j false)→lK ops l→(∀ j,y≤j→l.getD j false=false)→left l' y=m →
    ∀ a w,wpAnyIn F n P .any (ops.toList.take y).toArray (fun e a w=>e=.normal∧wpOpsIn F n P ops Q (List.range' y (ops.size - y)) a w) m l' a w→wpAnyIn F n P .any ops Q (m+(ops.size - y)) l a w:=by
  have ylt:=ok.lt
  have hsz:(ops.toList.take y).toArray.size=y:=by simp;omega
  have hget:∀ j,j < y→(ops.toList.take y).toArray[j]?=ops[j]?:=fun j hj=>by
    rw [List.getElem?_toArray,List.getElem?_take,if_pos hj,Array.getElem?_toList]
  intro m
  induction m with
  | zero =>
    intro l l' hs hs' hll hc hbe hm a w h
    have all:∀ j,j < y→l.getD j false=true:=fun j hj=>by
      rw [← hll j hj]
      cases hb:l'.getD j false with
      | true=>rfl
      | false =>
        have:j∈(List.range y).filter fun i=>!l'.getD i false:=by rw [List.mem_filter];exact ⟨by simpa using hj,by simpa using hb⟩
        have h0:(List.range y).filter (fun i=>!l'.getD i false)=[]:=List.eq_nil_of_length_eq_zero hm
        rw [h0] at this;simp at this
    rw [Nat.zero_add]
    refine vg ok (ops.size - y) l hs hc (by omega) (fun j hj=>?_) a w (by rw [show ops.size - (ops.size - y)=y by omega];exact h.2.2)
    rw [show ops.size - (ops.size - y)=y by omega]
    constructor
    · intro hx
      rcases Nat.lt_or_ge j y with q | q
      · exact q
      rw [hbe j q] at hx;cases hx
    exact all j
  | succ m ih =>
    intro l l' hs hs' hll hc hbe hm a w h
    obtain ⟨q,hq,hqf⟩:∃ q,q < y∧l.getD q false=false:=by
      have:0 < ((List.range y).filter fun i=>!l'.getD i false).length:=by show 0 < left l' y;omega
      obtain ⟨q,hq⟩:=List.exists_mem_of_length_pos this
      rw [List.mem_filter] at hq
      have h1:q < y:=by simpa using hq.1
      exact ⟨q,h1,by rw [← hll q h1];simpa using hq.2⟩
    rw [show m+1+(ops.size - y)=m+(ops.size - y)+1 by omega]
    refine ⟨fun hr=>?_,fun i hi=>?_⟩
    · obtain ⟨j,_,hj⟩:=pA ok hs q (by omega) hqf
      rw [hr] at hj;simp at hj
    have hi':=hi
    rw [ej] at hi'
    obtain ⟨i1,i2,o,i3,i4⟩:=hi'
    have hiy:i < y:=by
      rcases Nat.lt_or_ge i y with x | x
      · exact x
      have:=rp ok hs hc hi x q (by omega)
      rw [hqf] at this;cases this
    have hun:=(qd (by omega)).1 i2
    have hri:i∈Region.ready .any (ops.toList.take y).toArray l':=by
      rw [ej]
      refine ⟨by omega,(qd (by omega)).2 (by rw [hll i hiy];exact hun),o,by rw [hget i hiy];exact i3,fun e he hb=>?_⟩
      have:=ok.edge i o i3 e he hb
      rw [hll e.on (by omega)];exact i4 e he hb
    refine AY (fun e a w k=>k.1) (hget i hiy) (fun o' j want ho hg=>hget j ?_) (fun a' w' hk=>?_) (h.2 i hri)
    · have:=ok.guard i o' j want ho hg;omega
    refine ih (l.setIfInBounds i true) (l'.setIfInBounds i true) (by simp [hs]) (by simp [hs']) (fun j hj=>?_) (mm hs hc hi) (fun j hj=>?_) ?_ a' w' hk
    · rw [dc _ _ _ (by omega),dc _ _ _ (by omega),hll j hj]
    · rw [dc _ _ _ (by omega),hbe j hj]
      simp;omega
    have:=ul l' y i hiy (by omega) (by rw [hll i hiy];exact hun)
    omega
end
section
variable {P:Program} {n0:Nat} {J:Nat→Hp→(Nat→Prop)→World→Prop} {N np:Nat} {Q:Exit→Nat→St→Prop} {k:Nat} {s:St}
abbrev mM (ops:Array Oper) (y:Nat):Array Oper:=(ops.toList.take y).toArray
theorem vH (hP:P.follows .mixedOrders=true) {id:Nat} {ops:Array Oper} (y:Nat) (hy:CX ops.toList y=true)
  (h:RK P N np (mM ops y) true (mM ops y).toList (c8 (dO (mM ops y).toList) s) [] fun s'=>RY P n0 J N np Q ops (ops.toList.drop y) y k s'):AK P n0 J N np (.region id ops true) Q k s:=by
 intro ro S hh r a w G hc
 have ok:=HA hy
 obtain ⟨C,hw,hj,hs,hF,hn,hm,hr0,hfr⟩:=hc.kj
 obtain ⟨sts,ios,h1,h2,h3,h4,h5⟩:=h
 simp only [List.nil_append] at h2 h3
 have hst:Start C.np N (mM ops y) (mM ops y).toList (c8 (dO (mM ops y).toList) s) ios:=⟨hn.symm ▸ h2,h4,jp _ _,ky _ _,jq _ _⟩
 have hc':=jI (dO (mM ops y).toList) (show Conc C N hh r s a w from ⟨hc.sz,by rw [hc.df];trivial,hc.rg,hw⟩)
 refine wpIn_region_any hP ?_
 have hyl:=ok.lt
 have hsz:(mM ops y).size=y:=by simp;omega
 have A:=wB (ro:=ro) (P:=P) (Q:=fun e a w=>e=.normal∧wpOpsIn (Wd ro) 0 P ops (fun e a' w'=>∃ k' s' h' r' G',Q e k' s'∧CK n0 J N np S k' G' h' r' s' a' w') (List.range' y (ops.size - y)) a w)
  rfl h1 hst (by simpa using h3) (fun h' r' a' w' c'=>⟨rfl,by
   have hdf:a'.defers=[]:=by
    have:=c'.df
    cases hd:a'.defers with
    | nil=>rfl
    | cons d ds =>
     rw [hd] at this
     have h1:=this.1
     rw [hm] at h1
     cases h1
   have h6:=h5 rfl ro S h' r' a' w' G ⟨c'.sz,hdf,c'.rg,C,c'.wk,hj,hs,hF,hn,hm,hr0,hfr⟩
   rw [List.length_drop] at h6
   simpa using h6⟩) y (Array.replicate y false) (by simp;omega) ?_ ?_ hh r a { w with drawn:=w.drawn+1 } ?_
 ·have:=HH ok y (Array.replicate ops.size false) (Array.replicate y false) (by simp) (by simp) (fun j hj=>?_) ?_ (fun j hj=>?_) ?_ a { w with drawn:=w.drawn+1 } A
  ·rw [show y+(ops.size - y)=ops.size by omega] at this
   exact this
  ·simp only [Array.getD_eq_getD_getElem?,Array.getElem?_replicate]
   split <;> split <;> rfl
  ·intro k o hk hS
   simp only [Array.getD_eq_getD_getElem?,Array.getElem?_replicate] at hS
   split at hS <;> cases hS
  ·simp only [Array.getD_eq_getD_getElem?,Array.getElem?_replicate]
   split <;> rfl
  unfold left
  rw [List.filter_eq_self.2]
  ·simp
  intro i hi
  simp only [Array.getD_eq_getD_getElem?,Array.getElem?_replicate]
  split <;> rfl
 ·unfold left
  rw [List.filter_eq_self.2]
  ·simp;omega
  intro i hi
  simp only [Array.getD_eq_getD_getElem?,Array.getElem?_replicate]
  split <;> rfl
 ·intro k o hk hS
  simp only [Array.getD_eq_getD_getElem?,Array.getElem?_replicate] at hS
  split at hS <;> cases hS
 rw [gG (T:=fun _=>false) (fun j=>by
  simp only [Array.getD_eq_getD_getElem?,Array.getElem?_replicate]
  split <;> rfl),mg]
 exact ⟨hc'.sz,hc'.df,hc'.rg,hc'.wk.drew⟩
end
end
section
open Go Go.RowKit
abbrev bsC (b:Option Pr2):List DV:=anS ⟨bk b,bx b,by_ b,0,[],[]⟩
theorem tR {rest:List (Nat × Blk)} {m:Nat} {b:Blk} (h:cU rest m=none):∀ x,cU rest x=upd (cU ((m,b) :: rest)) m none x:=by
 intro x
 show _=upd (upd (cU rest) m (some b)) m none x
 by_cases e:x=m
 ·subst e;rw [upd_same,h]
 rw [aR _ _ _ _ e,aR _ _ _ _ e]
section
variable {D:Int} {m:Nat} {f:Fm}
theorem NF (h:bk (dK (prL D m f)) > 0):bsC (dK (prL D m f))=anS (fnd D m f):=by
 have e:=C5 (b:=dK (prL D m f)) (by omega)
 rw [oV e]
 have:bk (dK (prL D m f))=1:=by rw [e];rfl
 unfold bsC
 rw [this]
theorem NG (h:¬ bk (dK (prL D m f)) > 0):dK (prL D m f)=none:=by
 cases e:dK (prL D m f) with
 | none=>rfl
 | some q=>rw [e] at h;exact absurd (show (1:Int) > 0 by decide) h
def PtR (D:Int) (m k:Nat):Prop:=∀ q∈(parts m).take k,rbL D (q:Int)≠[]
theorem PtR.start:PtR D m 0:=fun q hq=>by simp at hq
theorem PtR.next {k q:Nat} (h:PtR D m k) (hq:(parts m)[k]?=some q) (hr:¬ rbL D (q:Int)=[]):PtR D m (k+1):=by
 intro q' hq'
 rw [eE hq,List.mem_append] at hq'
 rcases hq' with x | x
 ·exact h q' x
 simp only [List.mem_cons,List.not_mem_nil,or_false] at x;subst x;exact hr
theorem PtR.hit {k q:Nat} (h:PtR D m k) (hq:(parts m)[k]?=some q) (hr:rbL D (q:Int)=[]):blk D m=some q:=by
 unfold blk
 obtain ⟨r,e⟩:=qN hq
 rw [e,List.find?_append,List.find?_eq_none.2,Option.none_or,List.find?_cons_of_pos (by rw [hr];rfl)]
 intro x hx
 have:=h x hx
 simpa using this
theorem PtR.done {k:Nat} (h:PtR D m k) (hk:(parts m).length≤k):blk D m=none:=by
 unfold blk
 rw [List.find?_eq_none]
 intro x hx
 have:=h x (by rw [List.take_of_length_le hk];exact hx)
 simpa using this
theorem NE {k q:Nat} (h0:dK (prL D m f)=none) (h:PtR D m k) (hq:(parts m)[k]?=some q) (hr:rbL D (q:Int)=[]):anS ⟨2,0,0,q,[],[]⟩=anS (fnd D m f):=by
 rw [qT h0 (h.hit hq hr)]
theorem ND {k:Nat} {c:Int} (h0:dK (prL D m f)=none) (h1:blk D m=none) (hc:(agL D m f)[k]?=some c) (hk:k=0):anS ⟨2,0,0,c,[],[]⟩=anS (fnd D m f):=by
 subst hk
 cases e:agL D m f with
 | nil=>rw [e] at hc;simp at hc
 | cons a l =>
  rw [e] at hc
  simp only [List.getElem?_cons_zero,Option.some.injEq] at hc
  subst hc
  rw [uH h0 h1 e]
theorem NC (h0:dK (prL D m f)=none) (h1:blk D m=none) (hk:((agL D m f).map fun c=>([PE c]:List PV)).length=0):anS ⟨3,0,0,0,rbL D m,fmL D m⟩=anS (fnd D m f):=by
 have e:agL D m f=[]:=by rw [List.length_map] at hk;exact List.length_eq_zero_iff.1 hk
 rw [qS h0 h1 e]
theorem zz {n:Nat}:∀ x∈(parts n).map (fun (q:Nat)=>([PE (q:Int)]:List PV)),x.length=1:=by
 intro x hx
 obtain ⟨p,_,rfl⟩:=List.mem_map.1 hx
 rfl
theorem D7 {x:List PV} {k n:Nat} (h:((parts n).map fun (q:Nat)=>([PE (q:Int)]:List PV))[k]?=some x):∃ q,(parts n)[k]?=some q∧x=[PE (q:Int)]:=by
 rw [List.getElem?_map] at h
 obtain ⟨p,h1,rfl⟩:=Option.map_eq_some_iff.1 h
 exact ⟨p,h1,rfl⟩
theorem Jv {k n:Nat} (hk:k=((parts n).map fun (q:Nat)=>([PE (q:Int)]:List PV)).length):(parts n).length≤k:=by
 rw [hk,List.length_map];exact Nat.le_refl _
theorem xN {k n q:Nat} (hn:1≤n∧n≤65536) (h:(parts n)[k]?=some q):1≤q∧q≤65536:=by
 have:=qz (by omega) (List.mem_of_getElem? h)
 omega
theorem Db {k:Nat} {c n:Int} (hD:-4194304≤D∧D < 0) (h:(agL D n f)[k]?=some c):-8≤c∧c≤4194304:=by
 have h1:=List.mem_of_getElem? h
 unfold agL at h1
 split at h1
 ·obtain ⟨p,hp,rfl⟩:=List.mem_map.1 h1
  have h2:=(List.of_mem_zip (List.mem_filter.1 hp).1).1
  exact qa hD.2 hD.1 h2
 simp at h1
theorem AB {l:List Pr2} {n:Nat} (h:n=(l.map fun p=>([PA p]:List PV)).length):dM l n=dK l:=AC (by rw [h,List.length_map];exact Nat.le_refl _)
end
end
section
open Go Go.RowKit
def nc (l:List (Int × Bool)) (es:List MapEntry):Prop:=es.map (fun e=>(e.key,e.val))=l.map fun p=>(Value.int .i64 p.1,Value.bool p.2)
def K3 (l:List (Int × Bool)):Hp→Value→Prop:=fun h x=>∃ b es clk,x=.map (some b)∧h b=some (.map es clk)∧nc l es.toList
theorem uM {n:Int}:∀ (l:List (Int × Bool)) (es:List MapEntry) (i:Nat),nc l es→(l.lookup n=none→Instr.findNow (.int .i64) (.int .i64 n) es i=some none)∧∀ v,l.lookup n=some v→∃ j,Instr.findNow (.int .i64) (.int .i64 n) es i=some (some (j,.bool v))
 | [],[],i,_=>⟨fun _=>rfl,fun v h=>by simp at h⟩
 | [],_ :: _,_,h=>by simp [nc] at h
 | _ :: _,[],_,h=>by simp [nc] at h
 | (k,v) :: l,e :: es,i,h=>by
  unfold nc at h
  simp only [List.map_cons,List.cons.injEq,Prod.mk.injEq] at h
  obtain ⟨⟨h1,h2⟩,h3⟩:=h
  have ih:=uM (n:=n) l es (i+1) h3
  by_cases hk:n=k
  ·subst hk
   have hl:List.lookup n ((n,v) :: l)=some v:=by simp [List.lookup]
   refine ⟨fun h=>(by rw [hl] at h;cases h),fun v' hv=>?_⟩
   rw [hl] at hv;cases hv
   exact ⟨i,by simp [Instr.findNow,Instr.sameNow,h1,h2]⟩
  have hb:(n == k)=false:=by simpa using hk
  have hl:List.lookup n ((k,v) :: l)=List.lookup n l:=by simp [List.lookup,hb]
  have hf:Instr.findNow (.int .i64) (.int .i64 n) (e :: es) i=Instr.findNow (.int .i64) (.int .i64 n) es (i+1):=by
   simp [Instr.findNow,Instr.sameNow,h1,hb]
  rw [hl,hf]
  exact ih
section
variable {P:Program} {T K E:TypeId}
theorem uL {n:Int} {l:List (Int × Bool)} {es:List MapEntry} (hK:P.underlying K=some (.int .i64)) (hl:nc l es) (w:World) :
  (l.lookup n=none→(Instr.findKey K (.int .i64 n) es).run P w=.ok none w)∧∀ v,l.lookup n=some v→∃ j,(Instr.findKey K (.int .i64 n) es).run P w=.ok (some (j,.bool v)) w:=by
 obtain ⟨h1,h2⟩:=uM (n:=n) l es 0 hl
 refine ⟨fun h=>?_,fun v hv=>?_⟩
 ·simp [Instr.findKey,Sem.run_bind,run_underlying hK,h1 h]
 obtain ⟨j,hj⟩:=h2 v hv
 exact ⟨j,by simp [Instr.findKey,Sem.run_bind,run_underlying hK,hj]⟩
theorem se (hK:P.underlying K=some (.int .i64)) (n:Int) (e:Bool) (w2:World):(Instr.checkKey e 10000 K (.int .i64 n)).run P w2=.ok () w2:=by
 unfold Instr.checkKey
 simp [Sem.run_bind,run_underlying hK]
theorem xV {dst:Option Nat} {ty:TypeId} {pos:String} {af:Array Edge} {gd:Option (Nat × Bool)} {d:Nat} {ρ:Operand→AV} {own:Own} {x y:Operand} {n:Int} {l:List (Int × Bool)} {u:Bool}
  (hu:P.underlying T=some (.map K E)) (hK:P.underlying K=some (.int .i64)) (hE:∀ w,(zeroValue E).run P w=.ok (.bool false) w)
  (hx:ρ x=.ax (K3 l)) (hy:ρ y=.p (.c (.v (.int .i64 n)))) (hr:(l.lookup n).getD false=u) :
  Eff P ⟨dst,.lookup T x y false,ty,pos,af,gd⟩ d ρ own (.p (.c (.v (.bool u)))) [] none [] :=
 bE fun C h r own' a w hrep hrd hw=>by
  have e1:=hrep x (by simp [Op.operands])
  have e2:=hrep y (by simp [Op.operands])
  rw [hx] at e1;rw [hy] at e2
  obtain ⟨b,es,clk,h1,h2,h3⟩:=e1 h (fun _ _ _ e=>e)
  have h4:=hw.hi _ _ h2
  have hgo:(getObj b).run P w=.ok (.map es clk) w:=by simp [getObj,Sem.run,h4]
  obtain ⟨f1,f2⟩:=uL (n:=n) hK h3 w
  have hck:=se (P:=P) hK n
  refine ⟨.bool u,?_,lu _ _ _⟩
  cases hl:l.lookup n with
  | none =>
   rw [hl] at hr
   simp only [Option.getD_none] at hr
   subst hr
   simp [execOp,Instr.lookup,h1,b7 e2,Sem.run_bind,run_underlying hu,hgo,hck,f1 hl,hE]
  | some v =>
   obtain ⟨j,hj⟩:=f2 v hl
   rw [hl] at hr
   simp only [Option.getD_some] at hr
   subst hr
   simp [execOp,Instr.lookup,h1,b7 e2,Sem.run_bind,run_underlying hu,hgo,hck,hj]
end
section
variable (P:Program) (B:Bool) (N np:Nat) (Q:Exit→St→Prop) (ops:Array Oper)
def TQ (C:Ctx):Exit→Act→World→Prop:=fun e a' w'=>∃ s' h' r',Q e s'∧Conc C N h' r' s' a' w'
def RT (os:List Oper) (i:Nat) (s:St):Prop:=ops.toList.drop i=os→∀ (ro:Option Nat),(B=false→ro=none)→∀ (C:Ctx) (h:Hp) (r:Nat→Value) (a:Act) (w:World),C.np=np∧C.mar = !B→Conc C N h r s a w →
 wpOpsIn (Wd ro) 0 P ops (TQ N Q C) (List.range' i os.length) a w
def RM (d:Nat) (l:List (Int × Bool)) (os:List Oper) (i:Nat) (s:St):Prop:=ops.toList.drop i=os→∀ (ro:Option Nat),(B=false→ro=none)→∀ (C:Ctx) (h:Hp) (r:Nat→Value) (a:Act) (w:World) (b clk:Nat) (es:Array MapEntry),
 C.np=np∧C.mar = !B→Conc C N h r s a w→w.heap[b]?=some (.map es clk)→nc l es.toList→a.tmps.getD d undef=.map (some b)→C.w0.heap.size≤b→h b=none→(∀ m,s.own m≠none→bo (r m)≠some b) →
 wpOpsIn (Wd ro) 0 P ops (TQ N Q C) (List.range' i os.length) a w
variable {P:Program} {B:Bool} {N np:Nat} {Q:Exit→St→Prop} {ops:Array Oper} {os:List Oper} {i d t:Nat} {s:St} {l:List (Int × Bool)}
variable {op:Op} {ty:TypeId} {pos:String} {af:Array Edge} {gd:Option (Nat × Bool)}
theorem RT.done (h:Q .normal s):RT P B N np Q ops [] i s:=fun _ _ _ _ hh r _ _ _ hc=>⟨s,hh,r,h,hc⟩
theorem Conc.put {C:Ctx} {h:Hp} {r:Nat→Value} {a:Act} {w:World} {v:AV} {x:Value} (hc:Conc C N h r s a w) (ht:t < N) (hv:AVRep h r v x):Conc C N h r ⟨upd s.regs t v,s.own⟩ (a.put (some t) x) w :=
 ⟨by simp [Act.put,hc.sz],hc.df,hc.rg.put (dst:=some t) (fun d e=>by cases e;rw [hc.sz];exact ht) hv,hc.wk⟩
theorem kH {a:Act} {x:Value} (h:d≠t):(a.put (some t) x).tmps.getD d undef=a.tmps.getD d undef:=by
 simp only [Act.put]
 simp only [Array.getD_eq_getD_getElem?,Array.getElem?_setIfInBounds]
 rw [if_neg (fun e=>h e.symm)]
theorem RT.mv {x:Operand} {v:AV} (hop:op=.move x∨op=.assign x) (hv:ev s.regs x=v) (hr:RT P B N np Q ops os (i+1) ⟨upd s.regs t v,s.own⟩) (hN:Nat.blt t N=true:=by rfl):RT P B N np Q ops (⟨some t,op,ty,pos,af,none⟩ :: os) i s:=by
 intro hd ro hB C hh r a w hn hc
 obtain ⟨h1,h2⟩:=eo hd
 rw [Nat.blt_eq] at hN
 rw [List.length_cons,List.range'_succ,wpOpsIn_cons]
 refine jT h1 rfl (by rcases hop with rfl | rfl <;> rfl) (x:=a.eval x) (w':=w) (by rcases hop with rfl | rfl <;> simp only [execOp,Sem.run_pure]) ?_
 exact hr h2 ro hB C hh r _ w hn (hc.put hN (hv ▸ dN hc.rg x))
theorem RM.mv {x:Operand} {v:AV} (hop:op=.move x∨op=.assign x) (hv:ev s.regs x=v) (hr:RM P B N np Q ops d l os (i+1) ⟨upd s.regs t v,s.own⟩) (hN:(Nat.blt t N && !Nat.beq d t)=true:=by rfl):RM P B N np Q ops d l (⟨some t,op,ty,pos,af,none⟩ :: os) i s:=by
 intro hd ro hB C hh r a w b clk es hn hc h3 h4 h5 h6 h7 h8
 obtain ⟨h1,h2⟩:=eo hd
 simp only [Bool.and_eq_true,Nat.blt_eq,Bool.not_eq_true'] at hN
 rw [List.length_cons,List.range'_succ,wpOpsIn_cons]
 refine jT h1 rfl (by rcases hop with rfl | rfl <;> rfl) (x:=a.eval x) (w':=w) (by rcases hop with rfl | rfl <;> simp only [execOp,Sem.run_pure]) ?_
 exact hr h2 ro hB C hh r _ w b clk es hn (hc.put hN.1 (hv ▸ dN hc.rg x)) h3 h4 (by rw [kH (fun e=>by rw [e] at hN;simp at hN)];exact h5) h6 h7 h8
theorem RM.and {t1 t2 j:Nat} {y:Operand} {b1 b2:Bool} {op1:Op} {ty1 ty2:TypeId} {pos1 pos2:String} {af1 af2:Array Edge} {c:Nat}
  (hop:op1=.move y) (hg:js ops j=some c) (hx:ev s.regs (.tmp c)=.p (.c (.v (.bool b1)))) (hy:ev s.regs y=.p (.c (.v (.bool b2))))
  (hr:RM P B N np Q ops d l os (i+1+1) ⟨upd (upd s.regs t1 .junk) t2 (.p (.c (.v (.bool (b1 && b2))))),s.own⟩)
  (hN:(Nat.blt t1 N && Nat.blt t2 N && !Nat.beq d t1 && !Nat.beq d t2 && !Nat.beq c t1)=true:=by rfl) :
  RM P B N np Q ops d l (⟨some t1,op1,ty1,pos1,af1,some (j,true)⟩ :: ⟨some t2,.pick (.tmp c) (.tmp t1) (.const (.bool false)),ty2,pos2,af2,none⟩ :: os) i s:=by
 intro hd ro hB C hh r a w b clk es hn hc h3 h4 h5 h6 h7 h8
 subst hop
 obtain ⟨h1,h2⟩:=eo hd
 obtain ⟨h1',h2'⟩:=eo h2
 simp only [Bool.and_eq_true,Nat.blt_eq,Bool.not_eq_true'] at hN
 obtain ⟨⟨⟨⟨n1,n2⟩,n3⟩,n4⟩,n5⟩:=hN
 have d1:d≠t1:=fun e=>by rw [e] at n3;simp at n3
 have d2:d≠t2:=fun e=>by rw [e] at n4;simp at n4
 have d3:c≠t1:=fun e=>by rw [e] at n5;simp at n5
 rw [List.length_cons,List.range'_succ,wpOpsIn_cons]
 have ec:a.tmps.getD c undef=.bool b1:=by
  have:=dN hc.rg (.tmp c)
  rw [hx] at this
  exact b7 this
 have ey:a.eval y=.bool b2:=by
  have:=dN hc.rg y
  rw [hy] at this
  exact b7 this
 have hw:∀ o:Oper,o.guard=some (j,true)→Region.wanted o (yielded ops a.tmps)=b1:=fun o ho=>by
  have hyy:=lM hc.rg hg (c:=b1) (by exact hx)
  unfold Region.wanted
  rw [ho]
  simp only [hyy]
  cases b1 <;> rfl
 have step:∀ x1:Value,(b1=true→x1=.bool b2)→wpOpsIn (Wd ro) 0 P ops (TQ N Q C) (List.range' (i+1) (os.length+1)) (a.put (some t1) x1) w:=fun x1 hx1=>by
  rw [List.range'_succ,wpOpsIn_cons]
  have e1:(a.put (some t1) x1).tmps.getD c undef=.bool b1:=by rw [kH d3];exact ec
  have e2:(a.put (some t1) x1).tmps.getD t1 undef=x1:=by
   simp only [Act.put]
   rw [eZ _ _ _ _ (by rw [hc.sz];exact n1),if_pos rfl]
  refine jT h1' rfl rfl (x:=.bool (b1 && b2)) (w':=w) ?_ ?_
  ·have e1':(a.put (some t1) x1).eval (.tmp c)=.bool b1:=e1
   have e2':(a.put (some t1) x1).eval (.tmp t1)=x1:=e2
   have e3':(a.put (some t1) x1).eval (.const (.bool false))=.bool false:=rfl
   cases b1
   ·simp [execOp,e1',e3',asBool]
   have e4:=hx1 rfl
   subst e4
   simp [execOp,e1',e2',asBool]
  refine hr h2' ro hB C hh r _ w b clk es hn ((hc.put (t:=t1) (v:=.junk) n1 trivial).put (t:=t2) n2 (lu _ _ _)) h3 h4 (by rw [kH d2,kH d1];exact h5) h6 h7 h8
 unfold wpOpIn
 simp only [h1]
 rw [hw _ rfl]
 cases hb:b1 with
 | true =>
  rw [if_pos rfl]
  refine ⟨fun _ _=>trivial,?_⟩
  rw [Oper.semAt_eq _ _ _ (fun c' e=>by cases e)]
  have hrun:(execOp a.eval ⟨some t1,.move y,ty1,pos1,af1,some (j,true)⟩).run P w=.ok (.value (.bool b2)) w:=by simp only [execOp,ey,Sem.run_pure]
  rw [hrun]
  exact step _ fun _=>rfl
 | false =>
  rw [if_neg (by simp)]
  exact ⟨fun _ _=>trivial,step _ fun e=>by rw [hb] at e;cases e⟩
theorem RM.insert {T K E:TypeId} {k:Int} {v:Bool} {y:Operand} (hu:P.underlying T=some (.map K E)) (hK:P.underlying K=some (.int .i64)) (hy:ev s.regs y=.p (.c (.v (.bool v)))) (hl:l.lookup k=none)
  (hr:RM P B N np Q ops d (l ++ [(k,v)]) os (i+1) s):RM P B N np Q ops d l (⟨none,.insert T (.tmp d) (.const (.int .i64 k)) y,ty,pos,af,none⟩ :: os) i s:=by
 intro hd ro hB C hh r a w b clk es hn hc h3 h4 h5 h6 h7 h8
 obtain ⟨h1,h2⟩:=eo hd
 rw [List.length_cons,List.range'_succ,wpOpsIn_cons]
 have ey:a.eval y=.bool v:=by
  have:=dN hc.rg y
  rw [hy] at this
  exact b7 this
 have ed:a.eval (.tmp d)=.map (some b):=h5
 have ek:a.eval (.const (.int .i64 k))=.int .i64 k:=rfl
 have hgo:(getObj b).run P w=.ok (.map es clk) w:=by simp [getObj,Sem.run,h3]
 have hso:∀ o,(setObj b o).run P w=.ok () (w.putObj b o):=fun o=>by simp [setObj,Sem.run,h3,World.putObj]
 have hf:=(uL (n:=k) hK h4 w).1 hl
 have hck:=se (P:=P) hK k
 refine vn h1 rfl rfl (w':=w.putObj b (.map (es.push ⟨.int .i64 k,.bool v,clk⟩) (clk+1))) ?_ ?_
 ·simp [execOp,ed,ek,ey,Sem.run_bind,Instr.mapUpdate,run_underlying hu,hgo,hck,hf,hso]
 have hlt:b < w.heap.size:=(Array.getElem?_eq_some_iff.1 h3).1
 refine hr h2 ro hB C hh r _ _ b (clk+1) (es.push ⟨.int .i64 k,.bool v,clk⟩) hn ⟨by simp [Act.put,hc.sz],hc.df,fun t=>hc.rg t,hc.wk.putL h8 h7 h6⟩ ?_ ?_ h5 h6 h7 h8
 ·simp [World.putObj,hlt]
 unfold nc at h4 ⊢
 rw [Array.toList_push,List.map_append,List.map_append,h4]
 rfl
theorem WOK.learn {C:Ctx} {h:Hp} {r:Nat→Value} {own:Own} {w:World} (k:WOK C h r own w) {b:Nat} {o:Obj} (hb:w.heap[b]?=some o) (h6:C.w0.heap.size≤b) (h7:h b=none) (h8:∀ m,own m≠none→bo (r m)≠some b) :
  WOK C (fun j=>if j=b then some o else h j) r own w∧Hle h (fun j=>if j=b then some o else h j):=by
 have hle:Hle h (fun j=>if j=b then some o else h j):=fun j o' hj=>by
  show (if j=b then some o else h j)=_
  rw [if_neg fun hji=>by subst hji;rw [h7] at hj;cases hj];exact hj
 refine ⟨⟨fun m b' hm=>(k.ow m b' hm).mono hle,k.inj,fun j o' hj=>?_,fun m j hm e=>?_,k.os,k.tape,k.output,k.size,k.old,k.fo,k.hg.trans hle,fun j hj=>?_,k.gl.mono hle,k.kp,k.lk⟩,hle⟩
 ·by_cases e:j=b
  ·subst e;simp only [if_true] at hj;rw [hb];exact hj
  rw [if_neg e] at hj;exact k.hi j o' hj
 ·show (if j=b then some o else h j)=none
  rw [if_neg fun x=>by subst x;exact h8 m hm e];exact k.ho m j hm e
 by_cases e:j=b
 ·subst e;exact .inr (.inl h6)
 have hj':h j≠none:=by intro x;apply hj;show (if j=b then some o else h j)=none;rw [if_neg e];exact x
 exact k.hn j hj'
theorem RM.freeze (hr:RT P B N np Q ops os i ⟨upd s.regs d (.ax (K3 l)),s.own⟩):RM P B N np Q ops d l os i s:=by
 intro hd ro hB C hh r a w b clk es hn hc h3 h4 h5 h6 h7 h8
 obtain ⟨f1,f2⟩:=hc.wk.learn h3 h6 h7 h8
 refine hr hd ro hB C _ r a w hn ⟨hc.sz,hc.df.mono f2,fun t'=>?_,f1⟩
 show AVRep _ _ (upd s.regs d _ t') _
 by_cases e':t'=d
 ·subst e'
  rw [upd_same]
  intro h' hl
  exact ⟨b,es,clk,h5,hl _ _ (fun q e=>by cases e) (if_pos rfl),h4⟩
 rw [aR _ _ _ _ e'];exact AVRep.mono f2 _ _ (hc.rg t')
theorem vG {id:Nat} {T:TypeId} {os:List Oper} (h0:ops.toList=⟨some d,.makeMap T none,ty,pos,af,none⟩ :: os) (h:RM P B N np Q ops d [] os 1 ⟨upd s.regs d .junk,s.own⟩) (hN:Nat.blt d N=true:=by rfl):AWp P B N np (.region id ops false) Q s:=by
 intro ro hB C hh r a w hn hc
 rw [Nat.blt_eq] at hN
 apply wpIn_region
 have hsz:ops.size=os.length+1:=by rw [← Array.length_toList,h0];rfl
 rw [List.range_eq_range',hsz,List.range'_succ,wpOpsIn_cons]
 have h1:ops[0]?=some ⟨some d,.makeMap T none,ty,pos,af,none⟩:=by rw [← Array.getElem?_toList,h0];rfl
 refine jT h1 rfl rfl (x:=.map (some w.heap.size)) (w':=w.alloc (.map #[] 0)) (by simp [execOp,Instr.makeMap]) ?_
 have old:∀ i,i < w.heap.size→(w.alloc (.map #[] 0)).heap[i]?=w.heap[i]?:=fun i hi=>by rw [bV,if_neg (by omega)]
 have hw:=hc.wk.beside (w':=w.alloc (.map #[] 0)) rfl rfl (.refl _) (by show w.heap.size≤(w.heap.push _).size;rw [Array.size_push];omega) old
 refine h (by rw [h0];rfl) ro hB C hh r _ _ w.heap.size 0 #[] hn ((show Conc C N hh r s a (w.alloc (.map #[] 0)) from ⟨hc.sz,hc.df,hc.rg,hw⟩).put hN trivial) (by rw [bV,if_pos rfl]) rfl ?_ hc.wk.size ?_ ?_
 ·simp only [Act.put]
  rw [eZ _ _ _ _ (by rw [hc.sz];exact hN),if_pos rfl]
 ·cases hx:hh w.heap.size with
  | none=>rfl
  | some o=>exact absurd (hc.wk.hlt hx) (Nat.lt_irrefl _)
 intro m hm e
 exact absurd (hc.wk.lt hm e) (Nat.lt_irrefl _)
end
end
section
open Go Go.RowKit
section
variable {α:Type}
structure SmG (l m:List α) (k:Nat):Prop where
 len:l.length=m.length
 le:k≤l.length
 eq:l.take k=m.take k
theorem SmG.start {l m:List α} (h:l.length=m.length):SmG l m 0:=⟨h,Nat.zero_le _,by simp⟩
theorem gR {l:List α} {k:Nat} (h:k < l.length) (d:α):l[k]?=some (l.getD k d):=by
 rw [List.getD_eq_getElem?_getD,List.getElem?_eq_getElem h];rfl
theorem SmG.next {l m:List α} {k:Nat} {d:α} (i:SmG l m k) (hk:k < l.length) (h:l.getD k d=m.getD k d):SmG l m (k+1) :=
 ⟨i.len,hk,by rw [eE (gR hk d),eE (gR (by have:=i.len;omega) d),i.eq,h]⟩
theorem SmG.yes {l m:List α} {k:Nat} (i:SmG l m k) (hk:¬ k < l.length):l=m:=by
 have h:=i.eq
 rw [List.take_of_length_le (by omega),List.take_of_length_le (by have:=i.len;omega)] at h
 exact h
theorem SmG.no {l m:List α} {k:Nat} {d:α} (h:¬ l.getD k d=m.getD k d):¬ l=m:=fun e=>h (by rw [e])
def jP (p:α→Bool):List α→Nat→Int
 | [],_=>-1
 | x :: l,k=>if p x=true then (k:Int) else jP p l (k+1)
theorem Af {p:α→Bool} {l:List α} {k:Nat} {d:α} (h:k < l.length) (hp:p (l.getD k d)=false):jP p (l.drop k) k=jP p (l.drop (k+1)) (k+1):=by
 rw [List.drop_eq_getElem_cons h]
 show (if p l[k]=true then (k:Int) else jP p (l.drop (k+1)) (k+1))=_
 rw [List.getD_eq_getElem?_getD,List.getElem?_eq_getElem h] at hp
 simp only [Option.getD_some] at hp
 rw [if_neg (by rw [hp];decide)]
theorem CE {p:α→Bool} {l:List α} {k:Nat} {d:α} (h:k < l.length) (hp:p (l.getD k d)=true):jP p (l.drop k) k=k:=by
 rw [List.drop_eq_getElem_cons h]
 show (if p l[k]=true then (k:Int) else jP p (l.drop (k+1)) (k+1))=_
 rw [List.getD_eq_getElem?_getD,List.getElem?_eq_getElem h] at hp
 simp only [Option.getD_some] at hp
 rw [if_pos hp]
theorem CF {p:α→Bool} {l:List α} {k:Nat} (h:l.length≤k):jP p (l.drop k) k=-1:=by
 rw [List.drop_eq_nil_of_le h];rfl
theorem uK {p:α→Bool}:∀ (l:List α) (k:Nat),decide (jP p l k ≥ 0)=l.any p
 | [],_=>rfl
 | x :: l,k=>by
  rw [List.any_cons]
  unfold jP
  cases h:p x with
  | true=>rw [if_pos rfl,Bool.true_or,decide_eq_true_eq];omega
  | false=>rw [if_neg (by decide),Bool.false_or];exact uK l (k+1)
end
theorem KS {o:Fm} {l:List Fm}:(l.any fun g=>decide (g.a=o.a∧g.b=o.b∧g.c=o.c))=decide (o∈l):=by
 rw [Bool.eq_iff_iff,List.any_eq_true,decide_eq_true_eq]
 constructor
 ·rintro ⟨g,hg,h⟩
  rw [decide_eq_true_eq] at h
  have:g=o:=Fm.ext h.1 h.2.1 h.2.2
  exact this ▸ hg
 intro h;exact ⟨o,h,by simp⟩
section
variable {D:Int} {m:Nat} {f:Fm} {a:Ans}
def rgV (D:Int) (m:Nat) (f:Fm) (a:Ans):Bool:=if a.kind=1 then iJ f m (a.x,a.y) else if a.kind=2 then eQ D m f a.m else eP D m f a.roots a.forms
theorem M4 (h:a.kind=1) (h1:decide ((Int.gcd a.x a.y:Int)=1)=true):decide (vl f.a f.b f.c a.x a.y=m)=rgV D m f a:=by
 unfold rgV iJ
 have:=dT0 h1
 rw [if_pos h,show decide (Int.gcd (a.x,a.y).1 (a.x,a.y).2=1)=true from decide_eq_true (by show Int.gcd a.x a.y=1;omega),Bool.true_and]
theorem Lo (h:a.kind=1) (h1:decide ((Int.gcd a.x a.y:Int)=1)=false):false=rgV D m f a:=by
 unfold rgV iJ
 have:=dF0 h1
 rw [if_pos h,show decide (Int.gcd (a.x,a.y).1 (a.x,a.y).2=1)=false from decide_eq_false (by show ¬ Int.gcd a.x a.y=1;omega),Bool.false_and]
theorem BF (h1:¬ a.kind=1) (h2:a.kind=2) {b:Bool} (h:eQ D m f a.m=b):b=rgV D m f a:=by
 unfold rgV;rw [if_neg h1,if_pos h2,h]
theorem xt (h1:¬ a.kind=1) (h2:¬ a.kind=2) {b:Bool} (h:eP D m f a.roots a.forms=b):b=rgV D m f a:=by
 unfold rgV;rw [if_neg h1,if_neg h2,h]
def AgN (D:Int) (m:Nat) (f:Fm) (x:Int) (k:Nat):Prop:=x ∉ (agL D m f).take k
theorem AgN.start {x:Int}:AgN D m f x 0:=by unfold AgN;simp
theorem AgN.next {x c:Int} {k:Nat} (h:AgN D m f x k) (hc:(agL D m f)[k]?=some c) (hn:¬ x=c):AgN D m f x (k+1):=by
 unfold AgN at *
 rw [eE hc,List.mem_append]
 rintro (q | q)
 ·exact h q
 simp only [List.mem_cons,List.not_mem_nil,or_false] at q;exact hn q
theorem AgN.done {x:Int} {k:Nat} (h:AgN D m f x k) (hk:k=((agL D m f).map fun c=>([PE c]:List PV)).length):x ∉ agL D m f:=by
 unfold AgN at h
 rw [List.length_map] at hk
 rwa [hk,List.take_length] at h
def PtX (m:Nat) (x:Int) (k:Nat):Prop:=∀ q∈(parts m).take k,x≠(q:Int)
theorem PtX.start {x:Int}:PtX m x 0:=fun q hq=>by simp at hq
theorem PtX.next {x:Int} {k q:Nat} (h:PtX m x k) (hq:(parts m)[k]?=some q) (hn:¬ x=(q:Int)):PtX m x (k+1):=by
 intro q' hq'
 rw [eE hq,List.mem_append] at hq'
 rcases hq' with z | z
 ·exact h q' z
 simp only [List.mem_cons,List.not_mem_nil,or_false] at z;subst z;exact hn
theorem I5 {x c:Int} {k:Nat} (hc:(agL D m f)[k]?=some c) (h:x=c):eQ D m f x=true:=v6 (by rw [h];exact List.mem_of_getElem? hc)
theorem I3 {x:Int} {k q:Nat} (hn:x ∉ agL D m f) (hq:(parts m)[k]?=some q) (h:x=(q:Int)):eQ D m f x=decide (rbL D (q:Int)=[]):=by
 unfold eQ
 rw [decide_eq_false hn,Bool.false_or,decide_eq_true (List.mem_map.2 ⟨q,List.mem_of_getElem? hq,h.symm⟩),Bool.true_and,h]
theorem I4 {x:Int} {k:Nat} (hn:x ∉ agL D m f) (h:PtX m x k) (hk:k=((parts m).map fun (q:Nat)=>([PE (q:Int)]:List PV)).length):eQ D m f x=false:=by
 unfold eQ
 rw [decide_eq_false hn,Bool.false_or,Bool.and_eq_false_iff]
 left
 rw [decide_eq_false_iff_not]
 intro hm
 obtain ⟨q,hq,e⟩:=List.mem_map.1 hm
 exact h q (by rw [hk,List.length_map,List.take_length];exact hq) e.symm
theorem rg3 {roots:List Int} {forms:List Fm} (h1:decide (((fmL D m).length:Int) > 0)=true) (h2:decide (roots=rbL D m)=true) (h3:decide (forms=fmL D m)=true) :
  eP D m f roots forms = !decide (f.rd∈fmL D m):=by
 have h4:=dT0 h1
 unfold eP
 rw [h2,h3,decide_eq_true]
 ·simp
 intro e;unfold fmL at h4;rw [e] at h4;simp at h4
theorem DZ {roots:List Int} {forms:List Fm} (h1:decide (((fmL D m).length:Int) > 0)=false):eP D m f roots forms=false:=by
 have h4:=dF0 h1
 have:rbL D m=[]:=by
  unfold fmL at h4
  rw [List.length_map] at h4
  exact List.length_eq_zero_iff.1 (by omega)
 unfold eP
 rw [this];rfl
theorem DY {roots:List Int} {forms:List Fm} (h2:decide (roots=rbL D m)=false):eP D m f roots forms=false:=by
 unfold eP;rw [h2];simp
theorem Lx {roots:List Int} {forms:List Fm} (h3:decide (forms=fmL D m)=false):eP D m f roots forms=false:=by
 unfold eP;rw [h3];simp
theorem Ms {hm:m≤65536}:((fmL D m).length:Int)≤131072:=by
 have:=uI D m hm;omega
def pp (a:RA):List (Int × Bool):=[(1,decide (a.m.2=[]) && decide (((a.roots.length+a.forms.length:Nat):Int)=0)),(2,(decide (a.x.2=[]) && decide (a.y.2=[])) && decide (((a.roots.length+a.forms.length:Nat):Int)=0)),(3,(decide (a.x.2=[]) && decide (a.y.2=[])) && decide (a.m.2=[]))]
theorem Aw {a:RA} {r:Rw} (h:r∈a.nums) (hv:rV r=false):false=rgA D m f a:=by
 unfold rgA
 rw [(List.all_eq_false.2 ⟨r,h,by rw [hv];decide⟩),Bool.false_and]
theorem sd {a:RA} (h:∀ r∈a.nums,rV r=true):rgA D m f a=(((pp a).lookup a.kind).getD false && rgV D m f a.ans):=by
 have hx:=BU (h a.x (by unfold RA.nums;simp))
 have hy:=BU (h a.y (by unfold RA.nums;simp))
 have hm:=BU (h a.m (by unfold RA.nums;simp))
 have hl:decide (((a.roots.length+a.forms.length:Nat):Int)=0)=decide (a.ans.roots=[]∧a.ans.forms=[]):=by
  rw [decide_eq_decide]
  unfold RA.ans
  simp only [List.map_eq_nil_iff]
  constructor
  ·intro e;exact ⟨List.length_eq_zero_iff.1 (by omega),List.length_eq_zero_iff.1 (by omega)⟩
  rintro ⟨e1,e2⟩;rw [e1,e2];rfl
 unfold rgA pp
 rw [List.all_eq_true.2 h,Bool.true_and,hx,hy,hm,hl]
 unfold rgt rgV
 have ek:a.ans.kind=a.kind:=rfl
 have e1:(decide (rZ a.x=0) && decide (rZ a.y=0))=decide (a.ans.x=0∧a.ans.y=0):=by
  show _=decide (rZ a.x=0∧rZ a.y=0)
  rw [Bool.decide_and]
 have e2:decide (rZ a.m=0)=decide (a.ans.m=0):=rfl
 rw [e1,e2,ek]
 generalize a.ans=b at *
 by_cases k1:a.kind=1
 ·rw [k1];simp [List.lookup]
 by_cases k2:a.kind=2
 ·rw [k2];simp [List.lookup]
 by_cases k3:a.kind=3
 ·rw [k3];simp [List.lookup]
 have f1:(a.kind == 1)=false:=by simpa using k1
 have f2:(a.kind == 2)=false:=by simpa using k2
 have f3:(a.kind == 3)=false:=by simpa using k3
 rw [if_neg k1,if_neg k2,if_neg k3]
 simp [List.lookup,f1,f2,f3]
theorem MD {a:RA} (h:∀ r∈a.nums,rV r=true) {u:Bool} (hu:((pp a).lookup a.kind).getD false=u) (ht:u=true):rgV D m f a.ans=rgA D m f a:=by
 rw [sd h,hu,ht,Bool.true_and]
theorem ME {a:RA} (h:∀ r∈a.nums,rV r=true) {u:Bool} (hu:((pp a).lookup a.kind).getD false=u) (ht:u=false):false=rgA D m f a:=by
 rw [sd h,hu,ht,Bool.false_and]
end
end
section
open Go Go.RowKit
section
variable {r:Rw}
theorem zb (h:((r.2.length:Nat):Int)=0):r.2=[]:=List.length_eq_zero_iff.1 (by omega)
theorem xr (h:¬ ((r.2.length:Nat):Int)=0):r.2≠[]:=fun e=>h (by rw [e];rfl)
theorem BV (h:((r.2.length:Nat):Int)=0):(!r.1)=rV r:=by unfold rV;rw [if_pos (zb h)]
theorem Jk (h:¬ ((r.2.length:Nat):Int)=0):(((r.2.getD (((r.2.length:Nat):Int) - 1).toNat 0:Nat):Int) != 0)=rV r:=by
 unfold rV
 rw [if_neg (xr h),show (((r.2.length:Nat):Int) - 1).toNat=r.2.length - 1 by omega]
 generalize r.2.getD (r.2.length - 1) 0=x
 rw [Bool.eq_iff_iff,bne_iff_ne,decide_eq_true_eq]
 omega
def rsg (r:Rw):Int:=if r.2=[] then 0 else if r.1=true then -1 else 1
theorem Lt (h:((r.2.length:Nat):Int)=0):0=rsg r:=by unfold rsg;rw [if_pos (zb h)]
theorem Ls (h:¬ ((r.2.length:Nat):Int)=0) (h1:r.1=true):-1=rsg r:=by unfold rsg;rw [if_neg (xr h),if_pos h1]
theorem Lr (h:¬ ((r.2.length:Nat):Int)=0) (h1:r.1=false):1=rsg r:=by unfold rsg;rw [if_neg (xr h),if_neg (by rw [h1];decide)]
theorem Lq:(rsg r == 0)=decide (r.2=[]):=by
 unfold rsg
 by_cases h:r.2=[]
 ·rw [if_pos h,decide_eq_true h];rfl
 rw [if_neg h,decide_eq_false h];split <;> rfl
end
def VaK (l:List Rw) (k:Nat):Prop:=∀ r∈l.take k,rV r=true
theorem VaK.start {l:List Rw}:VaK l 0:=fun r hr=>by simp at hr
theorem VaK.next {l:List Rw} {k:Nat} {d:Rw} (h:VaK l k) (hk:k < l.length) (hv:rV (l.getD k d)=true):VaK l (k+1):=by
 intro r hr
 rw [eE (gR hk d),List.mem_append] at hr
 rcases hr with z | z
 ·exact h r z
 simp only [List.mem_cons,List.not_mem_nil,or_false] at z;subst z;exact hv
theorem VaK.done {l:List Rw} {k:Nat} (h:VaK l k) (hk:l.length≤k):∀ r∈l,rV r=true:=by
 unfold VaK at h;rwa [List.take_of_length_le hk] at h
def eR (a:RA) (k:Nat):List Rw:=[a.x,a.y,a.m] ++ a.roots ++ (a.forms.take k).flatMap rfL
theorem zI (a:RA):([.v (.bool a.x.1),W a.x.2,.v (.bool a.y.1),W a.y.2,.v (.bool a.m.1),W a.m.2] ++ a.roots.flatMap rC:List DV)=(eR a 0).flatMap rC:=by
 unfold eR;simp
theorem zH {a:RA} {k:Nat} {f:RF} (h:a.forms[k]?=some f):(eR a k).flatMap rC ++ rfC f=(eR a (k+1)).flatMap rC:=by
 unfold eR
 rw [eE h]
 simp [rfL]
theorem oR {a:RA} {k:Nat} (h:a.forms.length≤k):eR a k=a.nums:=by
 unfold eR RA.nums;rw [List.take_of_length_le h]
theorem l8 {a:RA} {k:Nat}:(eR a k).length≤3+a.roots.length+3*a.forms.length:=by
 unfold eR
 have:∀ l:List RF,(l.flatMap rfL).length=3*l.length:=by
  intro l
  induction l with
  | nil=>rfl
  | cons f l ih=>rw [List.flatMap_cons,List.length_append,ih];simp [rfL];omega
 rw [List.length_append,List.length_append,this,List.length_take]
 simp only [List.length_cons,List.length_nil]
 omega
theorem ud (a:RA):a.nums.length≤3+a.roots.length+3*a.forms.length:=by
 rw [← oR (Nat.le_refl a.forms.length)];exact l8
end
section
open Go Go.RowKit
theorem LY {k n:Nat} (h:32*k≤n):(4294967296:Nat) ^ k≤2 ^ n:=by
 rw [show (4294967296:Nat)=2 ^ 32 by rfl,← Nat.pow_mul]
 exact Nat.pow_le_pow_right (by decide) h
theorem LS {n:Nat} {r:Rw} (ho:okW r.2) (h:32*r.2.length≤2 ^ n):L n (rZ r):=by
 have h1:=fq ho
 have h2:(rZ r).natAbs=wv r.2:=by unfold rZ sg;split <;> simp
 unfold L
 rw [h2]
 exact Nat.lt_of_lt_of_le h1 (LY h)
theorem xI {r:Rw} (ho:okW r.2) (h:r.2.length≤1000):L 30 (rZ r):=LS ho (Nat.le_trans (Nat.mul_le_mul_left 32 h) (by decide))
theorem wI {x y:Nat}:(((x:Nat):Int)+((y:Nat):Int) == 0)=decide (((x+y:Nat):Int)=0):=by
 rw [Bool.eq_iff_iff,beq_iff_eq,decide_eq_true_eq]
 omega
theorem xF {a:RA}:a.x∈a.nums:=by unfold RA.nums;simp
theorem xE {a:RA}:a.y∈a.nums:=by unfold RA.nums;simp
theorem ra_len {a:RA}:a.ans.roots.length=a.roots.length∧a.ans.forms.length=a.forms.length:=by unfold RA.ans;simp
end
section
open Go Go.RowKit
section
variable {P:Program} {tt:TT} (hT:dW P tt)
variable {dst:Option Nat} {ty:TypeId} {pos:String} {af:Array Edge} {gd:Option (Nat × Bool)} {d:Nat} {ρ:Operand→AV} {own:Own} {T:TypeId} {i:TyI} {x y:Operand}
include hT in
theorem kL {e l:Nat} {j:TyI} {k:IntKind} {n:Int} {xs:List DV} (ht:tt T=some i) (hs:i.sh=.ar l e) (he:tt e=some j) (hx:ρ x=.ip xs) (hy:ρ y=.p (.c (.v (.int k n)))) (hn:0≤n∧n < l) :
  Eff P ⟨dst,.indexAddr T x y,ty,pos,af,gd⟩ d ρ own (.ip (xs.drop (n.toNat*j.size))) [] none [] :=
 bE fun C h r own' a w hrep hrd hw=>by
  have e1:=hrep x (by simp [Op.operands])
  have e2:=hrep y (by simp [Op.operands])
  rw [hx] at e1;rw [hy] at e2
  obtain ⟨b,off,c,e',fr,h1,h2,h3⟩:=e1
  refine ⟨.pointer (some ⟨b,off+n.toNat*j.size,none⟩),?_,b,off+n.toNat*j.size,c,e',fr,rfl,h2,?_⟩
  ·have hu:=(hT T i ht).array hs
   simp only [execOp,h1,b7 e2,Instr.indexAt,asIntOf,Sem.run_bind,Sem.run_pure,Result.andThen_ok,run_underlying hu,Instr.sureAddr,hn,and_self,if_true,(hT e j he).size,Addr.add_lit]
  exact (h3.drop (n.toNat*j.size)).congr fun k _=>by rw [Nat.add_assoc]
end
def sA (a b:Ans):Bool:=decide (a.kind=b.kind∧a.x=b.x∧a.y=b.y∧a.m=b.m∧a.roots=b.roots∧a.forms=b.forms)
theorem cW (a:Ans):(!sA a a)=false:=by unfold sA;simp
theorem M3 {a b:Ans} (h0:a.kind=b.kind) (h1:a.x=b.x) (h2:a.y=b.y) (h3:a.m=b.m) (h4:a.roots=b.roots):decide (a.forms=b.forms)=sA a b:=by
 unfold sA
 rw [decide_eq_decide]
 exact ⟨fun h=>⟨h0,h1,h2,h3,h4,h⟩,fun z=>z.2.2.2.2.2⟩
theorem na:Cl (-23) ⟨2,1,3⟩:=⟨⟨by decide,by decide⟩,by decide +kernel,rfl⟩
theorem KA:Cl (-20) ⟨1,0,5⟩:=⟨⟨by decide,by decide⟩,by decide +kernel,rfl⟩
theorem Mw:Cl (-4) ⟨1,0,1⟩:=⟨⟨by decide,by decide⟩,by decide +kernel,rfl⟩
theorem LD {f:Fm} {D n x y:Int} (hf:Cl D f) (ha:L 6 f.a) (hc:L 6 f.c) (hn:0≤n∧n≤65536) (h:vl f.a f.b f.c x y=n):L 6 x∧L 6 y:=by
 have hD:=gH hf
 have hd:f.b*f.b - 4*f.a*f.c=D:=hf.disc
 have hv:f.a*(x*x)+f.b*(x*y)+f.c*(y*y)=n:=by rw [← h];unfold vl;grind
 have hap:=hf.pos.1
 have hcp:0 < f.c:=by
  have h1:=pk f.b
  rcases Int.lt_or_le 0 f.c with q | q
  ·exact q
  have:f.a*f.c≤0:=Int.mul_nonpos_of_nonneg_of_nonpos (by omega) q
  have e:4*f.a*f.c=4*(f.a*f.c):=by rw [Int.mul_assoc]
  omega
 have e1:4*f.a*n=(2*f.a*x+f.b*y)*(2*f.a*x+f.b*y) - D*(y*y):=by rw [← hv,← hd];grind
 have e2:4*f.c*n=(2*f.c*y+f.b*x)*(2*f.c*y+f.b*x) - D*(x*x):=by rw [← hv,← hd];grind
 have key:∀ (c z u:Int),0 < c→L 6 c→4*c*n=u*u - D*(z*z)→L 6 z:=fun c z u h0 hL e=>by
  have hu:=pk u
  have hz:=pk z
  have hdz:z*z≤-D*(z*z):=by
   have:1*(z*z)≤-D*(z*z):=Int.mul_le_mul_of_nonneg_right (by omega) hz
   omega
  have e':-D*(z*z)=-(D*(z*z)):=Int.neg_mul _ _
  have hcn:c*n≤18446744073709551616*65536:=Int.mul_le_mul (by unfold L at hL;omega) hn.2 hn.1 (by omega)
  have e3:4*c*n=4*(c*n):=by rw [Int.mul_assoc]
  have hzz:z*z≤4*(18446744073709551616*65536):=by omega
  have:(z.natAbs:Int) < 18446744073709551616:=by
   rcases Int.lt_or_le (z.natAbs:Int) 18446744073709551616 with q | q
   ·exact q
   have h1:(18446744073709551616:Int)*18446744073709551616≤z.natAbs*z.natAbs:=Int.mul_le_mul q q (by omega) (by omega)
   have h2:(z.natAbs:Int)*z.natAbs=z*z:=by rw [← Int.natCast_mul,Int.natAbs_mul_self]
   omega
  unfold L
  omega
 exact ⟨key f.c x _ hcp hc e2,key f.a y _ hap ha e1⟩
theorem JF {D:Int} {m:Nat} {f:Fm} (hf:Cl D f) (ha:L 6 f.a) (hc:L 6 f.c) (hm:1≤m∧m≤65536):∀ p∈prL D m f,L 6 p.1∧L 6 p.2:=by
 rintro ⟨x,y⟩ hp
 have:=((j9 hf (by omega)).1 hp).2
 exact LD hf ha hc (by omega) this
end
section
open Go Go.RowKit
theorem iZ {z:Int} (h:L 8 z):(eO z).2.length≤1000:=by
 have:=sT (n:=3) h
 show (wl z.natAbs).length≤1000
 omega
theorem wc {a:Ans} (hx:L 8 a.x) (hy:L 8 a.y) (hz:L 8 a.m) (hr:∀ z∈a.roots,L 8 z) (hg:∀ g∈a.forms,L 8 g.a∧L 8 g.b∧L 8 g.c):∀ r∈(gP a).nums,r.2.length≤1000:=by
 intro r h
 unfold RA.nums gP at h
 simp only [List.mem_append,List.mem_cons,List.not_mem_nil,or_false,List.mem_map,List.mem_flatMap] at h
 rcases h with ((h | h | h) | ⟨z,h1,h⟩) | ⟨f,⟨g,h1,rfl⟩,h⟩
 ·rw [h];exact iZ hx
 ·rw [h];exact iZ hy
 ·rw [h];exact iZ hz
 ·rw [← h];exact iZ (hr z h1)
 simp only [rfL,List.mem_cons,List.not_mem_nil,or_false] at h
 obtain ⟨g1,g2,g3⟩:=hg g h1
 rcases h with h | h | h
 ·rw [h];exact iZ g1
 ·rw [h];exact iZ g2
 rw [h];exact iZ g3
end
section
open Go Go.RowKit
def hM (p j:Int):Mt:=if j < p then ⟨p,j,0,1⟩ else ⟨1,0,0,p⟩
def gdV (p a b c j:Int):Int:=if j < p then a*j*j+b*j+c else a
def gd (p:Int) (f:Fm) (j:Int):Bool:=decide (gdV p f.a f.b f.c j % p≠0)
section
end
end
section
open Go Go.RowKit
section
end
end
section
open Go Go.RowKit
theorem Fz (D:Nat):(-szz D) % 4=0∨(-szz D) % 4=1:=by
 have:=vQ D
 unfold szE at this
 split at this
 ·cases this
 omega
end
section
open Go Go.RowKit
end
section
open Go Go.RowKit
theorem wQ {D b:Int} {m:Nat} (_hm:1≤m):(b*b - D) % (4*(m:Int))=0↔b*b % (4*(m:Int))=D % (4*(m:Int)):=by
 constructor
 ·intro h;exact Int.emod_eq_emod_iff_emod_sub_eq_zero.2 h
 intro h;exact Int.emod_eq_emod_iff_emod_sub_eq_zero.1 h
theorem sgn_0 {a:Int}:(sgn a == 0)=true↔a=0:=by rw [vV,decide_eq_true_eq]
theorem LO {D:Int} {m i:Nat} (h:isR D m i=true):rbT D m (i+1)=rbT D m i ++ [(i:Int)]:=by rw [nJ,if_pos h]
theorem D5 {D:Int} {m i:Nat} (h:isR D m i=false):rbT D m (i+1)=rbT D m i:=by rw [nJ,if_neg (by rw [h];decide),List.append_nil]
theorem FV {D:Int} {m i:Nat}:(rbT D m i).length≤i:=by
 unfold rbT
 refine Nat.le_trans (List.length_filter_le _ _) ?_
 rw [List.length_map,List.length_range]
 exact Nat.le_refl _
theorem FX {D:Int} {m i:Nat} (h:i=2*m):rbT D m i=rbL D m:=by
 rw [← qp,h,show (2*(m:Int)).toNat=2*m by omega]
theorem Ng {f:Fm} {n x y:Int} (h:decide ((Int.gcd x y:Int)=1)=true):decide (vl f.a f.b f.c x y=n)=iJ f n (x,y):=by
 unfold iJ
 have:=dT0 h
 rw [show decide (Int.gcd (x,y).1 (x,y).2=1)=true from decide_eq_true (by show Int.gcd x y=1;omega),Bool.true_and]
theorem Nh {f:Fm} {n x y:Int} (h:decide ((Int.gcd x y:Int)=1)=false):false=iJ f n (x,y):=by
 unfold iJ
 have:=dF0 h
 rw [show decide (Int.gcd (x,y).1 (x,y).2=1)=false from decide_eq_false (by show ¬ Int.gcd x y=1;omega),Bool.false_and]
theorem Hv {D:Int} {n:Int}:decide (((Int.gcd (2*D) n:Nat):Int)=1)=decide (Int.gcd (2*D) n=1):=by
 rw [decide_eq_decide];omega
def agK (D:Int) (f:Fm) (n:Int) (k:Nat):List Int:=(((agZ D f).take k).filter (agP n)).map Prod.fst
theorem MP {D:Int} {f:Fm} {n:Int}:agK D f n 0=[]:=by unfold agK;simp
section
variable {D n:Int} {f:Fm} {k:Nat}
theorem MN (hl:(gvL f).length=(chs D).length) (hk:k < (chs D).length) (hne:¬ cv ((chs D).getD k 0) n=(gvL f).getD k 0):agK D f n (k+1)=agK D f n k ++ [(chs D).getD k 0]:=by
 unfold agK
 rw [eE (lH hl hk),List.filter_append,List.map_append,List.filter_cons,if_pos (by unfold agP;rw [decide_eq_true_eq];exact hne)]
 rfl
theorem MO (hl:(gvL f).length=(chs D).length) (hk:k < (chs D).length) (hne:cv ((chs D).getD k 0) n=(gvL f).getD k 0):agK D f n (k+1)=agK D f n k:=by
 unfold agK
 rw [eE (lH hl hk),List.filter_append,List.map_append,List.filter_cons,if_neg (by unfold agP;rw [decide_eq_true_eq];exact fun x=>x hne)]
 simp
theorem HM (h:Int.gcd (2*D) n=1) (hl:(gvL f).length=(chs D).length) (hk:(chs D).length≤k):agK D f n k=agL D n f:=by
 rw [yI h]
 unfold agK
 rw [List.take_of_length_le (by unfold agZ;rw [List.length_zip];omega)]
theorem HL:(agK D f n k).length≤(chs D).length:=by
 unfold agK
 rw [List.length_map]
 refine Nat.le_trans (List.length_filter_le _ _) ?_
 rw [List.length_take]
 unfold agZ
 rw [List.length_zip]
 omega
end
theorem Mu {D:Int} {m i:Nat} (hi:i < (rbL D m).length):(fmL D m).take (i+1)=(fmL D m).take i ++ [(frq D m ((rbL D m).getD i 0)).rd]:=Er (gR hi 0)
theorem Hk {D:Int} {m i:Nat} (hi:(rbL D m).length≤i):(fmL D m).take i=fmL D m:=List.take_of_length_le (by unfold fmL;rw [List.length_map];exact hi)
end
section
open Go Go.RowKit
section
end
section
end
end
section
open Go Go.RowKit
section
end
end
section
open Go Go.RowKit
def al0 (l:List Int):Bool:=l.all fun z=>decide (z=0)
theorem KU {l:List Int} {k:Nat} (hk:k < l.length) (h:¬ l.getD k 0=0):false=al0 l:=by
 unfold al0
 rw [eq_comm,List.all_eq_false]
 refine ⟨l.getD k 0,fp hk,?_⟩
 rw [decide_eq_false h];decide
theorem HI {l:List Int} {k:Nat} (hk:l.length≤k) (h:∀ z∈l.take k,z=0):true=al0 l:=by
 unfold al0
 rw [List.take_of_length_le hk] at h
 rw [eq_comm,List.all_eq_true]
 intro z hz
 exact decide_eq_true (h z hz)
theorem nC {α:Type} {p:α→Prop} {l:List α} {k:Nat} {d:α} (h:∀ z∈l.take k,p z) (hk:k < l.length) (e:p (l.getD k d)):∀ z∈l.take (k+1),p z:=by
 intro z hz
 rw [eE (gR hk d),List.mem_append] at hz
 rcases hz with hz | hz
 ·exact h z hz
 simp only [List.mem_cons,List.not_mem_nil,or_false] at hz;subst hz;exact e
theorem xj {α:Type} {p:α→Prop} {l:List α}:∀ z∈l.take 0,p z:=fun z hz=>by simp at hz
theorem Mk {l:List Int} {k:Nat} {x:Int} (hk:k < l.length) (h:l.getD k 0=x):true=decide (x∈l):=(decide_eq_true (h ▸ fp hk)).symm
theorem Ml {l:List Int} {k:Nat} {x:Int} (hk:l.length≤k) (h:∀ z∈l.take k,¬ z=x):false=decide (x∈l):=by
 rw [List.take_of_length_le hk] at h
 exact (decide_eq_false fun e=>h x e rfl).symm
theorem EB {x y:Int}:al0 [x,y]=decide (x=0∧y=0):=by unfold al0;simp
theorem EA {x y z:Int}:al0 [x,y,z]=(decide (x=0∧y=0) && decide (z=0)):=by unfold al0;simp [Bool.and_assoc]
theorem KV {D n:Int} {f:Fm} (hD:-4194304≤D∧D < 0):(agL D n f).length≤1000:=by
 have h:=ke hD.2 hD.1
 unfold agL
 split
 ·rw [List.length_map]
  refine Nat.le_trans (List.length_filter_le _ _) ?_
  rw [List.length_zip]
  omega
 exact Nat.zero_le _
theorem J1 {m p:Nat} (hm:1≤m∧m≤65536) (h:Prm p∧p ∣ m):1≤(ptN p m).2∧(ptN p m).2≤65536:=by
 have:=qz (n:=m) (by omega) ((kJ (by omega)).2 ⟨p,h.1,h.2,rfl⟩)
 omega
theorem Nx {p j:Nat} (hp:p≤65536) (_h2:2≤j) (h:j=2∨(j - 1)*(j - 1)≤p):j*j≤1000000000:=by
 have:j≤258:=by
  rcases h with h | h
  ·omega
  refine Nat.le_of_not_lt fun c=>?_
  have:258*258≤(j - 1)*(j - 1):=Nat.mul_le_mul (by omega) (by omega)
  omega
 have:j*j≤258*258:=Nat.mul_le_mul this this
 omega
theorem Me {p j:Nat} (h2:2≤j) (h:j*j≤p):j≤p:=by
 have:j*1≤j*j:=Nat.mul_le_mul (Nat.le_refl _) (by omega)
 omega
section
variable {D:Int} {m:Nat} {f:Fm}
theorem Nw {z:Int} {p:Nat} (hm:1≤m) (ha:¬ z∈agL D m f) (hp:Prm p∧p ∣ m) (e:z=((ptN p m).2:Int)):((((rbL D ((ptN p m).2:Nat)).length:Nat):Int) == 0)=eQ D m f z:=by
 rw [zd (by omega) ha hp e,e]
 show decide _=decide _
 rw [decide_eq_decide]
 constructor
 ·intro h;exact List.length_eq_zero_iff.1 (by omega)
 intro h;rw [h];rfl
theorem M5 {a:RA} (h:∀ r∈a.nums,rV r=true):rgA D m f a=rgt D m f a.ans:=by
 unfold rgA;rw [List.all_eq_true.2 h,Bool.true_and]
theorem xv {a:Ans} (k:a.kind=1):rgt D m f a=(decide (a.m=0) && decide (a.roots=[]∧a.forms=[]) && iJ f m (a.x,a.y)):=by unfold rgt;rw [if_pos k]
theorem xu {a:Ans} (k1:¬ a.kind=1) (k:a.kind=2):rgt D m f a=(decide (a.x=0∧a.y=0) && decide (a.roots=[]∧a.forms=[]) && eQ D m f a.m):=by unfold rgt;rw [if_neg k1,if_pos k]
theorem DW {a:Ans} (k1:¬ a.kind=1) (k2:¬ a.kind=2) (k:a.kind=3):rgt D m f a=(decide (a.x=0∧a.y=0) && decide (a.m=0) && eP D m f a.roots a.forms):=by unfold rgt;rw [if_neg k1,if_neg k2,if_pos k]
theorem Lp {a:Ans} (k1:¬ a.kind=1) (k2:¬ a.kind=2) (k:¬ a.kind=3):rgt D m f a=false:=by unfold rgt;rw [if_neg k1,if_neg k2,if_neg k]
end
end
section
open Go Go.RowKit
theorem Nt {α β:Type} {r:List α} {s:List β} (h:(((r.length:Nat):Int) == 0)=true):(((s.length:Nat):Int) == 0)=decide (r=[]∧s=[]):=by
 have h1:r=[]:=List.length_eq_zero_iff.1 (by have:=bT h;omega)
 subst h1
 show decide _=decide _
 rw [decide_eq_decide]
 constructor
 ·intro e;exact ⟨rfl,List.length_eq_zero_iff.1 (by omega)⟩
 rintro ⟨_,rfl⟩;rfl
theorem Nu {α β:Type} {r:List α} {s:List β} (h:(((r.length:Nat):Int) == 0)=false):false=decide (r=[]∧s=[]) :=
 (decide_eq_false fun e=>by rw [e.1] at h;cases h).symm
section
variable {D:Int} {m:Nat} {f:Fm} {r:List Int} {s:List Fm}
theorem qU:(fmL D m).length=(rbL D m).length:=by unfold fmL;rw [List.length_map]
theorem M8 (h:((((rbL D m).length:Nat):Int) == 0)=true):eP D m f r s=false:=DZ (decide_eq_false (by rw [qU];have:=bT h;omega))
theorem Jp (h:¬ rbL D m=r):eP D m f r s=false:=DY (decide_eq_false fun e=>h e.symm)
theorem Jn {k:Nat} (hk:k < (fmL D m).length) (h:(fmL D m).getD k ⟨0,0,0⟩=f.rd):eP D m f r s=false:=by
 unfold eP
 rw [decide_eq_true (p:=f.rd∈fmL D m) (h ▸ fp hk)]
 simp
theorem Jo {k:Nat} (h0:((((rbL D m).length:Nat):Int) == 0)=false) (h:rbL D m=r) (hk:(fmL D m).length≤k) (hn:∀ g∈(fmL D m).take k,¬ g=f.rd):decide (fmL D m=s)=eP D m f r s:=by
 rw [List.take_of_length_le hk] at hn
 unfold eP
 rw [decide_eq_true (p:=rbL D m≠[]) (fun e=>by rw [e] at h0;cases h0),decide_eq_true h.symm,decide_eq_false (p:=f.rd∈fmL D m) (fun e=>hn _ e rfl)]
 rw [show (decide (s=fmL D m))=decide (fmL D m=s) from decide_eq_decide.2 eq_comm]
 simp
end
end
section
open Go Go.RowKit
structure OKA (a:Ans):Prop where
 x:L 8 a.x
 y:L 8 a.y
 m:L 8 a.m
 r:∀ z∈a.roots,L 8 z
 g:∀ g∈a.forms,L 8 g.a∧L 8 g.b∧L 8 g.c
 lr:a.roots.length≤100000
 lf:a.forms.length≤100000
theorem kC:L 8 0:=by unfold L;decide
theorem Kv {D:Int} {m:Nat} {f:Fm} (hf:Cl D f) (ha:L 6 f.a) (hc:L 6 f.c) (hD:-4194304≤D∧D < 0) (hm:1≤m∧m≤200):OKA (fnd D m f)∧L 7 (fnd D m f).y∧L 7 (fnd D m f).m∧1≤(fnd D m f).kind∧(fnd D m f).kind≤3:=by
 have h7:L 7 0:=by unfold L;decide
 unfold fnd
 cases e:dK (prL D m f) with
 | some p =>
  have hp:=((o6 (prL D m f)).so p e).1
  obtain ⟨h1,h2⟩:=JF hf ha hc (m:=m) (by omega) p hp
  exact ⟨⟨h1.mono (by decide),h2.mono (by decide),kC,fun z h=>by simp at h,fun z h=>by simp at h,Nat.zero_le _,Nat.zero_le _⟩,h2.mono (by decide),h7,by show (1:Int)≤1;decide,by show (1:Int)≤3;decide⟩
 | none =>
  cases e2:blk D m with
  | some q =>
   have:=qz (n:=m) (by omega) (List.mem_of_find?_eq_some e2)
   have hq:L 7 (q:Int):=by unfold L;omega
   exact ⟨⟨kC,kC,hq.mono (by decide),fun z h=>by simp at h,fun z h=>by simp at h,Nat.zero_le _,Nat.zero_le _⟩,h7,hq,by show (1:Int)≤2;decide,by show (2:Int)≤3;decide⟩
  | none =>
   cases e3:agL D m f with
   | cons c l =>
    have hb:=Db (n:=(m:Int)) (f:=f) (k:=0) (c:=c) hD (by rw [e3];rfl)
    have hq:L 7 c:=by unfold L;omega
    exact ⟨⟨kC,kC,hq.mono (by decide),fun z h=>by simp at h,fun z h=>by simp at h,Nat.zero_le _,Nat.zero_le _⟩,h7,hq,by show (1:Int)≤2;decide,by show (2:Int)≤3;decide⟩
   | nil =>
    have hl:=ll D m (by omega)
    have hl2:(rbL D m).length≤100000:=by
     have:(rbL D m).length≤(2*(m:Int)).toNat:=by
      unfold rbL
      exact Nat.le_trans (List.length_filter_le _ _) (by rw [List.length_map,List.length_range];exact Nat.le_refl _)
     omega
    refine ⟨⟨kC,kC,kC,fun z h=>?_,fun g h=>?_,hl2,by show (fmL D m).length≤100000;rw [qU];exact hl2⟩,h7,h7,by show (1:Int)≤3;decide,by show (3:Int)≤3;decide⟩
    ·have:=(rbL_mem.1 h).1
     unfold L;omega
    unfold fmL at h
    obtain ⟨b,hb,rfl⟩:=List.mem_map.1 h
    have h2:=rbL_mem.1 hb
    have hsq:=ki (x:=b) (m:=131073) (by omega)
    have hc:=mZ (n:=(m:Int)) (by omega) hD.2 h2.2
    have h3:L 7 (m:Int):=by unfold L;omega
    have h4:L 7 b:=by unfold L;omega
    have h5:L 7 ((b*b - D) / (4*(m:Int))):=by
     have e1:(b*b - D) / (4*(m:Int))≤b*b - D:=Int.ediv_le_self _ (by omega)
     have e2:0≤(b*b - D) / (4*(m:Int)):=Int.ediv_nonneg (by omega) (by omega)
     unfold L;omega
    obtain ⟨k1,_⟩:=D1 h3 h4 h5
    exact ⟨k1.a,k1.b,k1.c⟩
theorem OKA.sz {a:Ans} (h:OKA a):∀ r∈(gP a).nums,r.2.length≤1000:=wc h.x h.y h.m h.r h.g
theorem oc (a:Ans):(anS a).length=9:=rfl
abbrev zA:Ans:=⟨0,0,0,0,[],[]⟩
def yt (a:Ans) (i:Nat):List Ans:=[{ a with kind:=1+(a.kind+(i:Int) % 2) % 3 },{ a with m:=a.m+1 },{ a with y:=-a.y },zA]
theorem Hg {a:Ans} (h:OKA a) (hy:L 7 a.y) (hm:L 7 a.m) (i:Nat):∀ b∈yt a i,OKA b:=by
 have h1:L 8 (a.m+1):=by unfold L at *;omega
 have h2:L 8 (-a.y):=by unfold L at *;omega
 intro b hb
 unfold yt at hb
 simp only [List.mem_cons,List.not_mem_nil,or_false] at hb
 rcases hb with rfl | rfl | rfl | rfl
 ·exact ⟨h.x,h.y,h.m,h.r,h.g,h.lr,h.lf⟩
 ·exact ⟨h.x,h.y,h1,h.r,h.g,h.lr,h.lf⟩
 ·exact ⟨h.x,h2,h.m,h.r,h.g,h.lr,h.lf⟩
 exact ⟨kC,kC,kC,fun z h=>by simp at h,fun z h=>by simp at h,Nat.zero_le _,Nat.zero_le _⟩
end
section
open Go Go.RowKit
def bkL (zs:List Nat):List (List PV):=(List.range zs.length).map fun (k:Nat)=>[.c (.v (.int .i64 ((zs.length:Int) - 1 - (k:Int)))),.c (w32 (zs.getD (zs.length - 1 - k) 0))]
theorem q9 (zs:List Nat):(bkL zs).length=zs.length:=by unfold bkL;simp
theorem AA {zs:List Nat} {k:Nat} (h:k < zs.length):(bkL zs)[k]?=some [.c (.v (.int .i64 ((zs.length:Int) - 1 - (k:Int)))),.c (w32 (zs.getD (zs.length - 1 - k) 0))]:=by
 unfold bkL;rw [List.getElem?_map,List.getElem?_range h];rfl
theorem HD {zs:List Nat} {k:Nat} {x:List PV} (h:(bkL zs)[k]?=some x):k < zs.length∧x=[.c (.v (.int .i64 ((zs.length:Int) - 1 - (k:Int)))),.c (w32 (zs.getD (zs.length - 1 - k) 0))]:=by
 have hk:k < zs.length:=by have:=(List.getElem?_eq_some_iff.1 h).1;rwa [q9] at this
 rw [AA hk] at h
 exact ⟨hk,(Option.some.inj h).symm⟩
theorem HC (zs:List Nat):∀ x∈bkL zs,x.length=2:=by
 intro x hx
 unfold bkL at hx
 obtain ⟨k,_,rfl⟩:=List.mem_map.1 hx
 rfl
def lwA (zs:List Nat) (k:Nat):Nat:=wv (zs.drop (zs.length - k))
theorem yg (zs:List Nat):lwA zs 0=0:=by unfold lwA;rw [Nat.sub_zero,List.drop_length];rfl
theorem GN (zs:List Nat):lwA zs zs.length=wv zs:=by unfold lwA;rw [Nat.sub_self];rfl
theorem uh {zs:List Nat} {k:Nat} (h:k < zs.length):lwA zs (k+1)=lwA zs k*4294967296+zs.getD (zs.length - 1 - k) 0:=by
 unfold lwA
 have hi:zs.length - (k+1) < zs.length:=by omega
 rw [List.drop_eq_getElem_cons hi,show zs.length - (k+1)+1=zs.length - k by omega]
 have e:zs.getD (zs.length - 1 - k) 0=zs[zs.length - (k+1)]:=by
  rw [List.getD_eq_getElem?_getD,show zs.length - 1 - k=zs.length - (k+1) by omega,List.getElem?_eq_getElem hi];rfl
 rw [e]
 show _+4294967296*_=_
 omega
theorem Mb {zs:List Nat} (hok:okW zs) (h2:zs.length≤2) {k:Nat} (h:k < zs.length):lwA zs k < 4294967296:=by
 rcases (show k=0∨k=1 by omega) with rfl | rfl
 ·rw [yg];omega
 have h0:0 < zs.length:=by omega
 rw [uh h0,yg]
 have:=hok.getD (zs.length - 1 - 0)
 omega
theorem Nm {m x:Nat} (hm:m < 4294967296) (hx:x < 4294967296):bits .or .u64 ((m*4294967296:Nat):Int) (x:Int)=((m*4294967296+x:Nat):Int):=by
 rw [n9 rfl (fZ (by omega)) (fZ (by omega)),Nat.mul_comm m,show (4294967296:Nat)=2 ^ 32 by rfl,Nat.two_pow_add_eq_or_of_lt (i:=32) (by omega)]
def oE (m:Nat):Int:=if m < 9223372036854775808 then m else (m:Int) - 18446744073709551616
theorem yR (z:Int):IntKind.i64.wrap z=if 9223372036854775808≤z % 18446744073709551616 then z % 18446744073709551616 - 18446744073709551616 else z % 18446744073709551616:=by
 simp [IntKind.wrap,IntKind.signed,IntKind.bits]
theorem IR {m:Nat} (h:m < 18446744073709551616):IntKind.i64.wrap (m:Int)=oE m:=by
 rw [yR]
 unfold oE
 split <;> split <;> omega
def yL (x:Int):Int:=if x < 0 then IntKind.i64.wrap (0 - oE x.natAbs) else oE x.natAbs
theorem HV {x:Int} (h:x < 0):IntKind.i64.wrap (0 - oE x.natAbs)=yL x:=by unfold yL;rw [if_pos h]
theorem HU {x:Int} (h:¬ x < 0):oE x.natAbs=yL x:=by unfold yL;rw [if_neg h]
theorem xh {x:Int} (h:x.natAbs < 18446744073709551616):(lwO x=true∧yL x=x)∨(lwO x=false∧¬ yL x=0∧¬ ((x < 0)↔(yL x < 0))):=by
 have hy:yL x=if x < 0 then (if x.natAbs≤9223372036854775808 then x else 18446744073709551616+x) else (if x < 9223372036854775808 then x else x - 18446744073709551616):=by
  unfold yL
  rw [yR]
  unfold oE
  repeat' split
  all_goals omega
 rw [hy]
 unfold lwO
 by_cases hr:-9223372036854775808≤x∧x < 9223372036854775808
 ·refine .inl ⟨decide_eq_true hr,?_⟩
  repeat' split
  all_goals omega
 refine .inr ⟨decide_eq_false hr,?_⟩
 repeat' split
 all_goals omega
theorem wJ {x:Int} (h:x.natAbs < 18446744073709551616) (h1:(decide (x < 0) != decide (yL x < 0))=true):AV.t [PE 0,PB false]=.t [PE (lwV x),PB (lwO x)]:=by
 rcases xh h with ⟨a,b⟩ | ⟨a,b,c⟩
 ·rw [b] at h1;simp at h1
 unfold lwV;rw [a];rfl
theorem ui {x:Int} (h:x.natAbs < 18446744073709551616) (h1:(decide (x < 0) != decide (yL x < 0))=false):AV.t [PE (yL x),PB true]=.t [PE (lwV x),PB (lwO x)]:=by
 rcases xh h with ⟨a,b⟩ | ⟨a,b,c⟩
 ·unfold lwV;rw [a,b];rfl
 exfalso
 apply c
 rw [bne_eq_false_iff_eq] at h1
 exact decide_eq_decide.1 h1
theorem rU {x:Int} (h:x.natAbs < 18446744073709551616) (h1:yL x=0):AV.t [PE (yL x),PB true]=.t [PE (lwV x),PB (lwO x)]:=by
 rcases xh h with ⟨a,b⟩ | ⟨a,b,c⟩
 ·unfold lwV;rw [a,b];rfl
 exact absurd h1 b
end
section
open Go Go.RowKit
def pz0 (f:Fm):Fm:=if rfE f=0 then prF (dsc f.a f.b f.c) else ⟨0,0,0⟩
theorem Nb {f:Fm} (h:¬ rfE f=0):AV.t [PF ⟨0,0,0⟩,PE (rfE f)]=.t [PF (pz0 f),PE (rfE f)]:=by unfold pz0;rw [if_neg h]
theorem Na {f:Fm} (h:rfE f=0):AV.t [PF (prF (dsc f.a f.b f.c)),PE 0]=.t [PF (pz0 f),PE (rfE f)]:=by unfold pz0;rw [if_pos h,h]
end
section
open Go Go.RowKit Go.WideShapes Go.ChangeShapes
section
variable {H:Type} (enc:TypeId × Value→H) (P:Program) (w:World)
def OpD (t:TypeId) (S:List DV→Prop):Prop:=∀ (fuel:Nat) (cs:List Value) (x:DataW H × List MemPlace),DataW.trod enc P w 0 (fun _=>true) true fuel t cs=some x→(∀ n∈x.1.weights P t,n≤reachBytes) →
 ∃ ds,S ds∧ds.length=cs.length∧DReps (fun k=>w.heap[k]?) ds fun i=>cs[i]?
variable {enc P w}
theorem tU {t:TypeId} {l:List Leaf} (h:ei enc P w t l):OpD enc P w t (LDs l):=fun fuel cs x e hw=>by
 obtain ⟨ds,h1,h2,h3⟩:=(h fuel cs x e hw).split
 refine ⟨ds,h1,h2,?_⟩
 rw [DReps.iff]
 exact fun i d he=>h3 i d he
theorem wK {α:Type} {p:Nat→α→Prop}:∀ {n:Nat},(∀ i,i < n→∃ x,p i x)→∃ l:List α,l.length=n∧∀ i x,l[i]?=some x→p i x
 | 0,_=>⟨[],rfl,fun i x h=>by simp at h⟩
 | n+1,h=>by
  obtain ⟨l,h1,h2⟩:=wK (n:=n) fun i hi=>h i (by omega)
  obtain ⟨x,hx⟩:=h n (by omega)
  refine ⟨l ++ [x],by rw [List.length_append,h1];rfl,fun i y e=>?_⟩
  rcases Nat.lt_or_ge i n with k | k
  ·rw [List.getElem?_append_left (by omega)] at e;exact h2 i y e
  rw [List.getElem?_append_right (by omega),h1] at e
  have:i=n:=by
   rcases Nat.lt_or_ge (i - n) 1 with q | q
   ·omega
   rw [List.getElem?_eq_none (by simpa using q)] at e;cases e
  subst this
  simp at e
  subst e
  exact hx
theorem oy {z:Nat}:∀ (l:List (List DV)) (_:∀ b∈l,b.length=z) (t:Nat) (dv:DV),l.flatten[t]?=some dv→∃ b,l[t / z]?=some b∧b[t % z]?=some dv
 | [],_,t,dv,h=>by simp at h
 | b :: l,hL,t,dv,h=>by
  rw [List.flatten_cons,List.getElem?_append] at h
  have hb:=hL b (by simp)
  rw [hb] at h
  by_cases ht:t < z
  ·rw [if_pos ht] at h
   rw [Nat.div_eq_of_lt ht,Nat.mod_eq_of_lt ht]
   exact ⟨b,rfl,h⟩
  rw [if_neg ht] at h
  obtain ⟨b',h1,h2⟩:=oy l (fun b hb=>hL b (by simp [hb])) (t - z) dv h
  have hz:0 < z:=by
   rcases Nat.eq_zero_or_pos z with e | e
   ·subst e
    simp at h1 h2
    have:b'.length=0:=hL b' (by simp [List.mem_of_getElem? h1])
    rw [List.getElem?_eq_none (by omega)] at h2;cases h2
   exact e
  refine ⟨b',?_,?_⟩
  ·rw [Nat.div_eq_sub_div hz (by omega),List.getElem?_cons_succ];exact h1
  rw [Nat.mod_eq_sub_mod (by omega)];exact h2
theorem Ax {base:Nat} {a:Addr} {n:Nat} {cs:List Value} (h:w.cells? base a n=some cs):cs.length=n∧∀ i,i < n→w.cell? (a.add i)=cs[i]?:=by
 unfold World.cells? at h
 split at h
 ·refine ⟨by simpa using mapM_some_length h,fun i hi=>?_⟩
  exact mapM_some_get h i i (by simp [hi])
 cases h
def SlS (S:List DV→Prop) (b:Nat) (ds:List DV):Prop:=∃ ls:List (List DV),(∀ l∈ls,S l)∧ls.length*b≤reachBytes∧ds=[.sl ls.length ls.flatten]
theorem rJ {t e:TypeId} {S:List DV→Prop} {z b:Nat} (ht:P.underlying t=some (.slice e)) (he:OpD enc P w e S) (hc:P.cellsOf e=z) (hS:∀ ds,S ds→ds.length=z) (hz:0 < z) (hb:P.bytesOf e=b) (hb1:1≤b):OpD enc P w t (SlS S b):=fun fuel cs x h hw=>by
 rcases DataW.trod_slice ht h with ⟨rfl,_⟩ | ⟨a,len,cap,elems,rest,n,rfl,rfl,rfl,_,h2,_,h4,h5,_,_⟩
 ·refine ⟨[.sl 0 []],⟨[],by simp,by simp,rfl⟩,rfl,?_⟩
  rw [DReps.iff]
  intro i d e
  cases i with
  | zero =>
   simp only [List.getElem?_cons_zero,Option.some.injEq] at e
   subst e
   refine ⟨.slice none 0 0,rfl,?_⟩
   simp only [DRep]
   exact ⟨none,0,rfl,Nat.le_refl _,by simp,.inl trivial⟩
  | succ i=>simp at e
 have hlb:len*b≤reachBytes:=by
  have:=hw ((elems.length+rest.length)*P.bytesOf e) (by simp [DataW.weights,ht])
  rw [hb,h4] at this
  have:len*b≤(len+rest.length)*b:=Nat.mul_le_mul_right _ (by omega)
  omega
 have hlen:len≤140737488355328:=by
  have:len*1≤len*b:=Nat.mul_le_mul_left _ hb1
  have hr:reachBytes < 2 ^ 47:=reachBytes_lt
  omega
 have hel:∀ i,i < len→∃ l:List DV,S l∧∀ (j:Nat) d,l[j]?=some d→∃ y,w.cell? (a.add (i*z+j))=some y∧DRep (fun k=>w.heap[k]?) d y:=fun i hi=>by
  have h6:=h5 i hi
  rw [hc] at h6
  obtain ⟨y,hy⟩:∃ y,elems[i]?=some y:=⟨elems[i],List.getElem?_eq_getElem (by omega)⟩
  rw [hy] at h6
  obtain ⟨ci,h7,h8⟩:=Option.bind_eq_some_iff.1 h6
  obtain ⟨k1,k2⟩:=Ax h7
  obtain ⟨ds,d1,d2,d3⟩:=he _ _ _ h8 fun k hk=>hw k (by
   simp only [DataW.weights,ht,List.mem_cons,List.mem_append]
   exact .inr (.inl (iV hk _ i (by simp [hy]))))
  refine ⟨ds,d1,fun j d hd=>?_⟩
  obtain ⟨v,v1,v2⟩:=d3.get j d hd
  have hj:j < z:=by have:=(List.getElem?_eq_some_iff.1 hd).1;omega
  refine ⟨v,?_,v2⟩
  rw [← Addr.add_add,k2 j hj];exact v1
 obtain ⟨ls,l1,l2⟩:=wK hel
 have hz':∀ l∈ls,l.length=z:=fun l hl=>by
  obtain ⟨i,hi,rfl⟩:=List.getElem_of_mem hl
  exact hS _ (l2 i _ (List.getElem?_eq_getElem hi)).1
 refine ⟨[.sl ls.length ls.flatten],⟨ls,fun l hl=>?_,by rw [l1];exact hlb,rfl⟩,rfl,?_⟩
 ·obtain ⟨i,hi,rfl⟩:=List.getElem_of_mem hl
  exact (l2 i _ (List.getElem?_eq_getElem hi)).1
 rw [DReps.iff]
 intro i d e
 cases i with
 | succ i=>simp at e
 | zero =>
  simp only [List.getElem?_cons_zero,Option.some.injEq] at e
  subst e
  refine ⟨_,rfl,?_⟩
  simp only [DRep,l1]
  refine ⟨some a,cap,rfl,h2,hlen,?_⟩
  by_cases h0:len=0
  ·left
   have:ls=[]:=List.length_eq_zero_iff.1 (by omega)
   rw [this];rfl
  right
  have hall:∀ (t:Nat) d,ls.flatten[t]?=some d→∃ y,w.cell? (a.add t)=some y∧DRep (fun k=>w.heap[k]?) d y:=fun t d ht'=>by
   obtain ⟨l,k1,k2⟩:=oy ls hz' t d ht'
   obtain ⟨y,y1,y2⟩:=(l2 _ l k1).2 _ d k2
   refine ⟨y,?_,y2⟩
   rw [Nat.mul_comm,Nat.div_add_mod] at y1
   exact y1
  have hfl:∃ d,ls.flatten[0]?=some d:=by
   cases ls with
   | nil=>simp at l1;omega
   | cons l ls =>
    have:=hz' l (by simp)
    cases l with
    | nil=>simp at this;omega
    | cons d l=>exact ⟨d,rfl⟩
  obtain ⟨d0,hd0⟩:=hfl
  obtain ⟨y0,hc0,_⟩:=hall 0 d0 hd0
  rw [Addr.add_zero'] at hc0
  obtain ⟨c,e',fr,bo,hsp⟩:=qb hc0
  have ha:a=⟨a.block,a.off,none⟩:=by cases a;simp at hsp;subst hsp;rfl
  refine ⟨a.block,a.off,c,e',fr,by rw [← ha],bo,?_⟩
  rw [DReps.iff]
  intro t d hd
  obtain ⟨y,hy,hr⟩:=hall t d hd
  refine ⟨y,?_,hr⟩
  rw [ha,Addr.add_lit] at hy
  simp only [World.cell?,bo] at hy
  simpa using hy
def jv (S S':List DV→Prop) (ds:List DV):Prop:=∃ a b,ds=a ++ b∧S a∧S' b
variable (enc P w) in
def yM (o:Nat) (fs:List Field) (n:Nat) (S:List DV→Prop):Prop:=∀ (m:Nat) (cs:List Value) (xs:List (DataW H × List MemPlace)),xs.length=fs.length →
 (∀ (i:Nat) (f:Field),fs[i]?=some f→DataW.trod enc P w 0 (fun _=>true) true m f.type ((cs.drop f.offset).take (P.cellsOf f.type))=xs[i]?) →
 (∀ n∈DataW.weightsEach P (fs.map (·.type)) (xs.map (·.1)),n≤reachBytes)→cs.length=o+n→∃ ds,S ds∧ds.length=n∧DReps (fun k=>w.heap[k]?) ds fun i=>cs[o+i]?
theorem B7 {o:Nat}:yM enc P w o [] 0 (fun ds=>ds=[]):=fun m cs xs _ _ _ hl=>⟨[],rfl,rfl,by simp only [DReps]⟩
theorem gY {o z n:Nat} {f:Field} {fs:List Field} {S S':List DV→Prop} (ho:f.offset=o) (hs:OpD enc P w f.type S) (hc:P.cellsOf f.type=z) (hr:yM enc P w (o+z) fs n S'):yM enc P w o (f :: fs) (z+n) (jv S S'):=fun m cs xs hxl hi hw hl=>by
 cases xs with
 | nil=>simp at hxl
 | cons x xs =>
  have h0:=hi 0 f rfl
  rw [ho,hc] at h0
  obtain ⟨a,a1,a2,a3⟩:=hs _ _ _ h0 (fun n hn=>hw n (by simp only [List.map_cons,DataW.weightsEach,List.mem_append];exact .inl hn))
  obtain ⟨b,b1,b2,b3⟩:=hr m cs xs (by simpa using hxl) (fun i g hg=>hi (i+1) g (by simpa using hg)) (fun n hn=>hw n (by simp only [List.map_cons,DataW.weightsEach,List.mem_append];exact .inr hn)) (by rw [hl];omega)
  have hal:a.length=z:=by
   rw [a2,List.length_take,List.length_drop];omega
  refine ⟨a ++ b,⟨a,b,rfl,a1,b1⟩,by rw [List.length_append];omega,?_⟩
  rw [DReps.iff]
  intro i d e
  rcases Nat.lt_or_ge i z with k | k
  ·rw [List.getElem?_append_left (by omega)] at e
   obtain ⟨y,y1,y2⟩:=a3.get i d e
   refine ⟨y,?_,y2⟩
   rw [List.getElem?_take,if_pos k,List.getElem?_drop] at y1
   exact y1
  rw [List.getElem?_append_right (by omega),hal] at e
  obtain ⟨y,y1,y2⟩:=b3.get (i - z) d e
  refine ⟨y,?_,y2⟩
  rw [← y1];congr 1;omega
theorem xT {t:TypeId} {fs:Array Field} {n:Nat} {S:List DV→Prop} (ht:P.underlying t=some (.struct fs)) (hf:yM enc P w 0 fs.toList n S) (hc:P.cellsOf t=n):OpD enc P w t S:=fun fuel cs x h hw=>by
 obtain ⟨xs,m,rfl,rfl,hl,hxl,hi⟩:=DataW.trod_struct ht h
 obtain ⟨ds,d1,d2,d3⟩:=hf m cs xs (by simpa using hxl) (fun i f hf=>hi i f (by simpa using hf)) (fun n hn=>hw n (by simp only [DataW.weights,ht];exact hn)) (by rw [hl,hc];omega)
 exact ⟨ds,d1,by omega,by simpa using d3⟩
theorem C9 {W:World} {t:TypeId} {S:List DV→Prop} {v:Value} {d:DataW H} {p:List MemPlace} (hs:(match P.underlying t with | some (.struct _)=>true | some (.array _ _)=>true | _=>false)=true) (ho:OpD enc P W t S) {base:Nat}
  (hv:Value.okWide P W .any base t v) (h:DataW.Trod enc P W 0 (fun _=>true) true t v d p) (hw:∀ n∈d.weights P t,n≤reachBytes) :
  ∃ ds:List DV,S ds∧AVRep (wh W) (fun _=>.bool false) (.p (.a ds)) v:=by
 obtain ⟨cs,rfl⟩:=pS hs hv
 obtain ⟨fuel,h⟩:=h
 obtain ⟨ds,h1,h2,h3⟩:=ho fuel cs.toList (d,p) (by simpa [Value.cells] using h) hw
 refine ⟨ds,h1,cs,rfl,by simpa using h2.symm,?_⟩
 show DReps (fun k=>W.heap[k]?) ds _
 simpa using h3
end
end
section
open Go Go.RowKit
theorem nF {ds:List DV} (h:LDs [.b,.s] ds):∃ r:Rw,ds=rC r∧okW r.2:=by
 obtain ⟨b,ws,c,rfl,w,h⟩:=h.bs
 obtain rfl:=h.nil
 exact ⟨(b,ws),rfl,w⟩
theorem FR {ds:List DV} (h:LDs [.b,.s,.b,.s,.b,.s] ds):∃ f:RF,ds=rfC f∧∀ r∈rfL f,okW r.2:=by
 obtain ⟨b,ws,c,rfl,w,h⟩:=h.bs
 obtain ⟨b2,ws2,c2,rfl,w2,h⟩:=h.bs
 obtain ⟨b3,ws3,c3,rfl,w3,h⟩:=h.bs
 obtain rfl:=h.nil
 refine ⟨((b,ws),(b2,ws2),(b3,ws3)),rfl,fun r hr=>?_⟩
 unfold rfL at hr
 simp only [List.mem_cons,List.not_mem_nil,or_false] at hr
 rcases hr with rfl | rfl | rfl
 ·exact w
 ·exact w2
 exact w3
theorem vT {α:Type} {S:List DV→Prop} {enc:α→List DV} {Q:α→Prop} (h:∀ ds,S ds→∃ x,ds=enc x∧Q x):∀ ls:List (List DV),(∀ l∈ls,S l)→∃ xs:List α,ls=xs.map enc∧∀ x∈xs,Q x
 | [],_=>⟨[],rfl,fun x hx=>by simp at hx⟩
 | l :: ls,hl=>by
  obtain ⟨x,e,q⟩:=h l (hl l (by simp))
  obtain ⟨xs,e2,q2⟩:=vT h ls fun l hl'=>hl l (by simp [hl'])
  refine ⟨x :: xs,by rw [e,e2];rfl,fun y hy=>?_⟩
  rcases List.mem_cons.1 hy with rfl | hy
  ·exact q
  exact q2 y hy
theorem th {α:Type} {S:List DV→Prop} {enc:α→List DV} {Q:α→Prop} {b:Nat} (h:∀ ds,S ds→∃ x,ds=enc x∧Q x) {ds:List DV} (hd:SlS S b ds):∃ xs:List α,ds=[SL enc xs]∧∀ x∈xs,Q x:=by
 obtain ⟨ls,h1,_,rfl⟩:=hd
 obtain ⟨xs,rfl,q⟩:=vT h ls h1
 refine ⟨xs,?_,q⟩
 rw [List.length_map,← List.flatMap_def]
theorem zT {l:List Leaf}:∀ {ds:List DV},LDs l ds→ds.length=l.length:=by
 induction l with
 | nil=>intro ds h;obtain rfl:=h.nil;rfl
 | cons x l ih =>
  intro ds h
  cases x with
  | b=>obtain ⟨b,d,rfl,h1⟩:=h.b;rw [List.length_cons,List.length_cons,ih h1]
  | i k=>obtain ⟨b,d,rfl,_,h1⟩:=h.i;rw [List.length_cons,List.length_cons,ih h1]
  | s=>obtain ⟨b,d,rfl,_,h1⟩:=h.s;rw [List.length_cons,List.length_cons,ih h1]
abbrev raO:List DV→Prop:=jv (LDs [.i .i64]) (jv (LDs [.b,.s]) (jv (LDs [.b,.s]) (jv (LDs [.b,.s]) (jv (SlS (LDs [.b,.s]) 32) (jv (SlS (LDs [.b,.s,.b,.s,.b,.s]) 96) (fun ds=>ds=[]))))))
theorem FZ {ds:List DV} (h:raO ds):∃ a:RA,ds=raS a∧∀ r∈a.nums,okW r.2:=by
 obtain ⟨d0,r0,rfl,h0,d1,r1,rfl,h1,d2,r2,rfl,h2,d3,r3,rfl,h3,d4,r4,rfl,h4,d5,r5,rfl,h5,rfl⟩:=h
 obtain ⟨k,c,rfl,_,h0⟩:=h0.i
 obtain rfl:=h0.nil
 obtain ⟨x,rfl,wx⟩:=nF h1
 obtain ⟨y,rfl,wy⟩:=nF h2
 obtain ⟨m,rfl,wm⟩:=nF h3
 obtain ⟨rs,rfl,wr⟩:=th (enc:=rC) (Q:=fun r:Rw=>okW r.2) (fun _ h=>nF h) h4
 obtain ⟨fs,rfl,wf⟩:=th (enc:=rfC) (Q:=fun f:RF=>∀ r∈rfL f,okW r.2) (fun _ h=>FR h) h5
 refine ⟨⟨k,x,y,m,rs,fs⟩,rfl,fun r hr=>?_⟩
 unfold RA.nums at hr
 simp only [List.mem_append,List.mem_cons,List.not_mem_nil,or_false,List.mem_flatMap] at hr
 rcases hr with ((rfl | rfl | rfl) | hr) | ⟨f,hf,hr⟩
 ·exact wx
 ·exact wy
 ·exact wm
 ·exact wr r hr
 exact wf f hf r hr
end
end Go.AM
