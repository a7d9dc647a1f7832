import Derived.Test.YthaiejfjnllglaaGreatDoorABA
set_option maxRecDepth 100000
namespace Go.AM
section
open Go Go.RowKit
theorem aW {P:Program} {N np:Nat} {ops:Array Oper} {draw:Bool} {os:List Oper} {s:St} {acc:List Io} {K:St→Prop} {t:Nat} {b:Bool} (_h:s.regs t=.p (.c (.v (.bool b)))) (h1:b=true→RK P N np ops draw os s acc K) (h2:b=false→RK P N np ops draw os s acc K):RK P N np ops draw os s acc K:=by
 cases b with
 | true=>exact h1 rfl
 | false=>exact h2 rfl
theorem vS (v:DV):∀ (off:Nat) (cs:List DV),spl off [v] cs=cs.set off v
 | 0,[]=>rfl
 | 0,_ :: cs=>by cases cs <;> rfl
 | _+1,[]=>rfl
 | n+1,c :: cs=>by simp [spl,vS v n cs]
section ops
variable {P:Program} {tt:TT} (hT:dW P tt)
variable {dst:Option Nat} {ty:TypeId} {pos:String} {af:Array Edge} {gd:Option (Nat × Bool)} {d:Nat} {ρ:Operand→AV} {own:Own}
variable {T:TypeId} {i:TyI} {x y:Operand}
include hT in
theorem xW {e m n:Nat} {b:Blk} (ht:tt T=some i) (hs:i.sh=.sl e) (hx:ρ x=.vec m) (hb:own m=some b) (hbv:b.vec=true) (hsz:Nat.blt 0 b.sz=true) (hn:n*b.sz=b.cs.length):Eff P ⟨dst,.call ⟨.builtin .len,#[x],#[T]⟩,ty,pos,af,gd⟩ d ρ own (.p (.c (.v (.int .i64 n)))) [] none [m] :=
 bE fun C h r own' a w hrep hrd hw=>by
  have e1:=hrep x (by simp [Op.operands,Call.operands])
  rw [hx] at e1
  have e1':a.eval x=r m:=e1
  have hold:=hw.ow m b ((hrd m (by simp)).trans hb)
  unfold BlkRep at hold
  rw [hbv] at hold
  simp only at hold
  obtain ⟨ad,l,cap,q1,q2,q3,q4,q5⟩:=hold
  have hl:l=n:=Nat.eq_of_mul_eq_mul_right (bL0 hsz) (q2.trans hn.symm)
  subst hl
  refine ⟨_,?_,kv _ _ _ _⟩
  apply kP
  simp only [List.map_toArray,List.map_cons,List.map_nil,e1',q1,builtin,Builtin.len_,Sem.run_bind]
  simp [run_underlying ((hT T i ht).slice hs),goInt]
include hT in
theorem tV {m off:Nat} {b:Blk} {dv:DV} {cs:List DV} (ht:tt T=some i) (hx:ρ x=.loc m off) (hy:ρ y=.p (.c dv)) (hb:own m=some b) (hl:i.size=1) (hin:off < b.cs.length) (hcs:b.cs.set off dv=cs) :
  Eff P ⟨dst,.store T x y,ty,pos,af,gd⟩ d ρ own .junk [(m,some ⟨b.vec,usz b,b.e,cs⟩)] none [m] :=
 oq hT ht hx hy hb (by rw [hl];rfl) (by simp only [cB,List.length_cons,List.length_nil];omega) (by rw [← hcs];exact vS dv off b.cs)
end ops
def wv:List Nat→Nat
 | []=>0
 | x :: xs=>x+4294967296*wv xs
def okW (l:List Nat):Prop:=∀ x∈l,x < 4294967296
theorem vL:∀ (f m:Nat),m≤f→wv (gz f m)=m
 | 0,m,h=>by (have:m=0:=by omega);subst this;rfl
 | f+1,m,h=>by
  simp only [gz]
  by_cases h0:m=0
  ·simp [h0,wv]
  rw [if_neg h0]
  simp only [wv]
  rw [vL f (m / 4294967296) (by omega)]
  omega
theorem bH (m:Nat):wv (wl m)=m:=vL m m (Nat.le_refl _)
theorem vM:∀ (f m:Nat),okW (gz f m)
 | 0,m=>by intro x hx;simp [gz] at hx
 | f+1,m=>by
  intro x hx
  simp only [gz] at hx
  by_cases h0:m=0
  ·simp [h0] at hx
  rw [if_neg h0] at hx
  rcases List.mem_cons.1 hx with hx | hx
  ·omega
  exact vM f _ x hx
theorem bG (m:Nat):okW (wl m):=vM m m
theorem rb:∀ (f m:Nat),m≤f→gz (f+1) m=gz f m
 | 0,m,h=>by (have:m=0:=by omega);subst this;rfl
 | f+1,m,h=>by
  by_cases h0:m=0
  ·simp [gz,h0]
  have:=rb f (m / 4294967296) (by omega)
  have e1:gz (f+1+1) m=m % 4294967296 :: gz (f+1) (m / 4294967296):=if_neg h0
  have e2:gz (f+1) m=m % 4294967296 :: gz f (m / 4294967296):=if_neg h0
  rw [e1,e2,this]
theorem AZ:∀ (f m:Nat),m≤f→gz f m=wl m:=by
 intro f m h
 obtain ⟨k,rfl⟩:=Nat.le.dest h
 induction k with
 | zero=>rfl
 | succ k ih=>rw [← Nat.add_assoc,rb _ _ (by omega)];exact ih (by omega)
theorem vJ:wl 0=[]:=rfl
theorem yS {m:Nat} (h:0 < m):wl m=m % 4294967296 :: wl (m / 4294967296):=by
 unfold wl
 obtain ⟨k,rfl⟩:∃ k,m=k+1:=⟨m - 1,by omega⟩
 rw [gz,if_neg (by omega)]
 congr 1
 exact AZ _ _ (by omega)
theorem EK {x r:Nat} (hx:x < 4294967296) (h:0 < x+4294967296*r):wl (x+4294967296*r)=x :: wl r:=by
 rw [yS h]
 rw [show (x+4294967296*r) % 4294967296=x by omega,show (x+4294967296*r) / 4294967296=r by omega]
theorem fS (l r:List Nat):wv (l ++ r)=wv l+4294967296 ^ l.length*wv r:=by
 induction l with
 | nil=>simp [wv]
 | cons x l ih =>
  simp only [List.cons_append,wv,ih,List.length_cons,Nat.pow_succ,Nat.mul_add]
  rw [show 4294967296 ^ l.length*4294967296*wv r=4294967296*(4294967296 ^ l.length*wv r) by
   rw [Nat.mul_comm (4294967296 ^ l.length) 4294967296,Nat.mul_assoc]]
  omega
theorem fq {l:List Nat} (h:okW l):wv l < 4294967296 ^ l.length:=by
 induction l with
 | nil=>simp [wv]
 | cons x l ih =>
  have h1:=h x (by simp)
  have h2:=ih fun y hy=>h y (by simp [hy])
  simp only [wv,List.length_cons,Nat.pow_succ]
  have:4294967296*(wv l+1)≤4294967296*4294967296 ^ l.length:=Nat.mul_le_mul_left _ h2
  rw [Nat.mul_comm (4294967296 ^ l.length)]
  omega
theorem jU:∀ (l:List Nat),okW l→∃ k,l=wl (wv l) ++ List.replicate k 0
 | [],_=>⟨0,rfl⟩
 | x :: l,h=>by
  obtain ⟨k,hk⟩:=jU l fun y hy=>h y (by simp [hy])
  have hx:=h x (by simp)
  by_cases h0:wv (x :: l)=0
  ·simp only [wv] at h0
   have hx0:x=0:=by omega
   have hl0:wv l=0:=by omega
   rw [hl0] at hk
   refine ⟨k+1,?_⟩
   simp only [wv,hx0,hl0,vJ,List.nil_append,Nat.mul_zero,Nat.add_zero] at hk ⊢
   rw [List.replicate_succ,← hk]
  refine ⟨k,?_⟩
  simp only [wv] at h0 ⊢
  rw [EK hx (by omega),List.cons_append,← hk]
theorem qg {m:Nat} (h:wl m≠[]):(wl m).getLast h≠0:=by
 intro h0
 have h1:=jU (wl m) (bG m)
 have h2:=List.dropLast_concat_getLast h
 rw [h0] at h2
 have h3:wv (wl m).dropLast=m:=by
  have:=bH m
  rw [← h2,fS] at this
  simpa [wv] using this
 have h4:okW (wl m).dropLast:=fun x hx=>bG m x (List.dropLast_subset _ hx)
 obtain ⟨k,hk⟩:=jU _ h4
 rw [h3] at hk
 have:=congrArg List.length hk
 rw [List.length_dropLast,List.length_append] at this
 have hp:0 < (wl m).length:=List.length_pos_iff.2 h
 omega
theorem K6 {l:List Nat} (h:okW l) (hl:∀ h:l≠[],l.getLast h≠0):wl (wv l)=l:=by
 obtain ⟨k,hk⟩:=jU l h
 cases k with
 | zero=>simpa using hk.symm
 | succ k =>
  exfalso
  have hne:l≠[]:=by rw [hk];simp
  apply hl hne
  have:l.getLast?=some 0:=by rw [hk,List.replicate_succ'];simp [← List.append_assoc]
  rw [List.getLast?_eq_some_getLast hne] at this
  exact Option.some.inj this
theorem dx (m:Nat):m < 4294967296 ^ (wl m).length:=by
 have:=fq (bG m)
 rwa [bH] at this
theorem fT {m k:Nat} (h:m < 4294967296 ^ k):(wl m).length≤k:=by
 rcases Nat.lt_or_ge k (wl m).length with hlt | hge
 ·exfalso
  have hne:wl m≠[]:=by intro h0;rw [h0] at hlt;simp at hlt
  have h2:=List.dropLast_concat_getLast hne
  have h3:=bH m
  rw [← h2,fS] at h3
  simp only [List.length_dropLast,wv,Nat.mul_zero,Nat.add_zero] at h3
  have h4:=qg hne
  have h5:4294967296 ^ k≤4294967296 ^ ((wl m).length - 1):=Nat.pow_le_pow_right (by omega) (by omega)
  have h6:4294967296 ^ ((wl m).length - 1)≤4294967296 ^ ((wl m).length - 1)*(wl m).getLast hne:=Nat.le_mul_of_pos_right _ (by omega)
  omega
 exact hge
theorem fH {m n:Nat} (h:m≤n):(wl m).length≤(wl n).length:=fT (Nat.lt_of_le_of_lt h (dx n))
def W (ws:List Nat):DV:=.sl ws.length (ws.map w32)
def nt (m:Nat):DV:=W (wl m)
theorem K5 (z:Int):zm z=nt z.natAbs:=rfl
def L (n:Nat) (z:Int):Prop:=z.natAbs < 2 ^ 2 ^ n
theorem L.mono {n m:Nat} {z:Int} (h:L n z) (k:n≤m):L m z:=Nat.lt_of_lt_of_le h (Nat.pow_le_pow_right (by omega) (Nat.pow_le_pow_right (by omega) k))
theorem mG (n:Nat):2 ^ 2 ^ (n+1)=2 ^ 2 ^ n*2 ^ 2 ^ n:=by rw [← Nat.pow_add,Nat.pow_succ];congr 1;omega
theorem yW (n:Nat):2≤2 ^ 2 ^ n:=by
 have h:1≤2 ^ n:=Nat.one_le_two_pow
 calc 2=2 ^ 1:=rfl
  _≤2 ^ 2 ^ n:=Nat.pow_le_pow_right (by omega) h
theorem L.mul {n:Nat} {a b:Int} (h:L n a) (k:L n b):L (n+1) (a*b):=by
 unfold L at *
 rw [Int.natAbs_mul,mG]
 exact Nat.mul_lt_mul'' h k
theorem L.add {n:Nat} {a b:Int} (h:L n a) (k:L n b):L (n+1) (a+b):=by
 unfold L at *
 have h1:=Int.natAbs_add_le a b
 have h2:=yW n
 have h3:2*2 ^ 2 ^ n≤2 ^ 2 ^ n*2 ^ 2 ^ n:=Nat.mul_le_mul_right _ h2
 rw [mG];omega
theorem L.neg {n:Nat} {a:Int} (h:L n a):L n (-a):=by unfold L at *;rwa [Int.natAbs_neg]
theorem L.sub {n:Nat} {a b:Int} (h:L n a) (k:L n b):L (n+1) (a - b):=by rw [Int.sub_eq_add_neg];exact h.add k.neg
theorem L.of_le {n:Nat} {a b:Int} (h:L n b) (k:a.natAbs≤b.natAbs):L n a:=Nat.lt_of_le_of_lt k h
theorem sT {n:Nat} {z:Int} (h:L (n+5) z):(wl z.natAbs).length≤2 ^ n:=by
 apply fT
 unfold L at h
 have e:2 ^ 2 ^ (n+5)=4294967296 ^ 2 ^ n:=by
  rw [show (4294967296:Nat)=2 ^ 32 by rfl,← Nat.pow_mul]
  congr 1
  rw [Nat.pow_add];omega
 rwa [e] at h
end
section
open Go Go.RowKit
theorem jw {P:Program} {B:Bool} {N np:Nat} {Q:Exit→St→Prop} {s:St} {c:Code} {t n:Nat} {dv:DV} {xs:List DV} (ht:s.regs t=.p (.c dv)) (hd:nq dv=some (n,xs)) (h:n≤140737488355328→AWp P B N np c Q s):AWp P B N np c Q s:=by
 intro ro hB C hh r a w hnp hc
 have e:=hc.rg t
 rw [ht] at e
 have e2:=gS hd e
 simp only [DRep] at e2
 obtain ⟨_,_,_,_,h3,_⟩:=e2
 exact h h3 ro hB C hh r a w hnp hc
theorem gB {ws:List Nat} (h:0 < ws.length):ws.map w32≠[]:=by
 cases ws with
 | nil=>simp at h
 | cons x l=>simp
theorem kN {ws:List Nat} {n:Nat} (h:n < ws.length):((ws.map w32).drop (n*1))[0]?=some (w32 (ws.getD n 0)):=by
 rw [List.getElem?_drop,Nat.mul_one,Nat.add_zero,List.getElem?_map,List.getElem?_eq_getElem h,List.getD_eq_getElem?_getD,List.getElem?_eq_getElem h];rfl
theorem dw {ws:List Nat} {n:Nat} (h:n < ws.length):(ws.map w32)[n*1]?=some (w32 (ws.getD n 0)):=by
 rw [Nat.mul_one,List.getElem?_map,List.getElem?_eq_getElem h,List.getD_eq_getElem?_getD,List.getElem?_eq_getElem h];rfl
theorem KZ {ws:List Nat} {k:Nat} (h:k≤ws.length):DV.sl k ((ws.map w32).take (k*1))=W (ws.take k):=by
 unfold W
 rw [Nat.mul_one,← List.map_take,List.length_take,Nat.min_eq_left h]
theorem okW.take {ws:List Nat} (h:okW ws) (k:Nat):okW (ws.take k):=fun x hx=>h x (List.mem_of_mem_take hx)
theorem okW.drop {ws:List Nat} (h:okW ws) (k:Nat):okW (ws.drop k):=fun x hx=>h x (List.mem_of_mem_drop hx)
theorem okW.getD {ws:List Nat} (h:okW ws) (k:Nat):ws.getD k 0 < 4294967296:=by
 rw [List.getD_eq_getElem?_getD]
 cases e:ws[k]? with
 | none=>simp
 | some x=>exact h x (List.mem_of_getElem? e)
theorem iX {ws:List Nat} {k:Nat} (h:k < ws.length):ws.take (k+1)=ws.take k ++ [ws.getD k 0]:=by
 rw [List.take_succ_eq_append_getElem h,List.getD_eq_getElem?_getD,List.getElem?_eq_getElem h];rfl
theorem dV {ws:List Nat} {k:Nat} (h:k < ws.length):ws.drop k=ws.getD k 0 :: ws.drop (k+1):=by
 rw [List.drop_eq_getElem_cons h,List.getD_eq_getElem?_getD,List.getElem?_eq_getElem h];rfl
theorem xl {ws:List Nat} (h:0 < ws.length):ws=ws.take (ws.length - 1) ++ [ws.getD (ws.length - 1) 0]:=by
 have:=iX (ws:=ws) (k:=ws.length - 1) (by omega)
 rw [← this,List.take_of_length_le (by omega)]
theorem sQ {ws:List Nat} (h:0 < ws.length) (h0:ws.getD (ws.length - 1) 0=0):wv (ws.take (ws.length - 1))=wv ws:=by
 conv=>rhs;rw [xl h]
 rw [fS,h0];simp [wv]
theorem pg {ws:List Nat} (hok:okW ws) (h0:ws.length=0∨ws.getD (ws.length - 1) 0≠0):wl (wv ws)=ws:=by
 apply K6 hok
 intro hne hl
 have hp:0 < ws.length:=List.length_pos_iff.2 hne
 rcases h0 with h0 | h0
 ·omega
 apply h0
 rw [List.getLast_eq_getElem] at hl
 rw [List.getD_eq_getElem?_getD,List.getElem?_eq_getElem (by omega)];simpa using hl
theorem sE {ws:List Nat} (hok:okW ws) (h0:ws.length=0∨ws.getD (ws.length - 1) 0≠0):W ws=nt (wv ws):=by unfold nt;rw [pg hok h0]
theorem yK (ws:List Nat):(ws.map w32).length=ws.length*1:=by simp
section ops
variable {P:Program} {tt:TT} (hT:dW P tt)
variable {dst:Option Nat} {ty:TypeId} {pos:String} {af:Array Edge} {gd:Option (Nat × Bool)} {d:Nat} {ρ:Operand→AV} {own:Own}
variable {T:TypeId} {i:TyI} {x y:Operand}
include hT in
theorem kU {e:Nat} {j:TyI} {k':IntKind} {hi:Int} {ws:List Nat} {yh:Operand} (ht:tt T=some i) (hs:i.sh=.sl e) (he:tt e=some j) (hj:j.size=1) (hx:ρ x=.p (.c (W ws))) (hh:ρ yh=.p (.c (.v (.int k' hi)))) (h0:0≤hi∧hi≤ws.length) :
  Eff P ⟨dst,.slice T x none (some yh) none,ty,pos,af,gd⟩ d ρ own (.p (.c (W (ws.take hi.toNat)))) [] none []:=by
 have:=xU (dst:=dst) (ty:=ty) (pos:=pos) (af:=af) (gd:=gd) (d:=d) (own:=own) hT ht hs he hx rfl hh (by rw [hj];exact yK ws) h0 rfl
 rw [hj,KZ (by omega)] at this
 exact this
end ops
theorem bS {a b:Int} (h:(a != b)=false):a=b:=by simpa [bne] using h
theorem bY {a b:Int} (h:(a != b)=true):a≠b:=by simpa [bne] using h
theorem bF {a b:Int} (h:(a == b)=false):a≠b:=by simpa using h
theorem bT {a b:Int} (h:(a == b)=true):a=b:=by simpa using h
theorem bX {b:Bool} (h:(!b)=true):b=false:=by simpa using h
theorem bU {b:Bool} (h:(!b)=false):b=true:=by simpa using h
end
section
open Go Go.RowKit
def WB (e:TypeId) (ws:List Nat):Blk:=⟨true,1,e,ws.map w32⟩
theorem FE (xs:List Nat):∀ (ws:List Nat),xs.length≤ws.length→spl 0 (xs.map w32) (ws.map w32)=(xs ++ ws.drop xs.length).map w32:=by
 induction xs with
 | nil=>intro ws _;cases ws <;> rfl
 | cons x xs ih =>
  intro ws h
  cases ws with
  | nil=>simp at h
  | cons w ws =>
   simp only [List.map_cons,spl,List.length_cons,List.drop_succ_cons,List.cons_append]
   rw [ih ws (by simpa using h)]
section ops
variable {P:Program} {tt:TT} (hT:dW P tt)
variable {dst:Option Nat} {ty:TypeId} {pos:String} {af:Array Edge} {gd:Option (Nat × Bool)} {d:Nat} {ρ:Operand→AV} {own:Own}
variable {T:TypeId} {i:TyI} {x y:Operand} {e:TypeId} {j:TyI}
include hT in
theorem eJ {k k':IntKind} {l:Int} (ht:tt T=some i) (hs:i.sh=.sl e) (he:tt e=some j) (hz:j.zero=[w32 0]) (hj:j.size=1) (hjb:Nat.ble j.bytes 4=true) (hx:ρ x=.p (.c (.v (.int k l)))) (hy:ρ y=.p (.c (.v (.int k' l)))) (h0:0≤l∧l≤70368744177664) :
  Eff P ⟨dst,.makeSlice T x y,ty,pos,af,gd⟩ d ρ own (.vec d) [] (some (WB e (List.replicate l.toNat 0))) []:=by
 have hjb':=bL0 hjb
 have hb:(j.bytes:Int)*l≤281474976710656:=by
  have:(j.bytes:Int)*l≤4*l:=Int.mul_le_mul_of_nonneg_right (by omega) h0.1
  omega
 have h:=Gz (dst:=dst) (ty:=ty) (pos:=pos) (af:=af) (gd:=gd) (d:=d) (own:=own) hT ht hs he hz hx hy h0.1 (by omega) hb
 rw [BI,hj] at h
 unfold WB
 rw [List.map_replicate]
 exact h
include hT in
theorem Ca {m:Nat} {ws xs:List Nat} {be:TypeId} (ht:tt T=some i) (hs:i.sh=.sl e) (he:tt e=some j) (hj:j.size=1) (hx:ρ x=.vec m) (hb:own m=some (WB be ws)) (hy:ρ y=.p (.c (W xs))) (hfit:xs.length≤ws.length) :
  Eff P ⟨dst,.call ⟨.builtin .copy,#[x,y],#[T,T]⟩,ty,pos,af,gd⟩ d ρ own (.p (.c (.v (.int .i64 xs.length)))) [(m,some (WB be (xs ++ ws.drop xs.length)))] none [m] :=
 GA (b:=WB be ws) hT ht hs he hx hb rfl hj.symm hy rfl (by rw [hj];exact yK xs) (by simpa [WB] using hfit) (FE xs ws hfit) (by rw [hj];rfl)
include hT in
theorem fD {m:Nat} {k:IntKind} {n:Int} {ws:List Nat} {be:TypeId} (ht:tt T=some i) (hs:i.sh=.sl e) (he:tt e=some j) (hj:j.size=1) (hx:ρ x=.vec m) (hb:own m=some (WB be ws)) (hy:ρ y=.p (.c (.v (.int k n)))) (hn:0≤n∧n < ws.length) :
  Eff P ⟨dst,.indexAddr T x y,ty,pos,af,gd⟩ d ρ own (.loc m n.toNat) [] none [m]:=by
 have h:=tX (dst:=dst) (ty:=ty) (pos:=pos) (af:=af) (gd:=gd) (d:=d) hT ht hs he hx hb rfl hj.symm hy ⟨hn.1,by simp only [WB,List.length_map];rw [hj];omega⟩ (by rw [hj];rfl)
 rw [hj,Nat.mul_one] at h
 exact h
include hT in
theorem B9 {m off:Nat} {ws:List Nat} {be:TypeId} (ht:tt T=some i) (hg:i.sh.agg=false) (hx:ρ x=.loc m off) (hb:own m=some (WB be ws)) (hn:off < ws.length) :
  Eff P ⟨dst,.load T x,ty,pos,af,gd⟩ d ρ own (.p (.c (w32 (ws.getD off 0)))) [] none [m] :=
 bC hT ht hg hx hb (by
  have:=dw hn
  rw [Nat.mul_one] at this
  exact this)
include hT in
theorem zF {m off v:Nat} {ws:List Nat} {be:TypeId} (ht:tt T=some i) (hj:i.size=1) (hx:ρ x=.loc m off) (hy:ρ y=.p (.c (w32 v))) (hb:own m=some (WB be ws)) (hn:off < ws.length) :
  Eff P ⟨dst,.store T x y,ty,pos,af,gd⟩ d ρ own .junk [(m,some (WB be (ws.set off v)))] none [m]:=by
 have h:=tV (dst:=dst) (ty:=ty) (pos:=pos) (af:=af) (gd:=gd) (d:=d) (b:=WB be ws) hT ht hx hy hb hj (by simpa [WB] using hn) rfl
 have e:(WB be ws).cs.set off (w32 v)=(ws.set off v).map w32:=by simp [WB,List.map_set]
 rw [e] at h
 exact h
include hT in
theorem ff {m:Nat} {ws:List Nat} {be:TypeId} (ht:tt T=some i) (hs:i.sh=.sl e) (hx:ρ x=.vec m) (hb:own m=some (WB be ws)):Eff P ⟨dst,.call ⟨.builtin .len,#[x],#[T]⟩,ty,pos,af,gd⟩ d ρ own (.p (.c (.v (.int .i64 (ws.length:Nat))))) [] none [m] :=
 xW hT ht hs hx hb rfl rfl (by simp [WB])
include hT in
theorem iK {m:Nat} {ws xs:List Nat} (ht:tt T=some i) (hs:i.sh=.sl e) (he:tt e=some j) (hj:j.size=1) (hjb:Nat.ble j.bytes 32=true) (hx:ρ x=.vec m) (hb:own m=some (WB e ws)) (hy:ρ y=.p (.c (W xs))) (hfit:ws.length+xs.length≤4398046511104) (hmd:m≠d) :
  Eff P ⟨dst,.call ⟨.builtin .append,#[x,y],#[T,T]⟩,ty,pos,af,gd⟩ d ρ own (.vec d) [(m,none)] (some (WB e (ws ++ xs))) [m]:=by
 have hl:(WB e ws).cs.length=ws.length:=by simp [WB]
 have h:=eY (dst:=dst) (ty:=ty) (pos:=pos) (af:=af) (gd:=gd) hT ht hs he hx hb rfl hj.symm rfl hy (by rfl) (by rw [hj];exact yK xs) (by rw [hj];exact hjb) (by rw [hl,hj];omega) (by rw [hj];rfl) hmd
 rw [hj] at h
 unfold WB
 rw [List.map_append]
 exact h
include hT in
theorem ji {n:Nat} {parts:Array (Nat × Operand)} {ws:List Nat} (ht:tt T=some i) (hs:i.sh=.sl e) (he:tt e=some j) (hj:j.size=1) (hf:gu ρ (fun k=>some (k*j.size,j.size)) (reps n j.zero) parts.toList=some (ws.map w32)) (hn:Nat.ble (n*j.size) 16777216=true) (hn2:Nat.ble n 16777216=true) :
  Eff P ⟨dst,.buildSlice T n parts,ty,pos,af,gd⟩ d ρ own (.vec d) [] (some (WB e ws)) []:=by
 have h:=dB (dst:=dst) (ty:=ty) (pos:=pos) (af:=af) (gd:=gd) (d:=d) (own:=own) hT ht hs he hf hn hn2
 rw [hj] at h
 exact h
end ops
section ghost
variable {P:Program} {B:Bool} {N np:Nat} {Q:Exit→St→Prop} {s:St} {c:Code}
theorem cJ {t m:Nat} {ws:List Nat} {be:TypeId} (ht:s.regs t=.vec m) (hb:s.own m=some (WB be ws)) (h:AWp P B N np c Q ⟨upd s.regs t (.p (.c (W ws))),upd s.own m none⟩):AWp P B N np c Q s:=by
 refine iT (n:=ws.length) ht hb rfl (by simp [WB]) (by simp [WB]) ?_
 exact h
theorem cy {ι:Type} {x y:Code} (I:ι→St) (F:ι→Prop) (h:AWp P B N np x (j7 (fun s'=>∃ i,F i∧Le s' (I i)) Q) s) (k:∀ i,F i→AWp P B N np y Q (I i)):AWp P B N np (.seq x y) Q s:=by
 refine ao (AWp.mono h ?_)
 intro e s' hq
 cases e with
 | normal =>
  obtain ⟨i,hF,hle⟩:=hq
  exact dq hle (k i hF)
 | _=>exact hq
end ghost
theorem cn (l:List Nat) (k:Nat):wv (l.take (k+1))=wv (l.take k)+4294967296 ^ k*l.getD k 0:=by
 by_cases h:k < l.length
 ·rw [iX h,fS,List.length_take,Nat.min_eq_left (by omega)];simp [wv]
 rw [List.take_of_length_le (by omega),List.take_of_length_le (by omega),List.getD_eq_getElem?_getD,List.getElem?_eq_none (by omega)];simp
theorem pZ {l r:List Nat}:(l ++ r).getD l.length 0=r.getD 0 0:=by
 rw [List.getD_eq_getElem?_getD,List.getD_eq_getElem?_getD,List.getElem?_append_right (Nat.le_refl _),Nat.sub_self]
theorem vZ {l:List Nat} {x v:Nat} {r:List Nat}:(l ++ x :: r).set l.length v=(l ++ [v]) ++ r:=by
 induction l with
 | nil=>rfl
 | cons a l ih=>simp only [List.cons_append,List.length_cons,List.set_cons_succ,ih]
theorem iU (l:List Nat) (v:Nat):wv (l ++ [v])=wv l+4294967296 ^ l.length*v:=by rw [fS];simp [wv]
theorem okW.snoc {l:List Nat} (h:okW l) {v:Nat} (hv:v < 4294967296):okW (l ++ [v]):=by
 intro x hx
 rcases List.mem_append.1 hx with hx | hx
 ·exact h x hx
 simp at hx;omega
theorem okW.app {l r:List Nat} (h:okW l) (k:okW r):okW (l ++ r):=by
 intro x hx
 rcases List.mem_append.1 hx with hx | hx
 ·exact h x hx
 exact k x hx
theorem okW.nil:okW []:=fun x hx=>by simp at hx
theorem okW.rep (n:Nat):okW (List.replicate n 0):=fun x hx=>by
 have:=List.eq_of_mem_replicate hx;omega
theorem lc (n:Nat):wv (List.replicate n 0)=0:=by
 induction n with
 | zero=>rfl
 | succ n ih=>simp [List.replicate_succ,wv,ih]
end
section
open Go Go.RowKit
def mF:IntKind→Bool
 | .u8 | .u16 | .u32 | .u64=>true
 | _=>false
theorem kg {k:IntKind} (hk:mF k=true) (n:Nat) (h:n < 2 ^ k.bits):k.wrap (n:Int)=n:=by
 have hs:k.signed=false:=by cases k <;> first | rfl | cases hk
 unfold IntKind.wrap
 simp only [hs,Bool.false_and,Bool.false_eq_true,if_false]
 rw [Int.emod_eq_of_lt (by omega)]
 have:((2 ^ k.bits:Nat):Int)=2 ^ k.bits:=by simp
 omega
theorem fL {w n:Nat} (h:n < 2 ^ w):(BitVec.ofInt w (n:Int)).toNat=n:=by
 rw [BitVec.ofInt_natCast,BitVec.toNat_ofNat,Nat.mod_eq_of_lt h]
theorem C6 {k:IntKind} (hk:mF k=true) {m n:Nat} (hm:m < 2 ^ k.bits) (hn:n < 2 ^ k.bits):bits .and k m n=((m &&& n:Nat):Int):=by
 unfold bits
 simp only [BitVec.toNat_and,fL hm,fL hn]
 exact kg hk _ (Nat.lt_of_le_of_lt Nat.and_le_left hm)
theorem n9 {k:IntKind} (hk:mF k=true) {m n:Nat} (hm:m < 2 ^ k.bits) (hn:n < 2 ^ k.bits):bits .or k m n=((m ||| n:Nat):Int):=by
 unfold bits
 simp only [BitVec.toNat_or,fL hm,fL hn]
 exact kg hk _ (Nat.or_lt_two_pow hm hn)
theorem vc {k:IntKind} (hk:mF k=true) {m n:Nat} (hm:m < 2 ^ k.bits) (hn:n < 2 ^ k.bits):bits .xor k m n=((m ^^^ n:Nat):Int):=by
 unfold bits
 simp only [BitVec.toNat_xor,fL hm,fL hn]
 exact kg hk _ (Nat.xor_lt_two_pow hm hn)
section ops
variable {P:Program}
variable {dst:Option Nat} {ty:TypeId} {pos:String} {af:Array Edge} {gd:Option (Nat × Bool)} {d:Nat} {ρ:Operand→AV} {own:Own}
variable {T yT:TypeId} {x y:Operand} {k k':IntKind} {m n:Nat} {c:Int}
theorem qA (hx:ρ x=.p (.c (.v (.int k m)))) (hy:ρ y=.p (.c (.v (.int k n)))) (hk:mF k=true) (hm:m < 2 ^ k.bits) (hn:n < 2 ^ k.bits):Eff P ⟨dst,.binOp .and T x y yT,ty,pos,af,gd⟩ d ρ own (.p (.c (.v (.int k ((m &&& n:Nat):Int))))) [] none [] :=
 JM hx hy (C6 hk hm hn)
theorem mQ (hx:ρ x=.p (.c (.v (.int k m)))) (hy:ρ y=.p (.c (.v (.int k n)))) (hk:mF k=true) (hm:m < 2 ^ k.bits) (hn:n < 2 ^ k.bits):Eff P ⟨dst,.binOp .or T x y yT,ty,pos,af,gd⟩ d ρ own (.p (.c (.v (.int k ((m ||| n:Nat):Int))))) [] none [] :=
 jX hx hy (n9 hk hm hn)
theorem Gy (hx:ρ x=.p (.c (.v (.int k m)))) (hy:ρ y=.p (.c (.v (.int k n)))) (hk:mF k=true) (hm:m < 2 ^ k.bits) (hn:n < 2 ^ k.bits):Eff P ⟨dst,.binOp .xor T x y yT,ty,pos,af,gd⟩ d ρ own (.p (.c (.v (.int k ((m ^^^ n:Nat):Int))))) [] none [] :=
 cY hx hy (fun w=>by rw [binOp_xor,intBits_xor,vc hk hm hn];rfl) rfl
theorem rN (hx:ρ x=.p (.c (.v (.int .u32 m)))) (hm:m < 4294967296):Eff P ⟨dst,.unOp .xor T x,ty,pos,af,gd⟩ d ρ own (.p (.c (.v (.int .u32 ((4294967295 - m:Nat):Int))))) [] none [] :=
 bE fun C h r own' a w hrep _ _=>by
  have h1:=hrep x (by simp [Op.operands])
  rw [hx] at h1
  refine ⟨_,?_,kv _ _ _ _⟩
  have e:bits .xor .u32 (4294967295:Nat) (m:Nat)=((4294967295 - m:Nat):Int):=by
   rw [vc rfl (by decide) hm]
   congr 1
   have:(4294967295:Nat)=2 ^ 32 - 1:=rfl
   rw [this,Nat.xor_comm]
   have h2:m < 2 ^ 32:=hm
   apply Nat.eq_of_testBit_eq
   intro i
   rw [Nat.testBit_xor,Nat.testBit_two_pow_sub_one,show 2 ^ 32 - 1 - m=2 ^ 32 - (m+1) by omega,Nat.testBit_two_pow_sub_succ h2]
   by_cases hi:i < 32
   ·simp [hi]
   have:m.testBit i=false:=Nat.testBit_lt_two_pow (Nat.lt_of_lt_of_le h2 (Nat.pow_le_pow_right (by omega) (by omega)))
   simp [hi,this]
  have hmx:(if IntKind.u32.signed=true then (-1:Int) else IntKind.u32.max)=((4294967295:Nat):Int):=by decide
  simp only [execOp,b7 h1,Op.unary,hmx,intBits_xor,e]
  rfl
theorem dh {j:Nat} (hx:ρ x=.p (.c (.v (.int k m)))) (hy:ρ y=.p (.c (.v (.int k' j)))) (hj:j≤k.bits):Eff P ⟨dst,.binOp .shr T x y yT,ty,pos,af,gd⟩ d ρ own (.p (.c (.v (.int k ((m / 2 ^ j:Nat):Int))))) [] none [] :=
 JL hx hy (by omega) (by
  rw [Int.toNat_natCast,Nat.min_eq_left hj,Int.fdiv_eq_ediv_of_nonneg _ (Int.pow_nonneg (by omega))]
  simp)
theorem gZ {j:Nat} (hx:ρ x=.p (.c (.v (.int k m)))) (hy:ρ y=.p (.c (.v (.int k' j)))) (hj:j≤k.bits) (hk:mF k=true):Eff P ⟨dst,.binOp .shl T x y yT,ty,pos,af,gd⟩ d ρ own (.p (.c (.v (.int k ((m*2 ^ j % 2 ^ k.bits:Nat):Int))))) [] none [] :=
 lq hx hy (by omega) (by
  rw [Int.toNat_natCast,Nat.min_eq_left hj]
  have hs:k.signed=false:=by cases k <;> first | rfl | cases hk
  unfold IntKind.wrap
  simp only [hs,Bool.false_and,Bool.false_eq_true,if_false]
  simp)
end ops
theorem yD (x y b:Nat) (hx:x < 4294967296) (hy:y < 4294967296) (hb:b < 2) :
  (((4294967295 - x) &&& y) ||| ((4294967295 - (x ^^^ y)) &&& ((x+8589934592 - y - b) % 4294967296))) / 2 ^ 31=if x < y+b then 1 else 0:=by
 have hd:∀ m n:Nat,(m &&& n) / 2 ^ 31=(m / 2 ^ 31) &&& (n / 2 ^ 31):=fun m n=>by
  rw [← Nat.shiftRight_eq_div_pow,← Nat.shiftRight_eq_div_pow,← Nat.shiftRight_eq_div_pow,Nat.shiftRight_and_distrib]
 have ho:∀ m n:Nat,(m ||| n) / 2 ^ 31=(m / 2 ^ 31) ||| (n / 2 ^ 31):=fun m n=>by
  rw [← Nat.shiftRight_eq_div_pow,← Nat.shiftRight_eq_div_pow,← Nat.shiftRight_eq_div_pow,Nat.shiftRight_or_distrib]
 have hxx:∀ m n:Nat,(m ^^^ n) / 2 ^ 31=(m / 2 ^ 31) ^^^ (n / 2 ^ 31):=fun m n=>by
  rw [← Nat.shiftRight_eq_div_pow,← Nat.shiftRight_eq_div_pow,← Nat.shiftRight_eq_div_pow,Nat.shiftRight_xor_distrib]
 have hxy:(x ^^^ y) < 4294967296:=Nat.xor_lt_two_pow (n:=32) hx hy
 have hX:=hxx x y
 rw [ho,hd,hd]
 generalize hq:x ^^^ y=q at *
 have e1:x / 2 ^ 31=0∨x / 2 ^ 31=1:=by omega
 have e2:y / 2 ^ 31=0∨y / 2 ^ 31=1:=by omega
 generalize hD:(x+8589934592 - y - b) % 4294967296=D
 have e3:D / 2 ^ 31=0∨D / 2 ^ 31=1:=by omega
 have e4:(4294967295 - x) / 2 ^ 31=1 - x / 2 ^ 31:=by omega
 have e5:(4294967295 - q) / 2 ^ 31=1 - q / 2 ^ 31:=by omega
 rw [e4,e5,hX]
 rcases e1 with e1 | e1 <;> rcases e2 with e2 | e2 <;> rcases e3 with e3 | e3 <;> rw [e1,e2,e3] <;> simp <;> omega
theorem iP {m:Nat} (h:m < 4294967296):m < 2 ^ IntKind.u32.bits:=h
theorem fZ {m:Nat} (h:m < 18446744073709551616):m < 2 ^ IntKind.u64.bits:=h
def bA (a b:Int):Int:=if a < b then -1 else if b < a then 1 else 0
end
section
open Go Go.RowKit
def bn (n:Nat):Nat:=if n=0 then 0 else n.log2+1
theorem eS {n:Nat}:n < 2 ^ bn n:=by
 unfold bn
 split
 ·subst_vars;exact Nat.two_pow_pos 0
 exact Nat.lt_log2_self
theorem gx {n k:Nat} (h:n < 2 ^ k):bn n≤k:=by
 unfold bn
 split
 ·omega
 rename_i h0
 have:=(Nat.log2_lt h0).2 h
 omega
theorem lF {n:Nat} (h:0 < n):2 ^ (bn n - 1)≤n:=by
 unfold bn
 rw [if_neg (by omega)]
 exact Nat.log2_self_le (by omega)
theorem ju {n k:Nat} (h:2 ^ k≤n):bn n=k+bn (n / 2 ^ k):=by
 have hp:0 < 2 ^ k:=Nat.two_pow_pos k
 have hq:0 < n / 2 ^ k:=Nat.div_pos h hp
 apply Nat.le_antisymm
 ·apply gx
  rw [Nat.pow_add,Nat.mul_comm]
  exact (Nat.div_lt_iff_lt_mul hp).1 eS
 have h1:=lF hq
 have h2:2 ^ (k+(bn (n / 2 ^ k) - 1))≤n:=by
  rw [Nat.pow_add]
  calc 2 ^ k*2 ^ (bn (n / 2 ^ k) - 1)≤2 ^ k*(n / 2 ^ k):=Nat.mul_le_mul_left _ h1
   _≤n:=Nat.mul_div_le n _
 have h3:2 ^ (k+(bn (n / 2 ^ k) - 1)) < 2 ^ bn n:=Nat.lt_of_le_of_lt h2 eS
 have h4:=(Nat.pow_lt_pow_iff_right (by omega:1 < 2)).1 h3
 have h5:0 < bn (n / 2 ^ k):=by
  rcases Nat.eq_zero_or_pos (bn (n / 2 ^ k)) with h0 | h0
  ·have:=eS (n:=n / 2 ^ k);rw [h0] at this;omega
  exact h0
 omega
theorem wA {hi lo:Nat} (h1:hi < 4294967296) (h2:lo < 4294967296):(hi*2 ^ 32 % 2 ^ IntKind.u64.bits ||| lo)=hi*4294967296+lo:=by
 have e:hi*2 ^ 32 % 2 ^ IntKind.u64.bits=2 ^ 32*hi:=by
  show hi*2 ^ 32 % 2 ^ 64=_
  omega
 rw [e,← Nat.two_pow_add_eq_or_of_lt (i:=32) (by omega)]
 omega
section ops
variable {P:Program} {tt:TT} (hT:dW P tt)
variable {dst:Option Nat} {ty:TypeId} {pos:String} {af:Array Edge} {gd:Option (Nat × Bool)} {d:Nat} {ρ:Operand→AV} {own:Own}
variable {T:TypeId} {i:TyI} {x y:Operand}
theorem TyOK.str (h:TyOK P T i) (hs:i.sh=.str):P.underlying T=some .string:=by
 obtain ⟨d,h1,h2⟩:=h.und
 rw [hs] at h2;rw [h1]
 cases d <;> simp only [nr] at h2 <;> simp_all
include hT in
theorem tY {k:IntKind} {n:Int} {s:ByteArray} {b:UInt8} (ht:tt T=some i) (hs:i.sh=.str) (hx:ρ x=.p (.c (.v (.string s)))) (hy:ρ y=.p (.c (.v (.int k n)))) (hn:0≤n) (hb:s[n.toNat]?=some b) :
  Eff P ⟨dst,.index T x y,ty,pos,af,gd⟩ d ρ own (.p (.c (.v (.int .u8 b.toNat)))) [] none [] :=
 bE fun C h r own' a w hrep hrd hw=>by
  have e1:=hrep x (by simp [Op.operands])
  have e2:=hrep y (by simp [Op.operands])
  rw [hx] at e1;rw [hy] at e2
  refine ⟨_,?_,kv _ _ _ _⟩
  simp only [execOp,b7 e1,b7 e2,Instr.index,asIntOf,Sem.run_bind,Sem.run_pure,Result.andThen_ok,run_underlying ((hT T i ht).str hs),hn,if_true,hb]
end ops
theorem nk {hi lo:Nat} (h1:hi < 4294967296) (h2:lo < 4294967296):bits .or .u64 ((hi*2 ^ 32 % 2 ^ IntKind.u64.bits:Nat):Int) (lo:Int)=((hi*4294967296+lo:Nat):Int):=by
 have h3:hi*2 ^ 32 % 2 ^ IntKind.u64.bits < 2 ^ IntKind.u64.bits:=Nat.mod_lt _ (Nat.two_pow_pos _)
 rw [n9 (k:=.u64) rfl h3 (fZ (by omega)),wA h1 h2]
theorem cZ {m:Nat} (h:m < 18446744073709551616):IntKind.u64.wrap (m:Int)=m:=kg rfl m (fZ h)
theorem kO {m:Nat} (h:m < 4294967296):IntKind.u32.wrap (m:Int)=m:=kg rfl m (iP h)
theorem aM {k:IntKind} {m n:Int} (h:m=n):Sub (.p (.c (.v (.int k m)))) (.p (.c (.v (.int k n)))):=aH (by rw [h])
theorem aT {m n:Bool} (h:m=n):Sub (.p (.c (.v (.bool m)))) (.p (.c (.v (.bool n)))):=aH (by rw [h])
theorem bR {m:Nat} (h:m < 256):bn m≤8:=gx (k:=8) h
end
end Go.AM
section
namespace Go.AM
open Go Go.RowKit
theorem eC (l:List Nat) (i:Nat) (h:i≤l.length):wv l=wv (l.take i)+4294967296 ^ i*wv (l.drop i):=by
 conv=>lhs;rw [← List.take_append_drop i l]
 rw [fS,List.length_take,Nat.min_eq_left h]
theorem w8 {a b:Int} (h:bA a b≠0):(a < b∧bA a b=-1)∨(b < a∧bA a b=1):=by
 unfold bA at *
 by_cases h1:a < b
 ·rw [if_pos h1] at *;exact .inl ⟨h1,rfl⟩
 rw [if_neg h1] at *
 by_cases h2:b < a
 ·rw [if_pos h2] at *;exact .inr ⟨h2,rfl⟩
 rw [if_neg h2] at h;exact absurd rfl h
theorem kd {a b:Int} (h:bA a b=0):a=b:=by
 unfold bA at h
 by_cases h1:a < b
 ·rw [if_pos h1] at h;cases h
 rw [if_neg h1] at h
 by_cases h2:b < a
 ·rw [if_pos h2] at h;cases h
 omega
theorem fN {a b:Int} (h:a < b):bA a b=-1:=if_pos h
theorem fO {a b:Int} (h:b < a):bA a b=1:=by unfold bA;rw [if_neg (by omega),if_pos h]
theorem ik (a:Int):bA a a=0:=by unfold bA;rw [if_neg (by omega),if_neg (by omega)]
theorem iO {m n:Nat} (h:(wl m).length < (wl n).length):m < n:=by
 rcases Nat.lt_or_ge m n with h1 | h1
 ·exact h1
 have:=fH h1;omega
theorem Hx {m n:Nat} (h:bA (wl m).length (wl n).length≠0):bA ((wl m).length:Nat) ((wl n).length:Nat)=bA m n:=by
 rcases w8 h with ⟨h1,h2⟩ | ⟨h1,h2⟩
 ·rw [h2,fN];have:=iO (m:=m) (n:=n) (by omega);omega
 rw [h2,fO];have:=iO (m:=n) (n:=m) (by omega);omega
theorem uX {a b:List Nat} (ha:okW a) (hb:okW b) (hl:a.length=b.length) {k:Nat} (hk:k < a.length) (he:a.drop (k+1)=b.drop (k+1)) (h:bA (a.getD k 0) (b.getD k 0)≠0) :
  bA ((a.getD k 0:Nat):Int) ((b.getD k 0:Nat):Int)=bA (wv a) (wv b):=by
 have e1:=eC a k (by omega)
 have e2:=eC b k (by omega)
 rw [dV hk,he] at e1
 rw [dV (by omega)] at e2
 simp only [wv] at e1 e2
 have l1:=fq (ha.take k)
 have l2:=fq (hb.take k)
 rw [List.length_take,Nat.min_eq_left (by omega)] at l1 l2
 generalize a.getD k 0=x at *
 generalize b.getD k 0=y at *
 generalize wv (b.drop (k+1))=d at *
 generalize 4294967296 ^ k=p at *
 have key:∀ (u v s t:Nat),s < p→t < p→u < v→s+p*(u+4294967296*d) < t+p*(v+4294967296*d):=by
  intro u v s t hs ht huv
  have:p*(u+4294967296*d+1)≤p*(v+4294967296*d):=Nat.mul_le_mul_left _ (by omega)
  rw [Nat.mul_add,Nat.mul_one] at this
  omega
 rcases w8 h with ⟨h1,h2⟩ | ⟨h1,h2⟩
 ·rw [h2,fN]
  have:=key x y _ _ l1 l2 (by omega)
  omega
 rw [h2,fO]
 have:=key y x _ _ l2 l1 (by omega)
 omega
theorem AL {A b l _r:List Nat} {k c:Nat} (_hk:k < A.length) (hl:l.length=k) (hv:wv l+4294967296 ^ k*c=wv (A.take k)+wv (b.take k)) (s:Nat) (hs:s=A.getD k 0+b.getD k 0+c) :
  wv (l ++ [s % 4294967296])+4294967296 ^ (k+1)*(s / 4294967296)=wv (A.take (k+1))+wv (b.take (k+1)):=by
 rw [iU,hl,cn,cn,Nat.pow_succ]
 have e:4294967296 ^ k*(s % 4294967296)+4294967296 ^ k*4294967296*(s / 4294967296)=4294967296 ^ k*s:=by
  rw [Nat.mul_assoc,← Nat.mul_add];congr 1;omega
 rw [hs] at e ⊢
 simp only [Nat.mul_add] at e ⊢
 omega
theorem y4 {A b l:List Nat} {k c:Nat} (hl:l.length=k) (hc:c < 2) (hA:okW A) (hb:okW b) (hv:wv l+wv (b.take k)=wv (A.take k)+4294967296 ^ k*c) :
  wv (l ++ [(A.getD k 0+8589934592 - b.getD k 0 - c) % 4294967296])+wv (b.take (k+1))=wv (A.take (k+1))+4294967296 ^ (k+1)*(if A.getD k 0 < b.getD k 0+c then 1 else 0):=by
 rw [iU,hl,cn,cn,Nat.pow_succ]
 have h1:=hA.getD k
 have h2:=hb.getD k
 generalize A.getD k 0=x at *
 generalize b.getD k 0=y at *
 generalize 4294967296 ^ k=p at *
 by_cases h:x < y+c
 ·rw [if_pos h]
  have e:(x+8589934592 - y - c) % 4294967296=x+4294967296 - y - c:=by omega
  rw [e]
  have e2:p*(x+4294967296 - y - c)+p*y+p*c=p*x+p*4294967296:=by
   rw [← Nat.mul_add,← Nat.mul_add,← Nat.mul_add];congr 1;omega
  omega
 rw [if_neg h]
 have e:(x+8589934592 - y - c) % 4294967296=x - y - c:=by omega
 rw [e]
 have e2:p*(x - y - c)+p*y+p*c=p*x:=by
  rw [← Nat.mul_add,← Nat.mul_add];congr 1;omega
 omega
end Go.AM
namespace Go.AM
open Go Go.RowKit
section ops
variable {P:Program} {tt:TT} (hT:dW P tt)
variable {dst:Option Nat} {ty:TypeId} {pos:String} {af:Array Edge} {gd:Option (Nat × Bool)} {d:Nat} {ρ:Operand→AV} {own:Own}
variable {T:TypeId} {i:TyI} {x y:Operand} {e:TypeId} {j:TyI}
include hT in
theorem dy {m off v:Nat} {ws:List Nat} {be:TypeId} (ht:tt T=some i) (hg:i.sh.agg=false) (hx:ρ x=.loc m off) (hb:own m=some (WB be ws)) (hn:off < ws.length) (hv:ws.getD off 0=v) :
  Eff P ⟨dst,.load T x,ty,pos,af,gd⟩ d ρ own (.p (.c (w32 v))) [] none [m]:=by
 subst hv;exact B9 hT ht hg hx hb hn
include hT in
theorem cw {m off v:Nat} {ws ws':List Nat} {be:TypeId} (ht:tt T=some i) (hj:i.size=1) (hx:ρ x=.loc m off) (hy:ρ y=.p (.c (w32 v))) (hb:own m=some (WB be ws)) (hn:off < ws.length) (hs:ws.set off v=ws') :
  Eff P ⟨dst,.store T x y,ty,pos,af,gd⟩ d ρ own .junk [(m,some (WB be ws'))] none [m]:=by
 subst hs;exact zF hT ht hj hx hy hb hn
include hT in
theorem mR {m:Nat} {ws xs ws':List Nat} {be:TypeId} (ht:tt T=some i) (hs:i.sh=.sl e) (he:tt e=some j) (hj:j.size=1) (hx:ρ x=.vec m) (hb:own m=some (WB be ws)) (hy:ρ y=.p (.c (W xs))) (hfit:xs.length≤ws.length) (hw:xs ++ ws.drop xs.length=ws') :
  Eff P ⟨dst,.call ⟨.builtin .copy,#[x,y],#[T,T]⟩,ty,pos,af,gd⟩ d ρ own (.p (.c (.v (.int .i64 xs.length)))) [(m,some (WB be ws'))] none [m]:=by
 subst hw;exact Ca hT ht hs he hj hx hb hy hfit
end ops
theorem BJ (n:Nat):(List.replicate ((n:Int)+1).toNat 0).drop n=[0]:=by
 rw [show ((n:Int)+1).toNat=n+1 by omega,List.drop_replicate,show n+1 - n=1 by omega];rfl
theorem BL (n:Nat):(List.replicate ((n:Nat):Int).toNat 0).drop n=[]:=by
 rw [Int.toNat_natCast,List.drop_replicate,Nat.sub_self];rfl
theorem qO {l:List Nat} {k:Nat} (h:l.length≤k):l.getD k 0=0:=by
 rw [List.getD_eq_getElem?_getD,List.getElem?_eq_none h];rfl
theorem qG {l A:List Nat} (h:l.length < A.length):(l ++ A.drop l.length).getD l.length 0=A.getD l.length 0:=by
 rw [pZ,dV h];rfl
theorem qE {l A:List Nat} {v:Nat} (h:l.length < A.length):(l ++ A.drop l.length).set l.length v=(l ++ [v]) ++ A.drop (l ++ [v]).length:=by
 rw [dV h,vZ];simp
theorem qF {l A:List Nat} (h:l.length≤A.length):(l ++ A.drop l.length).length=A.length:=by simp;omega
end Go.AM
namespace Go.AM
open Go Go.RowKit
theorem AP {a b l:List Nat} {c:Nat} (hl:l.length=(a ++ [0]).length) (hab:b.length≤a.length) (ha:okW a) (hb:okW b) (_ho:okW l)
  (hv:wv l+4294967296 ^ l.length*c=wv ((a ++ [0]).take l.length)+wv (b.take l.length)):wv (l ++ (a ++ [0]).drop l.length)=wv a+wv b:=by
 rw [hl,List.drop_length,List.append_nil]
 rw [hl,List.take_length,List.take_of_length_le (by simp;omega),iU] at hv
 simp only [Nat.mul_zero,Nat.add_zero,List.length_append,List.length_cons,List.length_nil,Nat.zero_add,Nat.pow_succ] at hv
 have h1:=fq ha
 have h2:=fq hb
 have h3:4294967296 ^ b.length≤4294967296 ^ a.length:=Nat.pow_le_pow_right (by omega) hab
 generalize 4294967296 ^ a.length=p at *
 generalize 4294967296 ^ b.length=q at *
 rcases Nat.eq_zero_or_pos c with h0 | h0
 ·rw [h0,Nat.mul_zero] at hv;omega
 have h4:p*4294967296≤p*4294967296*c:=Nat.le_mul_of_pos_right _ h0
 generalize p*4294967296*c=t at *
 omega
end Go.AM
namespace Go.AM
open Go Go.RowKit
theorem y5 {a b l:List Nat} {c:Nat} (hl:l.length=a.length) (hab:b.length≤a.length) (hle:wv b≤wv a) (ho:okW l)
  (hv:wv l+wv (b.take l.length)=wv (a.take l.length)+4294967296 ^ l.length*c):wv (l ++ a.drop l.length)=wv a - wv b:=by
 rw [hl,List.drop_length,List.append_nil]
 rw [hl,List.take_length,List.take_of_length_le hab] at hv
 have h1:=fq ho
 rw [hl] at h1
 generalize 4294967296 ^ a.length=p at *
 rcases Nat.eq_zero_or_pos c with h0 | h0
 ·subst h0;omega
 have:p*1≤p*c:=Nat.mul_le_mul_left _ h0
 omega
end Go.AM
end
namespace Go.AM
section
open Go Go.RowKit
theorem iB (o:List Nat) (j v:Nat) (h:j < o.length):wv (o.set j v)+4294967296 ^ j*o.getD j 0=wv o+4294967296 ^ j*v:=by
 induction o generalizing j with
 | nil=>simp at h
 | cons x o ih =>
  cases j with
  | zero=>simp [wv,List.getD_eq_getElem?_getD];omega
  | succ j =>
   have:=ih j (by simpa using h)
   simp only [List.set_cons_succ,wv,List.getD_eq_getElem?_getD,List.getElem?_cons_succ,Nat.pow_succ] at this ⊢
   have e1:4294967296 ^ j*4294967296*o[j]?.getD 0=4294967296*(4294967296 ^ j*o[j]?.getD 0):=by
    rw [Nat.mul_comm (4294967296 ^ j) 4294967296,Nat.mul_assoc]
   have e2:4294967296 ^ j*4294967296*v=4294967296*(4294967296 ^ j*v):=by
    rw [Nat.mul_comm (4294967296 ^ j) 4294967296,Nat.mul_assoc]
   rw [e1,e2];omega
theorem okW.set {o:List Nat} (h:okW o) {j v:Nat} (hv:v < 4294967296):okW (o.set j v):=by
 intro x hx
 rcases List.mem_or_eq_of_mem_set hx with hx | hx
 ·exact h x hx
 omega
theorem fz (o:List Nat) (j v k:Nat) (h:j < o.length):(o.set j v).getD k 0=if j=k then v else o.getD k 0:=by
 rw [List.getD_eq_getElem?_getD,List.getElem?_set]
 by_cases e:j=k
 ·rw [if_pos e,if_pos e,if_pos h];rfl
 rw [if_neg e,if_neg e,List.getD_eq_getElem?_getD]
theorem mb (n k:Nat):(List.replicate n 0).getD k 0=0:=by
 rw [List.getD_eq_getElem?_getD,List.getElem?_replicate]
 split <;> rfl
theorem rO {o b:List Nat} {x c S i k t:Nat} (hlen:i+k < o.length) (ht:t=x*b.getD k 0+o.getD (i+k) 0+c)
  (hv:wv o+4294967296 ^ (i+k)*c=S+4294967296 ^ i*(x*wv (b.take k))) :
  wv (o.set (i+k) (t % 4294967296))+4294967296 ^ (i+(k+1))*(t / 4294967296)=S+4294967296 ^ i*(x*wv (b.take (k+1))):=by
 have h1:=iB o (i+k) (t % 4294967296) hlen
 rw [cn,Nat.mul_add,Nat.mul_add,← Nat.add_assoc,← Nat.add_assoc,← hv,Nat.pow_succ]
 have e1:4294967296 ^ i*(x*(4294967296 ^ k*b.getD k 0))=4294967296 ^ (i+k)*(x*b.getD k 0):=by
  rw [Nat.pow_add,Nat.mul_assoc];congr 1;exact Nat.mul_left_comm _ _ _
 rw [e1]
 generalize o.getD (i+k) 0=y at *
 generalize x*b.getD k 0=z at *
 generalize 4294967296 ^ (i+k)=p at *
 have e2:p*4294967296*(t / 4294967296)+p*(t % 4294967296)=p*z+p*y+p*c:=by
  rw [Nat.mul_assoc,← Nat.mul_add,← Nat.mul_add,← Nat.mul_add];congr 1;omega
 omega
theorem rP {o o' a b:List Nat} {i c S:Nat} (hlen:i+b.length < o'.length) (hz:o'.getD (i+b.length) 0=0) (hS:S=wv o) (ho:wv o=wv (a.take i)*wv b)
  (hv:wv o'+4294967296 ^ (i+b.length)*c=S+4294967296 ^ i*(a.getD i 0*wv (b.take b.length))) :
  wv (o'.set (i+b.length) c)=wv (a.take (i+1))*wv b:=by
 have h1:=iB o' (i+b.length) c hlen
 rw [hz,Nat.mul_zero,Nat.add_zero] at h1
 rw [List.take_length] at hv
 rw [h1,hv,hS,ho,cn,Nat.add_mul,Nat.mul_assoc]
theorem y9 {o a:List Nat} {n i q s x:Nat} (hn:n=32*q+s) (hs:s < 32) (hlen:i+q+1 < o.length) (hx:x=a.getD i 0) (hlo:o.getD (i+q) 0 < 2 ^ s) (hz:o.getD (i+q+1) 0=0)
  (hv:wv o=wv (a.take i)*2 ^ n) :
  wv ((o.set (i+q) (o.getD (i+q) 0 ||| x*2 ^ s % 4294967296)).set (i+q+1) (x*2 ^ s / 4294967296))=wv (a.take (i+1))*2 ^ n:=by
 have hB:(4294967296:Nat)=2 ^ s*2 ^ (32 - s):=by rw [← Nat.pow_add,show s+(32 - s)=32 by omega]
 have hor:o.getD (i+q) 0 ||| x*2 ^ s % 4294967296=o.getD (i+q) 0+x*2 ^ s % 4294967296:=by
  have e:x*2 ^ s % 4294967296=2 ^ s*(x % 2 ^ (32 - s)):=by
   rw [hB,Nat.mul_comm x,Nat.mul_mod_mul_left]
  rw [e,Nat.or_comm,← Nat.two_pow_add_eq_or_of_lt hlo,Nat.add_comm]
 rw [hor]
 have h1:=iB o (i+q) (o.getD (i+q) 0+x*2 ^ s % 4294967296) (by omega)
 have h2:=iB (o.set (i+q) (o.getD (i+q) 0+x*2 ^ s % 4294967296)) (i+q+1) (x*2 ^ s / 4294967296) (by simp;omega)
 rw [fz _ _ _ _ (by omega),if_neg (by omega),hz,Nat.mul_zero,Nat.add_zero] at h2
 rw [cn,Nat.add_mul,← hv,← hx]
 rw [h2]
 have e3:4294967296 ^ i*x*2 ^ n=4294967296 ^ (i+q)*(x*2 ^ s):=by
  have:(2:Nat) ^ n=4294967296 ^ q*2 ^ s:=by rw [hn,Nat.pow_add,Nat.pow_mul]
  rw [this,Nat.pow_add,Nat.mul_assoc,Nat.mul_assoc];congr 1
  exact Nat.mul_left_comm _ _ _
 rw [e3,Nat.pow_succ]
 generalize x*2 ^ s=t at *
 generalize o.getD (i+q) 0=y at *
 generalize 4294967296 ^ (i+q)=p at *
 have e4:p*4294967296*(t / 4294967296)+p*(t % 4294967296)=p*t:=by
  rw [Nat.mul_assoc,← Nat.mul_add];congr 1;omega
 rw [Nat.mul_add] at h1
 omega
def iY (a:List Nat) (n i:Nat):Nat:=(a.getD i 0+4294967296*a.getD (i+1) 0) / 2 ^ n % 4294967296
theorem vU (n:Nat) (hn:n < 32):∀ (a:List Nat),okW a→wv ((List.range a.length).map (iY a n))=wv a / 2 ^ n
 | [],_=>by simp [wv]
 | x :: l,h=>by
  have ih:=vU n hn l fun y hy=>h y (by simp [hy])
  have hx:=h x (by simp)
  have hp:0 < 2 ^ n:=Nat.two_pow_pos n
  have hB:(4294967296:Nat)=2 ^ n*2 ^ (32 - n):=by rw [← Nat.pow_add,show n+(32 - n)=32 by omega]
  have e0:(List.range (x :: l).length).map (iY (x :: l) n)=iY (x :: l) n 0 :: (List.range l.length).map (iY l n):=by
   rw [List.length_cons,List.range_succ_eq_map,List.map_cons,List.map_map]
   congr 1
  rw [e0]
  simp only [wv]
  rw [ih]
  have hl:∃ M,wv l=l.getD 0 0+4294967296*M:=by
   cases l with
   | nil=>exact ⟨0,by simp [wv]⟩
   | cons y r=>exact ⟨wv r,by simp [wv]⟩
  obtain ⟨M,hM⟩:=hl
  have hs:iY (x :: l) n 0=(x+4294967296*l.getD 0 0) / 2 ^ n % 4294967296:=by
   unfold iY
   simp [List.getD_eq_getElem?_getD]
  rw [hs,hM]
  generalize l.getD 0 0=y
  generalize hu:(2:Nat) ^ n=u at *
  generalize hw:(2:Nat) ^ (32 - n)=w at *
  have hwp:0 < w:=by rw [← hw];exact Nat.two_pow_pos _
  have d1:∀ X Y:Nat,(X+4294967296*Y) / u=X / u+w*Y:=fun X Y=>by
   rw [hB,Nat.mul_assoc,Nat.add_mul_div_left _ _ hp]
  have hxu:x / u < w:=by
   rw [Nat.div_lt_iff_lt_mul hp,Nat.mul_comm,← hB];exact hx
  rw [d1 x y,d1 x (y+4294967296*M),d1 y M]
  have hy:y=u*(y / u)+y % u:=(Nat.div_add_mod y u).symm
  have hyu:y % u < u:=Nat.mod_lt _ hp
  have e1:w*y=4294967296*(y / u)+w*(y % u):=by
   conv=>lhs;rw [hy]
   rw [Nat.mul_add,hB,Nat.mul_comm u w,Nat.mul_assoc]
  have e2:w*(y % u)+w≤4294967296:=by
   rw [hB,Nat.mul_comm u w,← Nat.mul_succ];exact Nat.mul_le_mul_left _ hyu
  have e3:(x / u+w*y) % 4294967296=x / u+w*(y % u):=by
   rw [e1,show x / u+(4294967296*(y / u)+w*(y % u))=x / u+w*(y % u)+4294967296*(y / u) by omega,Nat.add_mul_mod_self_left]
   exact Nat.mod_eq_of_lt (by omega)
  rw [e3,Nat.mul_add 4294967296,Nat.mul_add w y,e1]
  have e4:w*(4294967296*M)=4294967296*(w*M):=Nat.mul_left_comm _ _ _
  omega
theorem uN {o:List Nat} {j v:Nat} (h:j < o.length):(o.set j v).drop j=v :: o.drop (j+1):=by
 have h2:j < (o.set j v).length:=by simpa using h
 rw [List.drop_eq_getElem_cons h2,List.getElem_set_self,List.drop_set_of_lt (by omega)]
theorem yw {a o:List Nat} {k r d:Nat} (hk:k < a.length) (ho:o.length=a.length) (hv:wv (a.drop (k+1))=d*wv (o.drop (k+1))+r) (_hd:0 < d) :
  wv (a.drop k)=d*wv ((o.set k ((r*4294967296+a.getD k 0) / d)).drop k)+(r*4294967296+a.getD k 0) % d:=by
 rw [dV hk,uN (by omega)]
 simp only [wv]
 rw [hv]
 have e:=Nat.div_add_mod (r*4294967296+a.getD k 0) d
 generalize (r*4294967296+a.getD k 0) / d=q at *
 generalize (r*4294967296+a.getD k 0) % d=m at *
 rw [Nat.mul_add d q,Nat.mul_left_comm d 4294967296]
 omega
theorem za {x s:Nat} (hx:x < 4294967296) (hs:s < 32):x*2 ^ s / 4294967296 < 4294967296:=by
 rw [Nat.div_lt_iff_lt_mul (by omega)]
 have h1:2 ^ s≤2 ^ 32:=Nat.pow_le_pow_right (by omega) (by omega)
 calc x*2 ^ s≤x*2 ^ 32:=Nat.mul_le_mul_left _ h1
  _ < 4294967296*4294967296:=by omega
theorem xq {x s:Nat} (hx:x < 4294967296) (hs:s < 32):IntKind.u64.wrap ((x:Int)*2 ^ (min ((s:Nat):Int).toNat IntKind.u64.bits))=((x*2 ^ s:Nat):Int):=by
 have h1:min ((s:Nat):Int).toNat IntKind.u64.bits=s:=by rw [Int.toNat_natCast];exact Nat.min_eq_left (by show s≤64;omega)
 rw [h1]
 have h2:=za hx hs
 have h3:x*2 ^ s < 18446744073709551616:=by
  rw [Nat.div_lt_iff_lt_mul (by omega)] at h2;omega
 have e:(x:Int)*2 ^ s=((x*2 ^ s:Nat):Int):=by simp
 rw [e,cZ h3]
theorem nj {hi lo:Nat} (h1:lo < 4294967296) (h2:hi < 4294967296):bits .or .u64 (lo:Int) ((hi*2 ^ 32 % 2 ^ IntKind.u64.bits:Nat):Int)=((lo+4294967296*hi:Nat):Int):=by
 have h3:hi*2 ^ 32 % 2 ^ IntKind.u64.bits < 2 ^ IntKind.u64.bits:=Nat.mod_lt _ (Nat.two_pow_pos _)
 rw [n9 (k:=.u64) rfl (fZ (by omega)) h3,Nat.or_comm,wA h2 h1]
 congr 1;omega
theorem IW (a:List Nat) (k:Nat):okW ((List.range a.length).map (iY a k)):=by
 intro x hx
 obtain ⟨j,_,rfl⟩:=List.mem_map.1 hx
 exact Nat.mod_lt _ (by omega)
theorem FG {a o:List Nat} {k:Nat} (hv:∀ j,j < a.length→o.getD j 0=iY a k j) (hl:o.length=a.length):o=(List.range a.length).map (iY a k):=by
 apply List.ext_getElem
 ·simp [hl]
 intro j h1 h2
 have:=hv j (by omega)
 rw [List.getD_eq_getElem?_getD,List.getElem?_eq_getElem h1] at this
 simpa using this
section ops
variable {P:Program} {tt:TT} (hT:dW P tt)
variable {dst:Option Nat} {ty:TypeId} {pos:String} {af:Array Edge} {gd:Option (Nat × Bool)} {d:Nat} {ρ:Operand→AV} {own:Own}
variable {T:TypeId} {i:TyI} {x y:Operand} {e:TypeId} {j:TyI}
include hT in
theorem en {k:IntKind} {n:Nat} {ws:List Nat} (ht:tt T=some i) (hs:i.sh=.sl e) (he:tt e=some j) (hj:j.size=1) (hx:ρ x=.p (.c (W ws))) (hy:ρ y=.p (.c (.v (.int k (n:Nat))))) (hn:n < ws.length) :
  Eff P ⟨dst,.indexAddr T x y,ty,pos,af,gd⟩ d ρ own (.ip ((ws.map w32).drop (n*1))) [] none []:=by
 have h:=b6 (dst:=dst) (ty:=ty) (pos:=pos) (af:=af) (gd:=gd) (d:=d) (own:=own) hT ht hs he hx rfl hy (by omega) (gB (by omega))
 rw [hj,Int.toNat_natCast] at h
 exact h
include hT in
theorem gr {m:Nat} {k:IntKind} {n:Nat} {ws:List Nat} {be:TypeId} (ht:tt T=some i) (hs:i.sh=.sl e) (he:tt e=some j) (hj:j.size=1) (hx:ρ x=.vec m) (hb:own m=some (WB be ws)) (hy:ρ y=.p (.c (.v (.int k (n:Nat))))) (hn:n < ws.length) :
  Eff P ⟨dst,.indexAddr T x y,ty,pos,af,gd⟩ d ρ own (.loc m n) [] none [m]:=by
 have h:=fD (dst:=dst) (ty:=ty) (pos:=pos) (af:=af) (gd:=gd) (d:=d) hT ht hs he hj hx hb hy (by omega)
 rw [Int.toNat_natCast] at h
 exact h
end ops
def sg (neg:Bool) (m:Nat):Int:=if neg then -(m:Int) else m
section zip
variable {P:Program} {N np:Nat} {ops:Array Oper} {draw:Bool} {os:List Oper} {s:St} {acc:List Io} {K:St→Prop}
variable {op:Op} {ty:TypeId} {pos:String} {af:Array Edge} {t:Nat}
theorem ab {v:AV} {rd:List Nat} (he:Eff P ⟨some t,op,ty,pos,af,none⟩ t (ev s.regs) s.own v [] none rd)
  (hr:RK P N np ops draw os ⟨upd s.regs t v,s.own⟩ (acc ++ [⟨men v ++ [],[],rd,false⟩]) K):RK P N np ops draw (⟨some t,op,ty,pos,af,none⟩ :: os) s acc K:=bB ai he hr
theorem ak {x:Operand} {v:DV} (hx:ev s.regs x=AV.p (.c v))
  (hr:RK P N np ops draw os ⟨upd s.regs t (.p (.c v)),s.own⟩ (acc ++ [⟨men (.p (.c v)) ++ [],[],[],false⟩]) K):RK P N np ops draw (⟨some t,.move x,ty,pos,af,none⟩ :: os) s acc K:=bB ai (aB hx) hr
theorem aj {x:Operand} {v:DV} (hx:ev s.regs x=AV.p (.c v))
  (hr:RK P N np ops draw os ⟨upd s.regs t (.p (.c v)),s.own⟩ (acc ++ [⟨men (.p (.c v)) ++ [],[],[],false⟩]) K):RK P N np ops draw (⟨some t,.assign x,ty,pos,af,none⟩ :: os) s acc K:=bB ai (a7 hx) hr
theorem ag (hK:K s) (h:(yC np (dO ops.toList) (fl ops ops.toList acc) && (!draw || u6 ops.toList (fl ops ops.toList acc)) && yB N ops.toList)=true:=by kernel_rfl) :
  RK P N np ops draw [] s acc K:=RK.done h hK
section
variable {tt:TT} (hT:dW P tt) {T:TypeId} {i:TyI} {x y:Operand} {m off:Nat} {b:Blk} {rest:List DV}
include hT
theorem MQ {c1 c2:DV} (ht:tt T=some i) (hg:i.sh.agg=true) (hx:ev s.regs x=.loc m off) (hb:s.own m=some b) (hcs:b.cs.drop off=[c1,c2] ++ rest) (hl:[c1,c2].length=i.size)
  (hr:RK P N np ops draw os ⟨upd s.regs t (.p (.a [c1,c2])),s.own⟩ (acc ++ [⟨men (.p (.a [c1,c2])) ++ [],[],[m],false⟩]) K):RK P N np ops draw (⟨some t,.load T x,ty,pos,af,none⟩ :: os) s acc K :=
 bB ai (aF hT ht hg hx hb hcs hl) hr
theorem br {c1 c2 c3 c4 c5 c6:DV} (ht:tt T=some i) (hg:i.sh.agg=true) (hx:ev s.regs x=.loc m off) (hb:s.own m=some b) (hcs:b.cs.drop off=[c1,c2,c3,c4,c5,c6] ++ rest) (hl:[c1,c2,c3,c4,c5,c6].length=i.size)
  (hr:RK P N np ops draw os ⟨upd s.regs t (.p (.a [c1,c2,c3,c4,c5,c6])),s.own⟩ (acc ++ [⟨men (.p (.a [c1,c2,c3,c4,c5,c6])) ++ [],[],[m],false⟩]) K):RK P N np ops draw (⟨some t,.load T x,ty,pos,af,none⟩ :: os) s acc K :=
 bB ai (aF hT ht hg hx hb hcs hl) hr
theorem NO {v:PV} {cs:List DV} (ht:tt T=some i) (hx:ev s.regs x=.loc m off) (hy:ev s.regs y=.p v) (hb:s.own m=some b) (hl:(cB v).length=i.size) (hin:Nat.ble (off+(cB v).length) b.cs.length=true) (hcs:spl off (cB v) b.cs=cs)
  (hr:RK P N np ops draw os ⟨s.regs,upd s.own m (some ⟨b.vec,usz b,b.e,cs⟩)⟩ (acc ++ [⟨men .junk ++ kV [(m,some ⟨b.vec,usz b,b.e,cs⟩)] none,[m],[m],false⟩]) K):RK P N np ops draw (⟨none,.store T x y,ty,pos,af,none⟩ :: os) s acc K :=
 du ai (B8 hT ht hx hy hb hl hin hcs) hr
theorem NP {l:List (Nat × Nat)} {f fo ft:Nat} {j:TyI} (ht:tt T=some i) (hs:i.sh=.st l) (hf:l[f]?=some (fo,ft)) (hft:tt ft=some j) (hj:Nat.blt 0 j.size=true) (hx:ev s.regs x=.loc m off)
  (hr:RK P N np ops draw os ⟨upd s.regs t (.loc m (off+fo)),s.own⟩ (acc ++ [⟨men (.loc m (off+fo)) ++ [],[],[],false⟩]) K):RK P N np ops draw (⟨some t,.fieldAddr T x f,ty,pos,af,none⟩ :: os) s acc K :=
 bB ai (aP hT ht hs hf hft hj hx) hr
end
theorem ae {B:Bool} {Q:Exit→St→Prop} {id:Nat} {y:Code} (hP:P.follows .mixedOrders=true) (h:RK P N np ops draw ops.toList (c8 (dO ops.toList) s) [] (j7 (AWp P B N np y Q) Q .normal)):AWp P B N np (.seq (.region id ops draw) y) Q s :=
 ao (aw hP h)
end zip
section zip2
variable {P:Program} {N np:Nat} {ops:Array Oper} {draw:Bool} {os:List Oper} {s:St} {acc:List Io} {K:St→Prop}
variable {op:Op} {ty:TypeId} {pos:String} {af:Array Edge} {t:Nat}
theorem ay {v:AV} {rd:List Nat} {j t':Nat} {want c:Bool} (h3:c=want) (he:Eff P ⟨some t,op,ty,pos,af,some (j,want)⟩ t (ev s.regs) s.own v [] none rd)
    (hr:RK P N np ops draw os ⟨upd s.regs t v,s.own⟩ (acc ++ [⟨men v ++ [],[],rd,false⟩]) K) (h1:js ops j=some t':=by exact rfl) (h2:s.regs t'=.p (.c (.v (.bool c))):=by exact rfl):RK P N np ops draw (⟨some t,op,ty,pos,af,some (j,want)⟩ :: os) s acc K:=bB (bj h1 h2 h3) he hr
theorem aX {j t':Nat} {want c:Bool} (h3:c = !want)
    (hr:RK P N np ops draw os ⟨upd s.regs t (.t []),s.own⟩ (acc ++ [⟨[],[],[],false⟩]) K) (h1:js ops j=some t':=by exact rfl) (h2:s.regs t'=.p (.c (.v (.bool c))):=by exact rfl):RK P N np ops draw (⟨some t,op,ty,pos,af,some (j,want)⟩ :: os) s acc K:=lJ (ga h1 h2 h3) hr
theorem fk {j t':Nat} {want:Bool}
    (hr:RK P N np ops draw os ⟨upd s.regs t (.t []),s.own⟩ (acc ++ [⟨[],[],[],false⟩]) K) (h1:js ops j=some t':=by exact rfl) (h2:s.regs t'=.t []:=by exact rfl):RK P N np ops draw (⟨some t,op,ty,pos,af,some (j,want)⟩ :: os) s acc K:=lJ (Cv h1 h2) hr
theorem a8 {tt:TT} (hT:dW P tt) {T:TypeId} {i:TyI} {x:Operand} {m off:Nat} {b:Blk} {dv:DV} (ht:tt T=some i) (hg:i.sh.agg=false) (hx:ev s.regs x=.loc m off) (hb:s.own m=some b)
    (hr:RK P N np ops draw os ⟨upd s.regs t (.p (.c dv)),s.own⟩ (acc ++ [⟨men (.p (.c dv)) ++ [],[],[m],false⟩]) K) (hcs:b.cs[off]?=some dv:=by first | rfl | exact dw (by omega)):RK P N np ops draw (⟨some t,.load T x,ty,pos,af,none⟩ :: os) s acc K :=
  bB ai (bC hT ht hg hx hb hcs) hr
theorem bv {x y:Operand} {T yT:TypeId} {k:IntKind} {m n c:Int} (hx:ev s.regs x=.p (.c (.v (.int k m)))) (hy:ev s.regs y=.p (.c (.v (.int k n))))
    (hr:RK P N np ops draw os ⟨upd s.regs t (.p (.c (.v (.int k c)))),s.own⟩ (acc ++ [⟨men (.p (.c (.v (.int k c)))) ++ [],[],[],false⟩]) K) (hc:k.wrap (m+n)=c:=by first | exact IntWalk.i64_in _ (by omega) | rfl):RK P N np ops draw (⟨some t,.binOp .add T x y yT,ty,pos,af,none⟩ :: os) s acc K :=
  bB ai (bL hx hy hc) hr
theorem aO {f:FuncId} {fn:Func} {c:Code} {args:List AV} {res:AV} (hf:P.funcs[f]?=some fn) (hb:fn.body=some c) (hN:fn.ntmps=N) (hna:Nat.ble args.length N=true) (hres:men res=[]) (h:AWp P false N 0 c (mq P fn res O) ⟨fun t=>args.getD t .junk,O⟩)
    (hnm:(fn.name == "runtime.NumGoroutine")=false:=by kernel_rfl):CallM P f args O res O :=
  mn (np:=0) hf hnm hb hN (Nat.le_of_ble_eq_true hna) (fun m h=>absurd rfl h) (fun m h=>absurd rfl h) hres h
theorem E1 {fn:Func} {t:Nat} {pv:PV} {res:AV} (hres:fn.results=#[.tmp t]) (h:s.regs t=.p pv) (hs:Sub (.p pv) res):mq P fn res O .ret s :=
  bW hres (.inr rfl) (bO h) hs bu
theorem E11 {fn:Func} {t u:Nat} {pv pu:PV} {res:AV} (hres:fn.results=#[.tmp t,.tmp u]) (h:s.regs t=.p pv) (h2:s.regs u=.p pu) (hs:Sub (.t [pv,pu]) res):mq P fn res O .ret s :=
  cz hres (.inr rfl) (bO h) (bO h2) hs bu
theorem E2 {tt:TT} (hT:dW P tt) {fn:Func} {t m off:Nat} {T:TypeId} {i:TyI} {b:Blk} {c1 c2:DV} {rest:List DV} {res:AV} (hres:fn.results=#[.cell t T]) (ht:tt T=some i) (hg:i.sh.agg=true) (h:s.regs t=.loc m off) (hb:s.own m=some b) (hcs:b.cs.drop off=[c1,c2] ++ rest) (hl:[c1,c2].length=i.size) (hs:Sub (.p (.a [c1,c2])) res):mq P fn res O .ret s :=
  bW hres (.inr rfl) (aS hT ht hg h hb hcs hl) hs bu
theorem aI {tt:TT} (hT:dW P tt) {T:TypeId} {i:TyI} {x y:Operand} {m off:Nat} {b:Blk} {v:PV} {cs:List DV} (h:(tt T,ev s.regs x,ev s.regs y,s.own m,(cB v).length,Nat.ble (off+(cB v).length) b.cs.length,spl off (cB v) b.cs)=(some i,.loc m off,.p v,some b,i.size,true,cs))
    (hr:RK P N np ops draw os ⟨s.regs,upd s.own m (some ⟨b.vec,usz b,b.e,cs⟩)⟩ (acc ++ [⟨men .junk ++ kV [(m,some ⟨b.vec,usz b,b.e,cs⟩)] none,[m],[m],false⟩]) K):RK P N np ops draw (⟨none,.store T x y,ty,pos,af,none⟩ :: os) s acc K:=by
  injection h with h1 h;injection h with h2 h;injection h with h3 h;injection h with h4 h;injection h with h5 h;injection h with h6 h7
  exact NO hT h1 h2 h3 h4 h5 h6 h7 hr
theorem av {tt:TT} (hT:dW P tt) {T:TypeId} {i:TyI} {x:Operand} {m off:Nat} {b:Blk} {rest:List DV} {c1 c2:DV} (h:(tt T,i.sh.agg,ev s.regs x,s.own m,b.cs.drop off,[c1,c2].length)=(some i,true,.loc m off,some b,[c1,c2] ++ rest,i.size))
    (hr:RK P N np ops draw os ⟨upd s.regs t (.p (.a [c1,c2])),s.own⟩ (acc ++ [⟨men (.p (.a [c1,c2])) ++ [],[],[m],false⟩]) K):RK P N np ops draw (⟨some t,.load T x,ty,pos,af,none⟩ :: os) s acc K:=by
  injection h with h1 h;injection h with h2 h;injection h with h3 h;injection h with h4 h;injection h with h5 h6
  exact MQ hT h1 h2 h3 h4 h5 h6 hr
theorem aG {tt:TT} (hT:dW P tt) {T:TypeId} {i:TyI} {x:Operand} {m off:Nat} {l:List (Nat × Nat)} {f fo ft:Nat} {j:TyI} (h:(tt T,i.sh,l[f]?,tt ft,Nat.blt 0 j.size,ev s.regs x)=(some i,.st l,some (fo,ft),some j,true,.loc m off))
    (hr:RK P N np ops draw os ⟨upd s.regs t (.loc m (off+fo)),s.own⟩ (acc ++ [⟨men (.loc m (off+fo)) ++ [],[],[],false⟩]) K):RK P N np ops draw (⟨some t,.fieldAddr T x f,ty,pos,af,none⟩ :: os) s acc K:=by
  injection h with h1 h;injection h with h2 h;injection h with h3 h;injection h with h4 h;injection h with h5 h6
  exact NP hT h1 h2 h3 h4 h5 h6 hr
theorem cH {tt:TT} (hT:dW P tt) {T:TypeId} {i:TyI} {x:Operand} {xs:List DV} {dv:DV} (ht:tt T=some i) (hg:i.sh.agg=false) (hx:ev s.regs x=.ip xs)
    (hr:RK P N np ops draw os ⟨upd s.regs t (.p (.c dv)),s.own⟩ (acc ++ [⟨men (.p (.c dv)) ++ [],[],[],false⟩]) K) (hcs:xs[0]?=some dv:=by first | rfl | exact kN (by omega)):RK P N np ops draw (⟨some t,.load T x,ty,pos,af,none⟩ :: os) s acc K :=
  bB ai (bI hT ht hg hx hcs) hr
theorem cK {v:AV} {rd:List Nat} {T:TypeId} {x y:Operand}
    (hr:RK P N np ops draw os ⟨upd s.regs t v,s.own⟩ (acc ++ [⟨men v ++ [],[],rd,false⟩]) K)
    (he:Eff P ⟨some t,.indexAddr T x y,ty,pos,af,none⟩ t (ev s.regs) s.own v [] none rd:=by first | exact en hT rfl rfl rfl rfl rfl rfl (by omega) | exact b6 hT rfl rfl rfl rfl rfl rfl (by omega) (by first | exact gB (by omega) | simp)):RK P N np ops draw (⟨some t,.indexAddr T x y,ty,pos,af,none⟩ :: os) s acc K:=bB ai he hr
theorem de {v:AV} {rd:List Nat} {T:TypeId} {x y:Operand}
    (hr:RK P N np ops draw os ⟨upd s.regs t v,s.own⟩ (acc ++ [⟨men v ++ [],[],rd,false⟩]) K)
    (he:Eff P ⟨some t,.indexAddr T x y,ty,pos,af,none⟩ t (ev s.regs) s.own v [] none rd:=by first | exact gr hT rfl rfl rfl rfl rfl rfl rfl (by first | omega | (simp;omega)) | exact fD hT rfl rfl rfl rfl rfl rfl rfl (by first | omega | (simp;omega))):RK P N np ops draw (⟨some t,.indexAddr T x y,ty,pos,af,none⟩ :: os) s acc K:=bB ai he hr
end zip2
end
section
open Go Go.RowKit
theorem Ku {g v1 r N B u2 v2:Nat} (hg:g*v1+r=N) (h:r*B+u2 < g*v2):N*B+u2 < g*(v1*B+v2):=by
 rw [← hg,Nat.add_mul,Nat.mul_add,← Nat.mul_assoc];omega
theorem Kt {g v1 r N B u2 v2:Nat} (hg:g*v1+r=N) (h:g*v2≤r*B+u2):g*(v1*B+v2)≤N*B+u2:=by
 rw [← hg,Nat.add_mul,Nat.mul_add,← Nat.mul_assoc];omega
section guess
variable {P V T N u2 v1 v2 vl tl g r:Nat}
theorem Kq (hV:V=P*(v1*4294967296+v2)+vl) (hT:T=P*(N*4294967296+u2)+tl) (htl:tl < P) (hu2:u2 < 4294967296) (hv1:0 < v1):T / V≤N / v1:=by
 rw [Nat.le_div_iff_mul_le hv1]
 have h1:T / V*V≤T:=Nat.div_mul_le_self T V
 generalize T / V=q at *
 have h2:q*(P*(v1*4294967296))≤q*V:=Nat.mul_le_mul_left _ (by rw [hV,Nat.mul_add];omega)
 have h3:T < P*((N+1)*4294967296):=by
  have:P*(N*4294967296+u2)+P≤P*((N+1)*4294967296):=by
   rw [← Nat.mul_succ];exact Nat.mul_le_mul_left _ (by omega)
  omega
 have h4:P*(q*v1*4294967296) < P*((N+1)*4294967296):=by
  have e:P*(q*v1*4294967296)=q*(P*(v1*4294967296)):=by
   rw [Nat.mul_assoc q v1,Nat.mul_left_comm]
  omega
 have h5:=Nat.lt_of_mul_lt_mul_left h4
 omega
theorem Ks (hV:V=P*(v1*4294967296+v2)+vl) (hT:T=P*(N*4294967296+u2)+tl) (htl:tl < P) (hg:g*v1+r=N) (h:r*4294967296+u2 < g*v2):T / V < g:=by
 have h1:T / V*V≤T:=Nat.div_mul_le_self T V
 generalize T / V=q at *
 have h2:q*(P*(v1*4294967296+v2))≤q*V:=Nat.mul_le_mul_left _ (by omega)
 have h3:P*(q*(v1*4294967296+v2)) < P*(N*4294967296+u2+1):=by
  have e:P*(q*(v1*4294967296+v2))=q*(P*(v1*4294967296+v2)):=Nat.mul_left_comm _ _ _
  have e3:P*(N*4294967296+u2+1)=P*(N*4294967296+u2)+P:=Nat.mul_succ _ _
  omega
 have h5:=Nat.lt_of_mul_lt_mul_left h3
 have h6:N*4294967296+u2 < g*(v1*4294967296+v2):=by
  exact Ku hg h
 have h7:q*(v1*4294967296+v2) < g*(v1*4294967296+v2):=by omega
 exact Nat.lt_of_mul_lt_mul_right h7
theorem g_N (hV:V=P*(v1*4294967296+v2)+vl) (hvl:vl < P) (hT:T=P*(N*4294967296+u2)+tl) (hTV:T < 4294967296*V):N≤v1*4294967296+v2:=by
 have h1:P*(N*4294967296) < P*(4294967296*(v1*4294967296+v2+1)):=by
  have e:P*(4294967296*(v1*4294967296+v2+1))=4294967296*(P*(v1*4294967296+v2)+P):=by
   rw [Nat.mul_left_comm,Nat.mul_succ]
  have e2:P*(N*4294967296)≤P*(N*4294967296+u2):=Nat.mul_le_mul_left _ (by omega)
  omega
 have h2:=Nat.lt_of_mul_lt_mul_left h1
 omega
theorem Kr (hV:V=P*(v1*4294967296+v2)+vl) (hvl:vl < P) (hT:T=P*(N*4294967296+u2)+tl) (hv1:2147483648≤v1) (hv2:v2 < 4294967296) (hN:N≤v1*4294967296+v2) (hg:g*v1+r=N)
  (h:(g < 4294967296∧g*v2≤r*4294967296+u2)∨4294967296≤r):g < 4294967296∧g≤T / V+1:=by
 have hgB:g < 4294967296:=by
  rcases h with h | h
  ·exact h.1
  rcases Nat.lt_or_ge g 4294967296 with h1 | h1
  ·exact h1
  have:4294967296*v1≤g*v1:=Nat.mul_le_mul_right _ h1
  omega
 refine ⟨hgB,?_⟩
 have hle:g*v2≤r*4294967296+u2:=by
  rcases h with h | h
  ·exact h.2
  have h1:g*v2≤4294967296*4294967296:=Nat.mul_le_mul (by omega) (by omega)
  have h2:4294967296*4294967296≤r*4294967296:=Nat.mul_le_mul_right _ h
  omega
 have h6:g*(v1*4294967296+v2)≤N*4294967296+u2:=by
  exact Kt hg hle
 have hPpos:0 < P:=by omega
 have hVpos:0 < V:=by
  have:0 < P*(v1*4294967296+v2):=Nat.mul_pos hPpos (by omega)
  omega
 have h7:g*V < T+V:=by
  have e1:g*V=P*(g*(v1*4294967296+v2))+g*vl:=by
   rw [hV,Nat.mul_add,Nat.mul_left_comm]
  have e2:P*(g*(v1*4294967296+v2))≤P*(N*4294967296+u2):=Nat.mul_le_mul_left _ h6
  have e3:g*vl≤g*P:=Nat.mul_le_mul_left _ (by omega)
  have e4:g*P < (v1*4294967296+v2)*P:=Nat.mul_lt_mul_of_pos_right (by omega) hPpos
  have e5:(v1*4294967296+v2)*P=P*(v1*4294967296+v2):=Nat.mul_comm _ _
  omega
 rcases Nat.eq_zero_or_pos g with h0 | h0
 ·subst h0;exact Nat.zero_le _
 have h8:(g - 1)*V≤T:=by
  have:(g - 1)*V+V=g*V:=by
   rw [← Nat.succ_mul];congr 1;omega
  omega
 have h9:g - 1≤T / V:=(Nat.le_div_iff_mul_le hVpos).2 h8
 generalize T / V=q at h9 ⊢
 omega
end guess
theorem EI (w:List Nat) (k:Nat):wv (w.take (k+3))=4294967296 ^ k*((w.getD (k+2) 0*4294967296+w.getD (k+1) 0)*4294967296+w.getD k 0)+wv (w.take k):=by
 rw [cn,cn,cn,Nat.pow_succ 4294967296 (k+1),Nat.pow_succ 4294967296 k]
 generalize 4294967296 ^ k=p
 generalize w.getD k 0=x
 generalize w.getD (k+1) 0=y
 generalize w.getD (k+2) 0=z
 have e0:p*((z*4294967296+y)*4294967296+x)=p*(z*4294967296*4294967296)+p*(y*4294967296)+p*x:=by
  rw [Nat.add_mul,Nat.mul_add,Nat.mul_add]
 have e1:p*4294967296*y=p*(y*4294967296):=by rw [Nat.mul_assoc,Nat.mul_comm 4294967296 y]
 have e2:p*4294967296*4294967296*z=p*(z*4294967296*4294967296):=by
  rw [Nat.mul_assoc,Nat.mul_assoc,← Nat.mul_assoc 4294967296,Nat.mul_comm _ z,← Nat.mul_assoc z]
 rw [e0,e1,e2];omega
theorem EJ (w:List Nat) (k:Nat):wv (w.take (k+2))=4294967296 ^ k*(w.getD (k+1) 0*4294967296+w.getD k 0)+wv (w.take k):=by
 rw [cn,cn,Nat.pow_succ]
 generalize 4294967296 ^ k=p
 generalize w.getD k 0=x
 generalize w.getD (k+1) 0=y
 have e0:p*(y*4294967296+x)=p*(y*4294967296)+p*x:=Nat.mul_add _ _ _
 have e1:p*4294967296*y=p*(y*4294967296):=by rw [Nat.mul_assoc,Nat.mul_comm 4294967296 y]
 rw [e0,e1];omega
theorem mW (w:List Nat) (j k:Nat):(w.drop j).getD k 0=w.getD (j+k) 0:=by
 rw [List.getD_eq_getElem?_getD,List.getElem?_drop,List.getD_eq_getElem?_getD]
theorem ee {w:List Nat} (h:okW w) (k:Nat):wv (w.take k) < 4294967296 ^ k:=by
 have h1:=fq (h.take k)
 refine Nat.lt_of_lt_of_le h1 (Nat.pow_le_pow_right (by omega) ?_)
 rw [List.length_take];exact Nat.min_le_left _ _
structure Dig (v u:List Nat) (k j:Nat):Prop where
 hv:v.length=k+2
 okv:okW v
 top:2147483648≤v.getD (k+1) 0
 oku:okW u
 hu:j+k+2 < u.length
 low:wv (u.drop (j+1)) < wv v
section dig
variable {v u:List Nat} {k j:Nat} (h:Dig v u k j)
include h
theorem Dig.V:wv v=4294967296 ^ k*(v.getD (k+1) 0*4294967296+v.getD k 0)+wv (v.take k):=by
 have:=EJ v k
 rwa [List.take_of_length_le (by rw [h.hv];omega)] at this
theorem Dig.vl:wv (v.take k) < 4294967296 ^ k:=ee h.okv k
theorem Dig.Vlt:wv v < 4294967296 ^ (k+2):=by have:=fq h.okv;rwa [h.hv] at this
theorem Dig.T0:wv (u.drop j)=u.getD j 0+4294967296*wv (u.drop (j+1)):=by
 have:=h.hu
 rw [dV (k:=j) (by omega)];rfl
theorem Dig.TV:wv (u.drop j) < 4294967296*wv v:=by
 have h1:=h.T0
 have h2:=h.low
 have h3:=h.oku.getD j
 have h4:4294967296*(wv (u.drop (j+1))+1)≤4294967296*wv v:=Nat.mul_le_mul_left _ h2
 omega
theorem Dig.high:wv (u.drop (j+k+3))=0:=by
 have h1:=h.TV
 have h2:=h.Vlt
 have h3:=eC (u.drop j) (k+3) (by rw [List.length_drop];have:=h.hu;omega)
 rw [List.drop_drop] at h3
 have e:j+(k+3)=j+k+3:=by omega
 rw [e] at h3
 rcases Nat.eq_zero_or_pos (wv (u.drop (j+k+3))) with h0 | h0
 ·exact h0
 exfalso
 have h4:4294967296 ^ (k+3)≤4294967296 ^ (k+3)*wv (u.drop (j+k+3)):=Nat.le_mul_of_pos_right _ h0
 have h5:4294967296 ^ (k+3)=4294967296*4294967296 ^ (k+2):=by rw [Nat.pow_succ,Nat.mul_comm]
 have h6:4294967296*wv v≤4294967296*4294967296 ^ (k+2):=Nat.mul_le_mul_left _ (by omega)
 omega
theorem Dig.T:wv (u.drop j)=4294967296 ^ k*((u.getD (j+k+2) 0*4294967296+u.getD (j+k+1) 0)*4294967296+u.getD (j+k) 0)+wv ((u.drop j).take k):=by
 have h1:=EI (u.drop j) k
 rw [mW,mW,mW] at h1
 have e:((u.drop j).take (k+3))=(u.drop j).take (k+3):=rfl
 have h3:=eC (u.drop j) (k+3) (by rw [List.length_drop];have:=h.hu;omega)
 rw [List.drop_drop,show j+(k+3)=j+k+3 by omega,h.high,Nat.mul_zero,Nat.add_zero] at h3
 rw [h3,h1,show j+(k+2)=j+k+2 by omega,show j+(k+1)=j+k+1 by omega]
theorem Dig.tl:wv ((u.drop j).take k) < 4294967296 ^ k:=ee (h.oku.drop j) k
def dE (v u:List Nat) (j:Nat):Nat:=wv (u.drop j) / wv v
theorem Dig.q_lt:dE v u j < 4294967296:=by
 have hp:0 < wv v:=by have:=h.low;omega
 exact (Nat.div_lt_iff_lt_mul hp).2 h.TV
theorem Dig.init:dE v u j≤(u.getD (j+k+2) 0*4294967296+u.getD (j+k+1) 0) / v.getD (k+1) 0 :=
 Kq h.V h.T h.tl (h.oku.getD _) (by have:=h.top;omega)
theorem Dig.N:u.getD (j+k+2) 0*4294967296+u.getD (j+k+1) 0≤v.getD (k+1) 0*4294967296+v.getD k 0:=g_N h.V h.vl h.T h.TV
theorem Dig.dec {g r:Nat} (hg:g*v.getD (k+1) 0+r=u.getD (j+k+2) 0*4294967296+u.getD (j+k+1) 0) (hc:4294967296≤g∨r*4294967296+u.getD (j+k) 0 < g*v.getD k 0):dE v u j < g:=by
 rcases hc with hc | hc
 ·have:=h.q_lt;omega
 exact Ks h.V h.T h.tl hg hc
theorem Dig.exit {g r:Nat} (hg:g*v.getD (k+1) 0+r=u.getD (j+k+2) 0*4294967296+u.getD (j+k+1) 0) (hc:(g < 4294967296∧g*v.getD k 0≤r*4294967296+u.getD (j+k) 0)∨4294967296≤r):g < 4294967296∧g≤dE v u j+1 :=
 Kr h.V h.vl h.T h.top (h.okv.getD _) h.N hg hc
end dig
theorem yc {o v:List Nat} {j i g c e S t:Nat} (hlen:j+i < o.length) (ho:okW o) (he:e < 2) (ht:t=g*v.getD i 0+c)
  (hv:wv o+4294967296 ^ j*(g*wv (v.take i))=S+4294967296 ^ (j+i)*(c+e)) :
  wv (o.set (j+i) ((o.getD (j+i) 0+8589934592 - t % 4294967296 - e) % 4294967296))+4294967296 ^ j*(g*wv (v.take (i+1)))=S+4294967296 ^ (j+(i+1))*(t / 4294967296+(if o.getD (j+i) 0 < t % 4294967296+e then 1 else 0)):=by
 have h1:=iB o (j+i) ((o.getD (j+i) 0+8589934592 - t % 4294967296 - e) % 4294967296) hlen
 have h2:=ho.getD (j+i)
 rw [cn,Nat.mul_add,Nat.mul_add]
 have e1:4294967296 ^ j*(g*(4294967296 ^ i*v.getD i 0))=4294967296 ^ (j+i)*(g*v.getD i 0):=by
  rw [Nat.pow_add,Nat.mul_assoc];congr 1;exact Nat.mul_left_comm _ _ _
 rw [e1,show j+(i+1)=j+i+1 by omega,Nat.pow_succ]
 generalize 4294967296 ^ j*(g*wv (v.take i))=A at *
 generalize g*v.getD i 0=z at *
 generalize o.getD (j+i) 0=y at *
 generalize 4294967296 ^ (j+i)=p at *
 have ht2:t % 4294967296 < 4294967296:=Nat.mod_lt _ (by omega)
 have e3:p*4294967296*(t / 4294967296)+p*(t % 4294967296)=p*z+p*c:=by
  rw [Nat.mul_assoc,← Nat.mul_add,← Nat.mul_add];congr 1;omega
 rw [Nat.mul_add] at hv ⊢
 generalize t % 4294967296=l at *
 generalize p*4294967296*(t / 4294967296)=D at *
 by_cases hb:y < l+e
 ·rw [if_pos hb,Nat.mul_one]
  have e4:(y+8589934592 - l - e) % 4294967296=y+4294967296 - l - e:=by omega
  rw [e4] at h1 ⊢
  have e5:p*(y+4294967296 - l - e)+p*l+p*e=p*y+p*4294967296:=by
   rw [← Nat.mul_add,← Nat.mul_add,← Nat.mul_add];congr 1;omega
  omega
 rw [if_neg hb,Nat.mul_zero]
 have e4:(y+8589934592 - l - e) % 4294967296=y - l - e:=by omega
 rw [e4] at h1 ⊢
 have e5:p*(y - l - e)+p*l+p*e=p*y:=by
  rw [← Nat.mul_add,← Nat.mul_add];congr 1;omega
 omega
theorem zN {o:List Nat} {p c e A S:Nat} (hlen:p < o.length) (ho:okW o) (hc:c < 4294967296) (he:e < 2) (hv:wv o+A=S+4294967296 ^ p*(c+e)) :
  wv (o.set p ((o.getD p 0+8589934592 - c - e) % 4294967296))+A=S+4294967296 ^ (p+1)*(if o.getD p 0 < c+e then 1 else 0):=by
 have h1:=iB o p ((o.getD p 0+8589934592 - c - e) % 4294967296) hlen
 have h2:=ho.getD p
 rw [Nat.pow_succ]
 generalize o.getD p 0=y at *
 generalize 4294967296 ^ p=w at *
 rw [Nat.mul_add] at hv
 by_cases hb:y < c+e
 ·rw [if_pos hb,Nat.mul_one]
  have e4:(y+8589934592 - c - e) % 4294967296=y+4294967296 - c - e:=by omega
  rw [e4] at h1 ⊢
  have e5:w*(y+4294967296 - c - e)+w*c+w*e=w*y+w*4294967296:=by
   rw [← Nat.mul_add,← Nat.mul_add,← Nat.mul_add];congr 1;omega
  omega
 rw [if_neg hb,Nat.mul_zero]
 have e4:(y+8589934592 - c - e) % 4294967296=y - c - e:=by omega
 rw [e4] at h1 ⊢
 have e5:w*(y - c - e)+w*c+w*e=w*y:=by
  rw [← Nat.mul_add,← Nat.mul_add];congr 1;omega
 omega
theorem yJ {o v:List Nat} {j i c S t:Nat} (hlen:j+i < o.length) (ht:t=o.getD (j+i) 0+v.getD i 0+c)
  (hv:wv o+4294967296 ^ (j+i)*c=S+4294967296 ^ j*wv (v.take i)) :
  wv (o.set (j+i) (t % 4294967296))+4294967296 ^ (j+(i+1))*(t / 4294967296)=S+4294967296 ^ j*wv (v.take (i+1)):=by
 have h1:=iB o (j+i) (t % 4294967296) hlen
 rw [cn,Nat.mul_add,← Nat.mul_assoc,← Nat.pow_add,show j+(i+1)=j+i+1 by omega,Nat.pow_succ]
 generalize v.getD i 0=z at *
 generalize o.getD (j+i) 0=y at *
 generalize 4294967296 ^ (j+i)=p at *
 have e3:p*4294967296*(t / 4294967296)+p*(t % 4294967296)=p*y+p*z+p*c:=by
  rw [Nat.mul_assoc,← Nat.mul_add,← Nat.mul_add,← Nat.mul_add];congr 1;omega
 omega
end
section
open Go Go.RowKit
theorem nP {n:Nat} {w:List Nat} (h:w.length=n+1):wv w=wv (w.take n)+4294967296 ^ n*w.getD n 0:=by
 have:=cn w n
 rwa [List.take_of_length_le (by omega)] at this
theorem pj {k n:Nat} (h:(wl k).length=n+1):(wl k).getD n 0≠0:=by
 have h0:wl k≠[]:=by intro e;rw [e] at h;simp at h
 have:=qg h0
 rw [List.getLast_eq_getElem] at this
 have e:(wl k).getD n 0=(wl k)[(wl k).length - 1]'(by omega):=by
  rw [List.getD_eq_getElem?_getD,List.getElem?_eq_getElem (by omega)];simp [h]
 rwa [e]
theorem ya {k n s:Nat} (hn:(wl k).length=n+1) (hs:s=32 - bn ((wl k).getD n 0)) :
  (wl (k*2 ^ s)).length=n+1∧2147483648≤(wl (k*2 ^ s)).getD n 0∧s < 32∧4294967296 ^ n≤k:=by
 have ht:=pj hn
 have ht2:=(bG k).getD n
 have hk:=nP hn
 have hlo:=ee (bG k) n
 rw [bH] at hk
 generalize (wl k).getD n 0=t at *
 have b1:=lF (n:=t) (by omega)
 have b2:=@eS t
 have b3:bn t≤32:=gx (k:=32) (by simpa using ht2)
 have b4:0 < bn t:=by
  rcases Nat.eq_zero_or_pos (bn t) with h | h
  ·rw [h] at b2;simp at b2;omega
  exact h
 generalize wv ((wl k).take n)=lo at *
 have hs32:s < 32:=by omega
 have hk1:4294967296 ^ n≤k:=by
  have:4294967296 ^ n*1≤4294967296 ^ n*t:=Nat.mul_le_mul_left _ (by omega)
  rw [Nat.mul_one] at this
  generalize 4294967296 ^ n*t=z at *
  omega
 have e1:2 ^ bn t*2 ^ s=4294967296:=by rw [← Nat.pow_add,hs,show bn t+(32 - bn t)=32 by omega]
 have e2:2 ^ (bn t - 1)*2 ^ s=2147483648:=by rw [← Nat.pow_add,hs,show bn t - 1+(32 - bn t)=31 by omega]
 have up:k*2 ^ s < 4294967296 ^ (n+1):=by
  have h1:k < 4294967296 ^ n*2 ^ bn t:=by
   have:4294967296 ^ n*t+4294967296 ^ n≤4294967296 ^ n*2 ^ bn t:=by rw [← Nat.mul_succ];exact Nat.mul_le_mul_left _ b2
   generalize 4294967296 ^ n*t=z at *
   omega
  have h2:=Nat.mul_lt_mul_of_pos_right h1 (Nat.two_pow_pos s)
  rwa [Nat.mul_assoc,e1,← Nat.pow_succ] at h2
 have low:4294967296 ^ n*2147483648≤k*2 ^ s:=by
  have h1:4294967296 ^ n*2 ^ (bn t - 1)≤k:=by
   have:4294967296 ^ n*2 ^ (bn t - 1)≤4294967296 ^ n*t:=Nat.mul_le_mul_left _ b1
   generalize 4294967296 ^ n*t=z at *
   omega
  have h2:=Nat.mul_le_mul_right (2 ^ s) h1
  rwa [Nat.mul_assoc,e2] at h2
 have l1:=fT up
 have l2:=dx (k*2 ^ s)
 have len:(wl (k*2 ^ s)).length=n+1:=by
  rcases Nat.lt_or_ge (wl (k*2 ^ s)).length (n+1) with h | h
  ·exfalso
   have h3:4294967296 ^ (wl (k*2 ^ s)).length≤4294967296 ^ n:=Nat.pow_le_pow_right (by decide) (by omega)
   have h4:4294967296 ^ n*1≤4294967296 ^ n*2147483648:=Nat.mul_le_mul_left _ (by omega)
   omega
  omega
 refine ⟨len,?_,hs32,hk1⟩
 have hv:=nP len
 have hlo2:=ee (bG (k*2 ^ s)) n
 rw [bH] at hv
 generalize (wl (k*2 ^ s)).getD n 0=x at *
 have h5:4294967296 ^ n*2147483648 < 4294967296 ^ n*(x+1):=by
  rw [show 4294967296 ^ n*(x+1)=4294967296 ^ n*x+4294967296 ^ n from Nat.mul_succ _ _]
  generalize 4294967296 ^ n*x=z at *
  omega
 have:=Nat.lt_of_mul_lt_mul_left h5
 omega
theorem FI {m s:Nat} (hs:s < 32):(wl (m*2 ^ s)).length≤(wl m).length+1:=by
 apply fT
 have h1:=dx m
 have h2:2 ^ s≤4294967296:=(Nat.pow_le_pow_right (by omega) (show s≤32 by omega):2 ^ s≤2 ^ 32)
 calc m*2 ^ s < 4294967296 ^ (wl m).length*2 ^ s:=Nat.mul_lt_mul_of_pos_right h1 (Nat.two_pow_pos s)
  _≤4294967296 ^ (wl m).length*4294967296:=Nat.mul_le_mul_left _ h2
  _=_:=(Nat.pow_succ ..).symm
theorem Aj {m b s n d:Nat} {u:List Nat} (hu:wv u=m*2 ^ s) (hl:u.length=(wl m).length+1) (hb:4294967296 ^ n≤b) (hd:d+n=(wl m).length):wv (u.drop d) < b*2 ^ s:=by
 have h1:=dx m
 have h2:=eC u d (by omega)
 have h3:4294967296 ^ d*wv (u.drop d) < 4294967296 ^ d*(b*2 ^ s):=by
  have h4:m*2 ^ s < 4294967296 ^ (wl m).length*2 ^ s:=Nat.mul_lt_mul_of_pos_right h1 (Nat.two_pow_pos s)
  have h5:4294967296 ^ (wl m).length*2 ^ s≤4294967296 ^ d*(b*2 ^ s):=by
   rw [← hd,Nat.pow_add,Nat.mul_assoc]
   exact Nat.mul_le_mul_left _ (Nat.mul_le_mul_right _ hb)
  omega
 exact Nat.lt_of_mul_lt_mul_left h3
theorem Hq {m b s q r:Nat} (h:m*2 ^ s=b*2 ^ s*q+r) (hr:r < b*2 ^ s):m / b=q∧m % b=r / 2 ^ s:=by
 have hp:=Nat.two_pow_pos s
 have hb:0 < b*2 ^ s:=by omega
 have e1:m*2 ^ s / (b*2 ^ s)=q:=by rw [h,Nat.mul_add_div hb,Nat.div_eq_of_lt hr,Nat.add_zero]
 have e2:m*2 ^ s % (b*2 ^ s)=r:=by rw [h,Nat.mul_add_mod,Nat.mod_eq_of_lt hr]
 rw [Nat.mul_div_mul_right _ _ hp] at e1
 rw [Nat.mul_mod_mul_right] at e2
 refine ⟨e1,?_⟩
 rw [← e2,Nat.mul_div_cancel _ hp]
section dig
variable {v u:List Nat} {k j:Nat} (h:Dig v u k j)
include h
theorem Dig.split:wv u=wv (u.take j)+4294967296 ^ j*wv (u.drop j):=eC u j (by have:=h.hu;omega)
theorem Dig.qV:dE v u j*wv v≤wv (u.drop j):=by
 have _:=h.hu
 exact Nat.div_mul_le_self _ _
theorem Dig.done {o:List Nat} (hok:okW o) (hl:o.length=u.length) (hv:wv o+4294967296 ^ j*(dE v u j*wv v)=wv u):wv (o.drop j) < wv v:=by
 have hp:0 < wv v:=by have:=h.low;omega
 have h1:=h.split
 have h2:=eC o j (by rw [hl];have:=h.hu;omega)
 have h3:=ee hok j
 have h4:=ee h.oku j
 have h5:wv (u.drop j)=wv v*dE v u j+wv (u.drop j) % wv v:=(Nat.div_add_mod _ _).symm
 have h6:=Nat.mod_lt (wv (u.drop j)) hp
 generalize wv (u.drop j) % wv v=r at *
 have e:4294967296 ^ j*wv (u.drop j)=4294967296 ^ j*(dE v u j*wv v)+4294967296 ^ j*r:=by
  rw [← Nat.mul_add,Nat.mul_comm (dE v u j),← h5]
 have h7:4294967296 ^ j*wv (o.drop j) < 4294967296 ^ j*(r+1):=by
  rw [Nat.mul_succ]
  generalize 4294967296 ^ j*(dE v u j*wv v)=z at *
  generalize 4294967296 ^ j*wv (o.drop j)=y at *
  generalize 4294967296 ^ j*wv (u.drop j)=x at *
  omega
 have:=Nat.lt_of_mul_lt_mul_left h7
 omega
theorem Dig.good {o:List Nat} {g:Nat} (hq:dE v u j≤g) (hv:wv o+4294967296 ^ j*(g*wv v)=wv u):g=dE v u j:=by
 have hp:0 < wv v:=by have:=h.low;omega
 have h1:=h.split
 have h4:=ee h.oku j
 have h7:4294967296 ^ j*(g*wv v) < 4294967296 ^ j*(wv (u.drop j)+1):=by
  rw [Nat.mul_succ]
  generalize 4294967296 ^ j*(g*wv v)=y at *
  generalize 4294967296 ^ j*wv (u.drop j)=x at *
  omega
 have h8:=Nat.lt_of_mul_lt_mul_left h7
 have:g≤dE v u j:=(Nat.le_div_iff_mul_le hp).2 (by omega)
 omega
theorem Dig.small {o:List Nat} (hok:okW o) (hl:o.length=u.length) (hd:o.drop (j+k+3)=u.drop (j+k+3)):wv o < 4294967296 ^ (j+k+3):=by
 have h1:=eC o (j+k+3) (by rw [hl];have:=h.hu;omega)
 rw [hd,h.high,Nat.mul_zero,Nat.add_zero] at h1
 rw [h1]
 exact ee hok _
theorem Dig.bad {o:List Nat} {g:Nat} (hok:okW o) (hl:o.length=u.length) (hd:o.drop (j+k+3)=u.drop (j+k+3)) (hq:g≤dE v u j+1) (hv:wv o+4294967296 ^ j*(g*wv v)=wv u+4294967296 ^ (j+k+3)):g=dE v u j+1:=by
 have h0:=h.small hok hl hd
 rcases Nat.lt_or_ge (dE v u j) g with h1 | h1
 ·omega
 exfalso
 have h2:=h.qV
 have h3:g*wv v≤dE v u j*wv v:=Nat.mul_le_mul_right _ h1
 have h4:=h.split
 have h5:4294967296 ^ j*(g*wv v)≤4294967296 ^ j*wv (u.drop j):=Nat.mul_le_mul_left _ (by omega)
 generalize 4294967296 ^ j*(g*wv v)=y at *
 generalize 4294967296 ^ j*wv (u.drop j)=x at *
 generalize 4294967296 ^ (j+k+3)=w at *
 omega
theorem Dig.back {o o1:List Nat} {g c S:Nat} (hok:okW o) (hl:o.length=u.length) (hd:o.drop (j+k+3)=u.drop (j+k+3)) (hg:g=dE v u j+1)
  (hv:S+4294967296 ^ j*(g*wv v)=wv u+4294967296 ^ (j+k+3)) (hb:wv o1+4294967296 ^ (j+k+2)*c=S+4294967296 ^ j*wv v)
  (ho1:okW o1) (hc:c < 2) (ho:o=o1.set (j+k+2) ((o1.getD (j+k+2) 0+c) % 4294967296)) (hl1:o1.length=u.length) :
  wv o+4294967296 ^ j*(dE v u j*wv v)=wv u:=by
 have h1:=iB o1 (j+k+2) ((o1.getD (j+k+2) 0+c) % 4294967296) (by rw [hl1];have:=h.hu;omega)
 rw [← ho] at h1
 have h2:=ho1.getD (j+k+2)
 have h0:=h.small hok hl hd
 have h3:=h.qV
 have h4:=h.split
 have h5:4294967296 ^ j*(dE v u j*wv v)≤4294967296 ^ j*wv (u.drop j):=Nat.mul_le_mul_left _ h3
 have e1:4294967296 ^ j*(g*wv v)=4294967296 ^ j*(dE v u j*wv v)+4294967296 ^ j*wv v:=by
  rw [hg,Nat.succ_mul,Nat.mul_add]
 have e2:4294967296 ^ (j+k+3)=4294967296 ^ (j+k+2)*4294967296:=Nat.pow_succ ..
 rw [e1] at hv
 generalize o1.getD (j+k+2) 0=y at *
 clear e1 h3 hg ho hl hd hok hl1 ho1
 generalize 4294967296 ^ j*(dE v u j*wv v)=z at *
 generalize 4294967296 ^ j*wv (u.drop j)=x at *
 generalize 4294967296 ^ j*wv v=zv at *
 generalize 4294967296 ^ (j+k+3)=w3 at *
 generalize 4294967296 ^ (j+k+2)=w at *
 by_cases hov:y+c < 4294967296
 ·exfalso
  rw [Nat.mod_eq_of_lt hov,Nat.mul_add] at h1
  omega
 have e3:(y+c) % 4294967296=0:=by omega
 have e4:y=4294967295∧c=1:=by omega
 rw [e3,e4.1] at h1
 rw [e4.2] at hb
 subst e2
 omega
end dig
theorem Ak {V j M g X:Nat} {q:List Nat} (hj:j < q.length) (hM:M=V*(4294967296 ^ (j+1)*wv (q.drop (j+1)))+X) {Y:Nat} (hX:Y+4294967296 ^ j*(g*V)=X):M=V*(4294967296 ^ j*wv ((q.set j g).drop j))+Y:=by
 rw [uN hj]
 show M=V*(4294967296 ^ j*(g+4294967296*wv (q.drop (j+1))))+Y
 have e1:4294967296 ^ j*(g*V)=V*(4294967296 ^ j*g):=by rw [Nat.mul_comm g,Nat.mul_left_comm]
 have e2:V*(4294967296 ^ j*(g+4294967296*wv (q.drop (j+1))))=V*(4294967296 ^ j*g)+V*(4294967296 ^ (j+1)*wv (q.drop (j+1))):=by
  rw [Nat.pow_succ,Nat.mul_assoc (4294967296 ^ j),← Nat.mul_add,← Nat.mul_add]
 rw [hM,← hX,e1,e2];omega
end
section
open Go Go.RowKit
theorem lZ (n:Nat):(4294967296:Nat) ^ n=2 ^ (32*n):=by rw [Nat.pow_mul]
theorem u7 {m n:Nat} (h:(wl m).length=n+1):bn m=32*n+bn ((wl m).getD n 0):=by
 have h1:=nP h
 have h2:=ee (bG m) n
 have h3:=pj h
 rw [bH] at h1
 generalize (wl m).getD n 0=t at *
 generalize wv ((wl m).take n)=lo at *
 have hp:0 < (4294967296:Nat) ^ n:=Nat.pow_pos (by decide)
 have h4:m / 4294967296 ^ n=t:=by
  rw [h1,Nat.add_mul_div_left _ _ hp,Nat.div_eq_of_lt h2,Nat.zero_add]
 have h5:4294967296 ^ n≤m:=by
  have:=Nat.mul_le_mul_left (4294967296 ^ n) (show 1≤t by omega)
  rw [Nat.mul_one] at this
  omega
 rw [lZ] at h4 h5
 rw [ju h5,h4]
end
section
open Go Go.RowKit
theorem Sub.I {w z:Int} (h:w=z):Sub (.p (.a [zn w,zm w])) (I z):=aH (by rw [h])
theorem nA {m:Nat} (h:(wl m).length=0):m=0:=by
 have:=List.length_eq_zero_iff.1 h
 rw [← bH m,this];rfl
theorem vW (b:Bool):sg b 0=0:=by cases b <;> rfl
theorem Df {b:Bool} {m:Nat} (h:0 < m):zn (sg b m)=.v (.bool b):=by
 unfold zn sg;cases b <;> simp <;> omega
theorem Dg (b:Bool) (m:Nat):zm (sg b m)=nt m:=by
 rw [K5];unfold sg;cases b <;> simp
theorem sz {z:Int} (h:L 45 z):(wl z.natAbs).length≤1099511627776:=sT (n:=40) h
section add
variable {x y:Int}
theorem vh (h:(decide (x < 0) == decide (y < 0))=true):sg (decide (x < 0)) (wv (wl x.natAbs)+wv (wl y.natAbs))=x+y:=by
 rw [bH,bH];unfold sg
 by_cases h1:x < 0 <;> by_cases h2:y < 0 <;> simp [h1,h2] at h ⊢ <;> omega
theorem AN (h:(decide (x < 0) == decide (y < 0))=false) (hc:x.natAbs < y.natAbs):sg (decide (y < 0)) (wv (wl y.natAbs) - wv (wl x.natAbs))=x+y:=by
 rw [bH,bH];unfold sg
 by_cases h1:x < 0 <;> by_cases h2:y < 0 <;> simp [h1,h2] at h ⊢ <;> omega
theorem AO (h:(decide (x < 0) == decide (y < 0))=false) (hc:y.natAbs≤x.natAbs):sg (decide (x < 0)) (wv (wl x.natAbs) - wv (wl y.natAbs))=x+y:=by
 rw [bH,bH];unfold sg
 by_cases h1:x < 0 <;> by_cases h2:y < 0 <;> simp [h1,h2] at h ⊢ <;> omega
end add
theorem zL (x y:Int):sg (!(decide (x < 0) == decide (y < 0))) (wv (wl x.natAbs)*wv (wl y.natAbs))=x*y:=by
 rw [bH,bH,← Int.natAbs_mul]
 unfold sg
 by_cases h1:x < 0 <;> by_cases h2:y < 0 <;> simp only [h1,h2,decide_true,decide_false,beq_self_eq_true,Bool.not_true,if_false,Bool.false_eq_true]
 ·have:=Int.mul_pos_of_neg_of_neg h1 h2;omega
 ·have:x*y≤0:=Int.mul_nonpos_of_nonpos_of_nonneg (by omega) (by omega)
  show -((x*y).natAbs:Int)=x*y;omega
 ·have:x*y≤0:=Int.mul_nonpos_of_nonneg_of_nonpos (by omega) (by omega)
  show -((x*y).natAbs:Int)=x*y;omega
 have:0≤x*y:=Int.mul_nonneg (by omega) (by omega)
 omega
theorem zK (x:Int):sg (!decide (x < 0)) (wv (wl x.natAbs))=-x:=by
 rw [bH];unfold sg
 by_cases h1:x < 0 <;> simp [h1] <;> omega
theorem AQ (x:Int):sg false (wv (wl x.natAbs))=(x.natAbs:Int):=by rw [bH];rfl
theorem KH {m n:Nat} (h:bA (m:Int) (n:Int) < 0):m < n:=by
 unfold bA at h;split at h
 ·omega
 split at h <;> omega
theorem KI {m n:Nat} (h:¬ bA (m:Int) (n:Int) < 0):n≤m:=by
 unfold bA at h;split at h
 ·omega
 omega
end
section
open Go Go.RowKit
class LB (z:Int) (n:outParam Nat):Prop where
 le:L n z
theorem lz {z:Int} {n m:Nat} [h:LB z n] (k:Nat.ble n m=true:=by rfl):L m z:=h.le.mono (bL0 k)
instance LB.mul {a b:Int} {n m:Nat} [h:LB a n] [k:LB b m]:LB (a*b) (max n m+1):=⟨(h.le.mono (Nat.le_max_left _ _)).mul (k.le.mono (Nat.le_max_right _ _))⟩
instance LB.add {a b:Int} {n m:Nat} [h:LB a n] [k:LB b m]:LB (a+b) (max n m+1):=⟨(h.le.mono (Nat.le_max_left _ _)).add (k.le.mono (Nat.le_max_right _ _))⟩
instance LB.sub {a b:Int} {n m:Nat} [h:LB a n] [k:LB b m]:LB (a - b) (max n m+1):=⟨(h.le.mono (Nat.le_max_left _ _)).sub (k.le.mono (Nat.le_max_right _ _))⟩
instance LB.neg {a:Int} {n:Nat} [h:LB a n]:LB (-a) n:=⟨h.le.neg⟩
theorem L.abs {a:Int} {n:Nat} (h:L n a):L n (a.natAbs:Int):=by unfold L at *;rwa [Int.natAbs_natCast]
instance LB.abs {a:Int} {n:Nat} [h:LB a n]:LB (a.natAbs:Int) n:=⟨h.le.abs⟩
instance {n:Nat} {z:Int}:Decidable (L n z):=inferInstanceAs (Decidable (_ < _))
instance LB.zero:LB 0 0:=⟨by decide⟩
instance LB.one:LB 1 0:=⟨by decide⟩
instance LB.two:LB 2 1:=⟨by decide⟩
instance LB.three:LB 3 1:=⟨by decide⟩
instance LB.five:LB 5 2:=⟨by decide⟩
instance LB.six:LB 6 2:=⟨by decide⟩
instance LB.eight:LB 8 2:=⟨by decide⟩
instance LB.four:LB 4 2:=⟨by decide⟩
theorem L.ediv {a b:Int} {n:Nat} (h:L n a):L n (a / b):=L.of_le h (Int.natAbs_ediv_le_natAbs a b)
instance LB.ediv {a b:Int} {n:Nat} [h:LB a n]:LB (a / b) n:=⟨h.le.ediv⟩
theorem L.emod {a b:Int} {n m:Nat} (h:L n a) (k:L m b):L (max n m) (a % b):=by
 by_cases hb:b=0
 ·subst hb;rw [Int.emod_zero];exact h.mono (Nat.le_max_left _ _)
 have h1:=Int.emod_nonneg a hb
 have h2:=Int.emod_lt a hb
 exact (L.of_le k (by omega)).mono (Nat.le_max_right _ _)
instance LB.emod {a b:Int} {n m:Nat} [h:LB a n] [k:LB b m]:LB (a % b) (max n m):=⟨h.le.emod k.le⟩
def sgn (x:Int):Int:=if x=0 then 0 else if x < 0 then -1 else 1
theorem EG (x:Int):L 0 (sgn x):=by unfold sgn;split <;> (try split) <;> decide
instance LB.sgn {x:Int}:LB (sgn x) 0:=⟨EG x⟩
theorem sg_lt {b:Bool} {m:Nat}:sg b m < 0↔b=true∧0 < m:=by unfold sg;cases b <;> simp <;> omega
theorem kc {x y q r:Int} (hy:y≠0) (e:x=y*q+r) (h0:0≤r) (h1:r < y.natAbs):x / y=q∧x % y=r:=by
 rcases Int.lt_or_gt_of_ne hy with h | h
 ·exact (Int.ediv_emod_unique' h).2 ⟨by omega,h0,by omega⟩
 exact (Int.ediv_emod_unique h).2 ⟨by omega,h0,by omega⟩
theorem j6 {x y:Int} (hy:y≠0) (h:sg (decide (x < 0)) (x.natAbs % y.natAbs) < 0) :
  sg (!(decide (x < 0) == decide (y < 0))) (x.natAbs / y.natAbs) - sgn y=x / y∧sg (decide (x < 0)) (x.natAbs % y.natAbs)+y.natAbs=x % y:=by
 obtain ⟨h1,h2⟩:=sg_lt.1 h
 have h1:=dT0 h1
 have hn:0 < y.natAbs:=by omega
 have e:=Nat.div_add_mod x.natAbs y.natAbs
 have l:=Nat.mod_lt x.natAbs hn
 generalize x.natAbs / y.natAbs=q at *
 generalize x.natAbs % y.natAbs=r at *
 have e':(x.natAbs:Int)=y.natAbs*q+r:=by exact_mod_cast e.symm
 unfold sg sgn
 simp only [h1,decide_true,if_true]
 by_cases h3:y < 0
 ·simp only [h3,decide_true,beq_self_eq_true,Bool.not_true,Bool.false_eq_true,if_false,if_neg hy,if_true]
  have hyy:(y.natAbs:Int)=-y:=by omega
  rw [hyy] at e' ⊢
  have:=kc (x:=x) (y:=y) (q:=q - -1) (r:=-r + -y) hy (by rw [Int.mul_sub,Int.mul_neg,Int.mul_one];rw [Int.neg_mul] at e';omega) (by omega) (by omega)
  exact ⟨this.1.symm,this.2.symm⟩
 simp only [h3,decide_false,beq_false,Bool.not_true,Bool.not_false,if_true,if_neg hy,if_false]
 have hyy:(y.natAbs:Int)=y:=by omega
 rw [hyy] at e' ⊢
 have:=kc (x:=x) (y:=y) (q:=-q - 1) (r:=-r+y) hy (by rw [Int.mul_sub,Int.mul_neg,Int.mul_one];omega) (by omega) (by omega)
 exact ⟨this.1.symm,this.2.symm⟩
theorem j5 {x y:Int} (hy:y≠0) (h:¬ sg (decide (x < 0)) (x.natAbs % y.natAbs) < 0) :
  sg (!(decide (x < 0) == decide (y < 0))) (x.natAbs / y.natAbs)=x / y∧sg (decide (x < 0)) (x.natAbs % y.natAbs)=x % y:=by
 have hn:0 < y.natAbs:=by omega
 have e:=Nat.div_add_mod x.natAbs y.natAbs
 have l:=Nat.mod_lt x.natAbs hn
 rw [sg_lt] at h
 generalize x.natAbs / y.natAbs=q at *
 generalize x.natAbs % y.natAbs=r at *
 have e':(x.natAbs:Int)=y.natAbs*q+r:=by exact_mod_cast e.symm
 by_cases h1:x < 0
 ·have hr:r=0:=by
   rcases Nat.eq_zero_or_pos r with h2 | h2
   ·exact h2
   exact absurd ⟨decide_eq_true h1,h2⟩ h
  subst hr
  by_cases h3:y < 0
  ·have hyy:(y.natAbs:Int)=-y:=by omega
   rw [hyy,Int.neg_mul] at e'
   have:=kc (x:=x) (y:=y) (q:=q) (r:=0) hy (by omega) (by omega) (by omega)
   rw [this.1,this.2]
   simp [sg,h1,h3]
  have hyy:(y.natAbs:Int)=y:=by omega
  rw [hyy] at e'
  have:=kc (x:=x) (y:=y) (q:=-q) (r:=0) hy (by rw [Int.mul_neg];omega) (by omega) (by omega)
  rw [this.1,this.2]
  simp [sg,h1,h3]
 by_cases h3:y < 0
 ·have hyy:(y.natAbs:Int)=-y:=by omega
  rw [hyy,Int.neg_mul] at e'
  have:=kc (x:=x) (y:=y) (q:=-q) (r:=r) hy (by rw [Int.mul_neg];omega) (by omega) (by omega)
  rw [this.1,this.2]
  simp [sg,h1,h3]
 have hyy:(y.natAbs:Int)=y:=by omega
 rw [hyy] at e'
 have:=kc (x:=x) (y:=y) (q:=q) (r:=r) hy (by omega) (by omega) (by omega)
 rw [this.1,this.2]
 simp [sg,h1,h3]
def isq:Nat→Nat
 | 0=>0
 | n+1=>if (isq n+1)*(isq n+1)≤n+1 then isq n+1 else isq n
theorem kz (n:Nat):isq n*isq n≤n∧n < (isq n+1)*(isq n+1):=by
 induction n with
 | zero=>simp [isq]
 | succ n ih =>
  obtain ⟨h1,h2⟩:=ih
  unfold isq
  generalize isq n=r at *
  have e1:(r+1)*(r+1)=r*r+2*r+1:=by grind
  have e2:(r+1+1)*(r+1+1)=r*r+4*r+4:=by grind
  split
  ·next h=>exact ⟨h,by omega⟩
  next h=>exact ⟨by omega,by omega⟩
theorem Cp {n r:Nat} (h1:r*r≤n) (h2:n < (r+1)*(r+1)):isq n=r:=by
 obtain ⟨g1,g2⟩:=kz n
 rcases Nat.lt_trichotomy (isq n) r with h | h | h
 ·have:(isq n+1)*(isq n+1)≤r*r:=Nat.mul_le_mul h h
  omega
 ·exact h
 have:(r+1)*(r+1)≤isq n*isq n:=Nat.mul_le_mul h h
 omega
theorem zS {n r:Nat} (h:r*r≤n):r≤isq n:=by
 obtain ⟨g1,g2⟩:=kz n
 rcases Nat.lt_or_ge (isq n) r with h1 | h1
 ·have:(isq n+1)*(isq n+1)≤r*r:=Nat.mul_le_mul h1 h1
  omega
 exact h1
theorem zJ {a s:Nat} (hs:0 < s):isq a≤(s+a / s) / 2:=by
 have h1:=(kz a).1
 have h3:a < s*(a / s+1):=Nat.lt_mul_div_succ a hs
 generalize isq a=r at *
 generalize a / s=g at *
 rcases Nat.lt_or_ge ((s+g) / 2) r with h | h
 ·exfalso
  have h2:s+g+1≤2*r:=by omega
  have h4:s*(g+1)≤s*(2*r - s):=Nat.mul_le_mul_left _ (by omega)
  have h5:s*(2*r - s)≤r*r:=by
   obtain ⟨t,ht⟩:∃ t,2*r=s+t:=⟨2*r - s,by omega⟩
   rw [show 2*r - s=t by omega]
   have:4*(s*t)≤(s+t)*(s+t):=by
    rcases Nat.le_total s t with h | h
    ·obtain ⟨d,rfl⟩:=Nat.le.dest h;grind
    obtain ⟨d,rfl⟩:=Nat.le.dest h;grind
   rw [← ht] at this
   have e:2*r*(2*r)=4*(r*r):=by grind
   omega
  omega
 exact h
theorem vA {a s:Nat} (h:isq a≤s) (h2:s≤(s+a / s) / 2):isq a=s:=by
 have h3:s≤a / s:=by omega
 have h4:s*s≤a:=by
  have:=Nat.mul_le_mul_left s h3
  have:=Nat.mul_div_le a s
  omega
 exact Nat.le_antisymm h (zS h4)
theorem G4 {a:Nat} (h:0 < a):0 < isq a:=zS (r:=1) (by omega)
theorem Kd (a:Nat):isq a≤a:=by
 have:=(kz a).1
 rcases Nat.eq_zero_or_pos (isq a) with h | h
 ·omega
 have:=Nat.le_mul_of_pos_left (isq a) h;omega
theorem BD (a:Nat):isq a≤2 ^ ((bn a+1) / 2):=by
 obtain ⟨h1,_⟩:=kz a
 have h2:=eS (n:=a)
 rcases Nat.lt_or_ge (2 ^ ((bn a+1) / 2)) (isq a) with h | h
 ·exfalso
  have h3:=Nat.mul_lt_mul'' h h
  rw [← Nat.pow_add] at h3
  have h4:2 ^ bn a≤2 ^ ((bn a+1) / 2+(bn a+1) / 2):=Nat.pow_le_pow_right (by omega) (by omega)
  omega
 exact h
theorem BC {a:Nat} (h:0 < a):2 ^ ((bn a+1) / 2)≤2*a:=by
 have h1:=lF h
 have h0:0 < bn a:=by
  rcases Nat.eq_zero_or_pos (bn a) with e | e
  ·have:=eS (n:=a);rw [e] at this;omega
  exact e
 have h2:2 ^ ((bn a+1) / 2)≤2 ^ (bn a - 1+1):=Nat.pow_le_pow_right (by omega) (by omega)
 rw [Nat.pow_succ] at h2
 omega
theorem Az {n:Nat} {z:Int} (h:L n z):bn z.natAbs≤2 ^ n:=gx h
def fh (z:Int):Bool:=decide (0≤z) && decide (isq z.toNat*isq z.toNat=z.toNat)
end
section
open Go Go.RowKit
section ops
variable {P:Program}
variable {dst:Option Nat} {ty:TypeId} {pos:String} {af:Array Edge} {gd:Option (Nat × Bool)} {d:Nat} {ρ:Operand→AV} {own:Own}
variable {x y:Operand} {k k':IntKind} {m n:Int} {tys:Array TypeId}
theorem pR (hx:ρ x=.p (.c (.v (.int k m)))) (hy:ρ y=.p (.c (.v (.int k' n)))):Eff P ⟨dst,.call ⟨.builtin .max,#[x,y],tys⟩,ty,pos,af,gd⟩ d ρ own (.p (.c (.v (.int k (if n > m then n else m))))) [] none [] :=
 oA (fun C h r own' a w hrep _=>by
  have e1:=hrep x (by simp)
  have e2:=hrep y (by simp)
  rw [hx] at e1;rw [hy] at e2
  simp [builtin,b7 e1,b7 e2,run_max_int2]) rfl
end ops
abbrev PI (z:Int):PV:=.a [zn z,zm z]
abbrev PE (e:Int):PV:=.c (.v (.int .i64 e))
abbrev PB (b:Bool):PV:=.c (.v (.bool b))
theorem wl_len_zero {x:Int}:((wl x.natAbs).length:Int)=0↔x=0:=by
 constructor
 ·intro h;have:=nA (m:=x.natAbs) (by omega);omega
 rintro rfl;rfl
theorem j8 {x:Int} (h:decide (x < 0)=true):sgn x=-1:=by
 have:=dT0 h
 unfold sgn;rw [if_neg (by omega),if_pos this]
theorem ql {x:Int} (h0:x≠0) (h:decide (x < 0)=false):sgn x=1:=by
 have:=dF0 h
 unfold sgn;rw [if_neg h0,if_neg this]
theorem CV {x y:Int} (h:(!(decide (x < 0) == decide (y < 0)))=true):bA (sgn x) (sgn y)=bA x y:=by
 by_cases h1:x < 0 <;> by_cases h2:y < 0 <;> simp [h1,h2] at h
 ·rw [j8 (decide_eq_true h1),fN (a:=x) (by omega),fN]
  unfold sgn;split <;> (try split) <;> omega
 rw [j8 (decide_eq_true h2),fO (a:=x) (by omega),fO]
 unfold sgn;split <;> (try split) <;> omega
theorem CU {x y:Int} (h:(!(decide (x < 0) == decide (y < 0)))=false):IntKind.i64.wrap (bA x.natAbs y.natAbs*(if sgn x=0 then 1 else sgn x))=bA x y:=by
 have key:bA x.natAbs y.natAbs*(if sgn x=0 then 1 else sgn x)=bA x y:=by
  by_cases h1:x < 0 <;> by_cases h2:y < 0 <;> simp [h1,h2] at h
  ·rw [j8 (decide_eq_true h1)]
   rcases Int.lt_trichotomy x y with h | h | h
   ·rw [fN h,fO (by omega)];rfl
   ·rw [h,ik,ik];rfl
   rw [fO h,fN (by omega)];rfl
  have e:(if sgn x=0 then 1 else sgn x)=1:=by
   unfold sgn
   by_cases h0:x=0
   ·simp [h0]
   simp [h0,h1]
  rw [e,Int.mul_one,Int.natAbs_of_nonneg (by omega),Int.natAbs_of_nonneg (by omega)]
 rw [key]
 unfold bA
 split
 ·rfl
 split <;> rfl
theorem mD (n:Int):IntKind.u64.wrap n=n % 18446744073709551616:=by simp [IntKind.wrap,IntKind.bits,IntKind.signed]
theorem sP {m:Nat}:wv [m % 4294967296,m / 2 ^ 32]=m:=by
 simp only [wv];omega
theorem qB {m:Nat} (h:m < 18446744073709551616):okW [m % 4294967296,m / 2 ^ 32]:=by
 intro x hx
 simp only [List.mem_cons,List.not_mem_nil,or_false] at hx
 rcases hx with rfl | rfl
 ·omega
 omega
theorem pq (b:Bool) (m:Nat):(sg b m).natAbs=m:=by unfold sg;split <;> omega
theorem xX {n:Int}:sg (decide (n < 0)) n.natAbs=n:=by
 unfold sg;by_cases h:n < 0 <;> simp [h] <;> omega
def bp (n:Int):Prop:=-9223372036854775808≤n∧n < 9223372036854775808
instance {n:Int}:Decidable (bp n):=inferInstanceAs (Decidable (_∧_))
theorem EM {z:Int} (h:bp z):IntKind.u64.wrap (if IntKind.i64.wrap (0 - z) > z then IntKind.i64.wrap (0 - z) else z)=(z.natAbs:Nat):=by
 obtain ⟨h1,h2⟩:=h
 rw [mD,IntKind.wrap_i64]
 split <;> omega
theorem eD (m:Nat):IntKind.u32.wrap (m:Int)=((m % 4294967296:Nat):Int):=by rw [IntKind.wrap_u32];omega
theorem uC (a b:Int):Int.gcd b (a % b)=Int.gcd a b:=by
 rw [show a % b=a - b*(a / b) by have:=Int.emod_def a b;omega,Int.gcd_sub_mul_left_right,Int.gcd_comm]
def rootV (x:Int):Int:=if x < 0 then 0 else isq x.toNat
def jW (x:Int):Int:=if x < 0 then 1 else 0
theorem tm (x:Int):0≤rootV x:=by unfold rootV;split <;> omega
theorem BG {x:Int} (h:0≤x):rootV x≤x:=by
 unfold rootV;rw [if_neg (by omega)];have:=Kd x.toNat;omega
theorem L.rootV {x:Int} {n:Nat} (h:L n x):L n (rootV x):=by
 rcases Int.lt_or_le x 0 with h1 | h1
 ·unfold AM.rootV;rw [if_pos h1];exact h.of_le (by omega)
 exact h.of_le (by have:=BG h1;have:=tm x;omega)
instance LB.rootV {x:Int} {n:Nat} [h:LB x n]:LB (rootV x) n:=⟨h.le.rootV⟩
theorem rY {x:Int}:fh x=(decide (0≤x) && decide (x - rootV x*rootV x=0)):=by
 unfold fh rootV
 by_cases h:x < 0
 ·rw [decide_eq_false (by omega)];rfl
 rw [if_neg h]
 congr 1
 apply decide_eq_decide.2
 have e:((isq x.toNat:Nat):Int)*(isq x.toNat:Nat)=((isq x.toNat*isq x.toNat:Nat):Int):=by rw [Int.natCast_mul]
 rw [e]
 omega
end
section
open Go Go.RowKit
theorem si {m:Nat} (h:bn m=0):m=0:=by
 have:=eS (n:=m);rw [h] at this;omega
theorem C4 {m:Nat} (h:0 < m):0 < bn m:=by
 rcases Nat.eq_zero_or_pos (bn m) with e | e
 ·have:=si e;omega
 exact e
theorem lR {x:Int} (h:0≤x):rootV x=(isq x.toNat:Nat):=by unfold rootV;rw [if_neg (by omega)]
theorem gM {x:Int} (h:x < 0):rootV x=0∧jW x=1:=by unfold rootV jW;rw [if_pos h,if_pos h];exact ⟨rfl,rfl⟩
theorem gO {x:Int} (h:¬ x < 0):jW x=0:=by unfold jW;rw [if_neg h]
theorem zc {x:Int} (h:((bn x.natAbs:Nat):Int)=0):x=0:=by
 have:=si (m:=x.natAbs) (by omega);omega
theorem xz {x:Int} (h:¬ x < 0) (h0:((bn x.natAbs:Nat):Int)≠0) (h2:(2:Int) ≥ (bn x.natAbs:Nat)):rootV x=1:=by
 have h3:=eS (n:=x.natAbs)
 have h4:2 ^ bn x.natAbs≤2 ^ 2:=Nat.pow_le_pow_right (by omega) (by omega)
 have h5:x.natAbs≠0:=fun e=>h0 (by rw [e];rfl)
 rw [lR (by omega),Cp (r:=1) (by omega) (by omega)];rfl
theorem py {x:Int} (h:0 < x):0 < ((2 ^ ((bn x.natAbs+1) / 2):Nat):Int)∧rootV x≤((2 ^ ((bn x.natAbs+1) / 2):Nat):Int)∧((2 ^ ((bn x.natAbs+1) / 2):Nat):Int)≤2*x:=by
 have e:x.natAbs=x.toNat:=by omega
 have h1:=BD x.toNat
 have h2:=BC (a:=x.toNat) (by omega)
 have h3:0 < 2 ^ ((bn x.toNat+1) / 2):=Nat.pow_pos (by omega)
 rw [lR (by omega),e]
 generalize 2 ^ ((bn x.toNat+1) / 2)=s at *
 omega
theorem kE {x s:Int} (h:0 < x) (hs:0 < s):rootV x≤(s*1+x / s) / 2∧0 < (s*1+x / s) / 2:=by
 obtain ⟨a,rfl⟩:=Int.eq_ofNat_of_zero_le (show 0≤x by omega)
 obtain ⟨t,rfl⟩:=Int.eq_ofNat_of_zero_le (show 0≤s by omega)
 have h1:=zJ (a:=a) (s:=t) (by omega)
 have h2:=G4 (a:=a) (by omega)
 rw [lR (by omega),Int.toNat_natCast,Int.mul_one]
 have e:(((t:Nat):Int)+(a:Nat) / (t:Nat)) / 2=(((t+a / t) / 2:Nat):Int):=by
  rw [Int.natCast_ediv,Int.natCast_add,Int.natCast_ediv];rfl
 rw [e];omega
theorem rn {x s:Int} (h:0 < x) (hs:0 < s) (h1:rootV x≤s) (h2:s≤(s*1+x / s) / 2):rootV x=s:=by
 obtain ⟨a,rfl⟩:=Int.eq_ofNat_of_zero_le (show 0≤x by omega)
 obtain ⟨t,rfl⟩:=Int.eq_ofNat_of_zero_le (show 0≤s by omega)
 rw [lR (by omega),Int.toNat_natCast] at *
 have e:(((t:Nat):Int)*1+(a:Nat) / (t:Nat)) / 2=(((t+a / t) / 2:Nat):Int):=by
  rw [Int.mul_one,Int.natCast_ediv,Int.natCast_add,Int.natCast_ediv];rfl
 rw [e] at h2
 have:=vA (a:=a) (s:=t) (by omega) (by omega)
 omega
theorem kY {a b:Int} (h:bA a b ≥ 0):b≤a:=by
 unfold bA at h;split at h <;> omega
theorem jR {a b:Int} (h:¬ bA a b ≥ 0):a < b:=by
 unfold bA at h;split at h
 ·assumption
 split at h <;> omega
theorem wC:okW [1]:=by intro x hx;simp at hx;omega
theorem IX (k:Nat):sg false (wv [1]*2 ^ k)=((2 ^ k:Nat):Int):=by simp [sg,wv]
theorem M9 (b:Nat) (h:b≤1099511627776):IntKind.i64.wrap (((b:Int)+2 - 1).tdiv 2)=(((b+1) / 2:Nat):Int):=by
 rw [Int.tdiv_eq_ediv_of_nonneg (by omega)]
 rw [iW0 _ (by omega)];omega
end
section
open Go Go.RowKit
@[ext] structure Fm where
 a:Int
 b:Int
 c:Int
 deriving DecidableEq
@[ext] structure Mt where
 a:Int
 b:Int
 c:Int
 d:Int
 deriving DecidableEq
abbrev FL (a b c:Int):List DV:=[zn a,zm a,zn b,zm b,zn c,zm c]
abbrev ML (a b c d:Int):List DV:=[zn a,zm a,zn b,zm b,zn c,zm c,zn d,zm d]
abbrev FA (a b c:Int):AV:=.p (.a (FL a b c))
abbrev MA (a b c d:Int):AV:=.p (.a (ML a b c d))
abbrev PF (f:Fm):PV:=.a (FL f.a f.b f.c)
abbrev PM (m:Mt):PV:=.a (ML m.a m.b m.c m.d)
def dsc (a b c:Int):Int:=b*b - 4*a*c
def vl (a b c x y:Int):Int:=a*x*x+b*x*y+c*y*y
def apB (a b c p q r s:Int):Int:=2*(a*p*q+c*r*s)+b*(p*s+q*r)
def Fm.disc (f:Fm):Int:=dsc f.a f.b f.c
def Fm.val (f:Fm) (x y:Int):Int:=vl f.a f.b f.c x y
def Fm.app (f:Fm) (m:Mt):Fm:=⟨vl f.a f.b f.c m.a m.c,apB f.a f.b f.c m.a m.b m.c m.d,vl f.a f.b f.c m.b m.d⟩
def Mt.mul (m n:Mt):Mt:=⟨m.a*n.a+m.b*n.c,m.a*n.b+m.b*n.d,m.c*n.a+m.d*n.c,m.c*n.b+m.d*n.d⟩
def Mt.det (m:Mt):Int:=m.a*m.d - m.b*m.c
def Mt.one:Mt:=⟨1,0,0,1⟩
instance LB.dsc {a b c:Int} {k l m:Nat} [h1:LB a k] [h2:LB b l] [h3:LB c m]:LB (dsc a b c) (max (max k l) m+5):=⟨by
 have i1:LB a (max (max k l) m):=⟨h1.le.mono (by omega)⟩
 have i2:LB b (max (max k l) m):=⟨h2.le.mono (by omega)⟩
 have i3:LB c (max (max k l) m):=⟨h3.le.mono (by omega)⟩
 generalize max (max k l) m=n at *
 unfold AM.dsc
 have j1:=i2.le.mul i2.le
 have j2:=((show L (n+2) 4 from (show L 2 4 by decide).mono (by omega)).mul (i1.le.mono (by omega))).mul (i3.le.mono (m:=n+3) (by omega))
 exact ((j1.mono (m:=n+3+1) (by omega)).sub (j2.mono (m:=n+3+1) (by omega))).mono (by omega)⟩
instance LB.vl {a b c x y:Int} {k1 k2 k3 k4 k5:Nat} [h1:LB a k1] [h2:LB b k2] [h3:LB c k3] [h4:LB x k4] [h5:LB y k5]:LB (vl a b c x y) (max (max (max (max k1 k2) k3) k4) k5+4):=⟨by
 have i1:L (max (max (max (max k1 k2) k3) k4) k5) a:=h1.le.mono (by omega)
 have i2:L (max (max (max (max k1 k2) k3) k4) k5) b:=h2.le.mono (by omega)
 have i3:L (max (max (max (max k1 k2) k3) k4) k5) c:=h3.le.mono (by omega)
 have i4:L (max (max (max (max k1 k2) k3) k4) k5) x:=h4.le.mono (by omega)
 have i5:L (max (max (max (max k1 k2) k3) k4) k5) y:=h5.le.mono (by omega)
 generalize max (max (max (max k1 k2) k3) k4) k5=n at *
 unfold AM.vl
 have j1:=(i1.mul i4).mul (i4.mono (m:=n+1) (by omega))
 have j2:=(i2.mul i4).mul (i5.mono (m:=n+1) (by omega))
 have j3:=(i3.mul i5).mul (i5.mono (m:=n+1) (by omega))
 exact (j1.add j2).add (j3.mono (by omega))⟩
instance LB.apB {a b c p q r s:Int} {k1 k2 k3 k4 k5 k6 k7:Nat} [h1:LB a k1] [h2:LB b k2] [h3:LB c k3] [h4:LB p k4] [h5:LB q k5] [h6:LB r k6] [h7:LB s k7]:LB (apB a b c p q r s) (max (max (max (max (max (max k1 k2) k3) k4) k5) k6) k7+6):=⟨by
 have i1:L (max (max (max (max (max (max k1 k2) k3) k4) k5) k6) k7) a:=h1.le.mono (by omega)
 have i2:L (max (max (max (max (max (max k1 k2) k3) k4) k5) k6) k7) b:=h2.le.mono (by omega)
 have i3:L (max (max (max (max (max (max k1 k2) k3) k4) k5) k6) k7) c:=h3.le.mono (by omega)
 have i4:L (max (max (max (max (max (max k1 k2) k3) k4) k5) k6) k7) p:=h4.le.mono (by omega)
 have i5:L (max (max (max (max (max (max k1 k2) k3) k4) k5) k6) k7) q:=h5.le.mono (by omega)
 have i6:L (max (max (max (max (max (max k1 k2) k3) k4) k5) k6) k7) r:=h6.le.mono (by omega)
 have i7:L (max (max (max (max (max (max k1 k2) k3) k4) k5) k6) k7) s:=h7.le.mono (by omega)
 generalize max (max (max (max (max (max k1 k2) k3) k4) k5) k6) k7=n at *
 unfold AM.apB
 have j1:=(i1.mul i4).mul (i5.mono (m:=n+1) (by omega))
 have j2:=(i3.mul i6).mul (i7.mono (m:=n+1) (by omega))
 have j3:=(show L (n+3) 2 from (show L 1 2 by decide).mono (by omega)).mul (j1.add j2)
 have j4:=(i2.mono (m:=n+2) (by omega)).mul ((i4.mul i7).add (i5.mul i6))
 exact (j3.add (j4.mono (by omega))).mono (by omega)⟩
theorem HZ (f:Fm) (m:Mt) (x y:Int):(f.app m).val x y=f.val (m.a*x+m.b*y) (m.c*x+m.d*y):=by
 simp only [Fm.app,Fm.val,vl,apB];grind
theorem fP (f:Fm) (m n:Mt):(f.app m).app n=f.app (m.mul n):=by
 simp only [Fm.app,Mt.mul,vl,apB,Fm.mk.injEq]
 refine ⟨?_,?_,?_⟩ <;> grind
theorem uO (f:Fm) (m:Mt):(f.app m).disc=f.disc*(m.det*m.det):=by
 simp only [Fm.app,Fm.disc,dsc,vl,apB,Mt.det];grind
theorem fM (m n:Mt):(m.mul n).det=m.det*n.det:=by
 simp only [Mt.mul,Mt.det];grind
theorem ra (f:Fm):f.app .one=f:=by
 simp only [Fm.app,Mt.one,vl,apB];ext <;> simp <;> grind
theorem sgn_zero_iff {x:Int}:sgn x=0↔x=0:=by unfold sgn;split <;> (try split) <;> omega
theorem sgn_lt_iff {x:Int}:sgn x < 0↔x < 0:=by unfold sgn;split <;> (try split) <;> omega
theorem sgn_gt_iff {x:Int}:sgn x > 0↔0 < x:=by unfold sgn;split <;> (try split) <;> omega
theorem sgn_le_iff {x:Int}:sgn x≤0↔x≤0:=by unfold sgn;split <;> (try split) <;> omega
theorem sgn_ge_iff {x:Int}:sgn x ≥ 0↔0≤x:=by unfold sgn;split <;> (try split) <;> omega
theorem ur {x:Int} (h:(jW x == 0)=true):(sgn (if x < 0 then 0 else x - rootV x*rootV x) == 0)=fh x:=by
 have h0:¬ x < 0:=fun h1=>by rw [(gM h1).2] at h;cases h
 rw [if_neg h0,rY,decide_eq_true (show 0≤x by omega),Bool.true_and,Bool.eq_iff_iff]
 simp [sgn_zero_iff]
theorem G5 {x:Int} (h:(jW x == 0)=false):false=fh x:=by
 have h0:x < 0:=by
  rcases Int.lt_or_le x 0 with h1 | h1
  ·exact h1
  rw [gO (by omega)] at h;cases h
 rw [rY,decide_eq_false (by omega)];rfl
def ck (a b c:Int):Int:=if fh (dsc a b c) then 5 else if dsc a b c < 0∧a≤0 then 1 else 0
def prim (a b c:Int):Bool:=decide (Int.gcd a (Int.gcd b c:Int)=1)
def rdd (a b c:Int):Bool:=decide (ck a b c=0) && decide (dsc a b c≤0) && decide ((b.natAbs:Int)≤a) && decide (a≤c) && (decide ((b.natAbs:Int) < a) && decide (a < c) || decide (0≤b))
theorem Ev {a b c:Int} (h:fh (dsc a b c)=true):5=ck a b c:=by unfold ck;rw [if_pos h]
theorem Au {a b c:Int} (h:fh (dsc a b c)=false) (h1:sgn (dsc a b c) < 0) (h2:sgn a≤0):1=ck a b c:=by
 unfold ck;rw [if_neg (by simp [h]),if_pos ⟨sgn_lt_iff.1 h1,sgn_le_iff.1 h2⟩]
theorem Ew {a b c:Int} (h:fh (dsc a b c)=false) (_h1:sgn (dsc a b c) < 0) (h2:¬ sgn a≤0):0=ck a b c:=by
 unfold ck;rw [if_neg (by simp [h]),if_neg (fun h3=>h2 (sgn_le_iff.2 h3.2))]
theorem Ar {a b c:Int} (h:fh (dsc a b c)=false) (h1:¬ sgn (dsc a b c) < 0):0=ck a b c:=by
 unfold ck;rw [if_neg (by simp [h]),if_neg (fun h3=>h1 (sgn_lt_iff.2 h3.1))]
theorem AW {b c:Int} {n:Nat} (hb:L n b) (hc:L n c):LB ((Int.gcd b c:Nat):Int) n:=⟨by
 by_cases h:b=0
 ·subst h;exact L.of_le hc (by simp)
 refine L.of_le hb ?_
 rw [Int.natAbs_natCast]
 exact Nat.le_of_dvd (by omega) (by simpa using Int.natAbs_dvd_natAbs.2 (Int.gcd_dvd_left ..))⟩
theorem cmpI_eq_zero {a b:Int}:bA a b=0↔a=b:=by
 constructor
 ·exact kd
 rintro rfl;exact ik a
theorem cmpI_le_zero {a b:Int}:bA a b≤0↔a≤b:=by unfold bA;split <;> (try split) <;> omega
theorem cmpI_lt_zero {a b:Int}:bA a b < 0↔a < b:=by unfold bA;split <;> (try split) <;> omega
theorem cmpI_gt_zero {a b:Int}:bA a b > 0↔b < a:=by unfold bA;split <;> (try split) <;> omega
theorem BX (a b c:Int):(bA (Int.gcd a (Int.gcd b c:Int):Nat) 1 == 0)=prim a b c:=by
 unfold prim
 rw [Bool.eq_iff_iff]
 simp only [beq_iff_eq,cmpI_eq_zero,decide_eq_true_iff]
 omega
end
section
open Go Go.RowKit
section
variable {a b c:Int}
theorem rdd_iff:rdd a b c=true↔ck a b c=0∧dsc a b c≤0∧(b.natAbs:Int)≤a∧a≤c∧(((b.natAbs:Int) < a∧a < c)∨0≤b):=by
 unfold rdd;simp [and_assoc]
theorem kl (h:¬ (ck a b c=0∧dsc a b c≤0∧(b.natAbs:Int)≤a∧a≤c∧(((b.natAbs:Int) < a∧a < c)∨0≤b))):false=rdd a b c:=by
 rw [← rdd_iff] at h;exact (Bool.eq_false_iff.2 h).symm
theorem LL (h:ck a b c≠0):false=rdd a b c:=kl fun x=>h x.1
theorem LJ (h:sgn (dsc a b c) > 0):false=rdd a b c:=kl fun x=>by have:=sgn_gt_iff.1 h;omega
theorem LI (h1:ck a b c=0) (h2:¬ sgn (dsc a b c) > 0) (h5:bA b.natAbs a < 0) (h6:bA a c < 0):true=rdd a b c:=by
 rw [sgn_gt_iff] at h2;rw [cmpI_lt_zero] at h5 h6
 exact (rdd_iff.2 ⟨h1,by omega,by omega,by omega,.inl ⟨h5,h6⟩⟩).symm
theorem D0 (h1:ck a b c=0) (h2:¬ sgn (dsc a b c) > 0) (h3:bA b.natAbs a≤0) (h4:bA a c≤0) (h5:¬ (bA b.natAbs a < 0∧bA a c < 0)):decide (sgn b ≥ 0)=rdd a b c:=by
 rw [sgn_gt_iff] at h2;rw [cmpI_lt_zero,cmpI_lt_zero] at h5;rw [cmpI_le_zero] at h3 h4
 rw [Bool.eq_iff_iff,rdd_iff,decide_eq_true_iff,sgn_ge_iff]
 constructor
 ·intro h;exact ⟨h1,by omega,h3,h4,.inr h⟩
 rintro ⟨_,_,_,_,h | h⟩
 ·exact absurd h h5
 exact h
theorem LH (h:¬ bA a c≤0):false=rdd a b c:=kl fun x=>h (cmpI_le_zero.2 x.2.2.2.1)
theorem LG (h:¬ bA b.natAbs a≤0):false=rdd a b c:=kl fun x=>h (cmpI_le_zero.2 x.2.2.1)
end
end
section
open Go Go.RowKit
def Fm.red (f:Fm):Bool:=rdd f.a f.b f.c
def Mt.S:Mt:=⟨0,-1,1,0⟩
def Mt.T (k:Int):Mt:=⟨1,k,0,1⟩
def Fm.k (f:Fm):Int:=(f.a - f.b) / (2*f.a)
def stp (s:Fm × Mt):Fm × Mt :=
 let f1:=s.1.app (.T s.1.k)
 let m1:=s.2.mul (.T s.1.k)
 if f1.red then (f1,m1) else (f1.app .S,m1.mul .S)
def eW:Nat→Fm × Mt→Fm × Mt
 | 0,s=>s
 | n+1,s=>if s.1.red then s else eW n (stp s)
def Fm.mu (f:Fm):Nat:=if f.red then 0 else f.a.toNat+1
def Fm.pos (f:Fm):Prop:=0 < f.a∧f.disc < 0
theorem da (x:Int):0≤x*x:=by
 rcases Int.le_total 0 x with h | h
 ·exact Int.mul_nonneg h h
 exact Int.mul_nonneg_of_nonpos_of_nonpos h h
theorem kh {x y:Int} (h:x.natAbs≤y.natAbs):x*x≤y*y:=by
 rw [← Int.natAbs_mul_self (a:=x),← Int.natAbs_mul_self (a:=y)]
 exact_mod_cast Nat.mul_le_mul h h
theorem iS {x:Int} {m:Int} (hm:0≤m) (h:x*x≤m*m):(x.natAbs:Int)≤m:=by
 rcases Int.lt_or_le m (x.natAbs:Int) with h1 | h1
 ·exfalso
  have h2:m*m < (x.natAbs:Int)*x.natAbs:=Int.mul_self_lt_mul_self hm h1
  rw [Int.natAbs_mul_self'] at h2
  omega
 exact h1
theorem Fm.pos.c {f:Fm} (h:f.pos):0 < f.c:=by
 obtain ⟨h1,h2⟩:=h
 unfold Fm.disc dsc at h2
 have h3:=da f.b
 rcases Int.lt_or_le 0 f.c with h4 | h4
 ·exact h4
 have:f.a*f.c≤0:=Int.mul_nonpos_of_nonneg_of_nonpos (by omega) h4
 have e:4*f.a*f.c=4*(f.a*f.c):=by rw [Int.mul_assoc]
 omega
theorem yF (f:Fm) (k:Int):f.app (.T k)=⟨f.a,f.b+2*f.a*k,f.a*k*k+f.b*k+f.c⟩:=by
 simp only [Fm.app,Mt.T,vl,apB,Fm.mk.injEq];refine ⟨?_,?_,?_⟩ <;> grind
theorem yG (f:Fm):f.app .S=⟨f.c,-f.b,f.a⟩:=by
 simp only [Fm.app,Mt.S,vl,apB,Fm.mk.injEq];refine ⟨?_,?_,?_⟩ <;> grind
theorem p6 (k:Int):(Mt.T k).det=1:=by simp [Mt.T,Mt.det]
theorem sM:Mt.S.det=1:=by simp [Mt.S,Mt.det]
theorem b_T {f:Fm} (h:0 < f.a):-f.a < f.b+2*f.a*f.k∧f.b+2*f.a*f.k≤f.a∧((f.b+2*f.a*f.k).natAbs≤f.b.natAbs):=by
 have h1:=Int.mul_ediv_add_emod (f.a - f.b) (2*f.a)
 have h2:=Int.emod_nonneg (f.a - f.b) (show 2*f.a≠0 by omega)
 have h3:=Int.emod_lt_of_pos (f.a - f.b) (show 0 < 2*f.a by omega)
 have hk:(f.a - f.b) / (2*f.a)=f.k:=rfl
 rw [hk] at h1
 generalize (f.a - f.b) % (2*f.a)=r at *
 have e:f.b+2*f.a*f.k=f.a - r:=by omega
 refine ⟨by omega,by omega,?_⟩
 by_cases hb:-f.a < f.b∧f.b≤f.a
 ·have h0:f.k=0:=by unfold Fm.k;exact Int.ediv_eq_zero_of_lt (by omega) (by omega)
  rw [h0];simp
 omega
theorem ly {f:Fm} {m:Mt} (h:m.det=1):(f.app m).disc=f.disc:=by rw [uO,h];omega
structure Good (f0:Fm) (M:Int) (s:Fm × Mt):Prop where
 eq:s.1=f0.app s.2
 det:s.2.det=1
 pos:s.1.pos
 ha:s.1.a≤M
 hc:s.1.c≤M
theorem Nv {f:Fm} (h:f.pos):f.a*f.k*f.k+f.b*f.k+f.c≤f.c:=by
 obtain ⟨h1,h2,h3⟩:=b_T h.1
 have h4:=kh h3
 have e:4*f.a*(f.a*f.k*f.k+f.b*f.k)=(f.b+2*f.a*f.k)*(f.b+2*f.a*f.k) - f.b*f.b:=by grind
 rcases Int.lt_or_le 0 (f.a*f.k*f.k+f.b*f.k) with h5 | h5
 ·have:=Int.mul_pos (show 0 < 4*f.a by have:=h.1;omega) h5
  omega
 omega
theorem nQ {f:Fm} {m:Mt} (h:f.pos) (hd:m.det=1) (ha:0 < (f.app m).a):(f.app m).pos:=⟨ha,by rw [ly hd];exact h.2⟩
theorem Good.T {f0:Fm} {M:Int} {s:Fm × Mt} (h:Good f0 M s):Good f0 M (s.1.app (.T s.1.k),s.2.mul (.T s.1.k)):=by
 have e:=yF s.1 s.1.k
 refine ⟨?_,?_,nQ h.pos (p6 _) ?_,?_,?_⟩
 ·show s.1.app _=f0.app _
  rw [← fP,← h.eq]
 ·show (s.2.mul _).det=1
  rw [fM,h.det,p6];rfl
 ·rw [e];exact h.pos.1
 ·show (s.1.app _).a≤M
  rw [e];exact h.ha
 show (s.1.app _).c≤M
 rw [e];exact Int.le_trans (Nv h.pos) h.hc
theorem Good.S {f0:Fm} {M:Int} {s:Fm × Mt} (h:Good f0 M s):Good f0 M (s.1.app .S,s.2.mul .S):=by
 have e:=yG s.1
 refine ⟨?_,?_,nQ h.pos sM ?_,?_,?_⟩
 ·show s.1.app _=f0.app _
  rw [← fP,← h.eq]
 ·show (s.2.mul _).det=1
  rw [fM,h.det,sM];rfl
 ·rw [e];exact h.pos.c
 ·show (s.1.app _).a≤M
  rw [e];exact h.hc
 show (s.1.app _).c≤M
 rw [e];exact h.ha
theorem Good.stp {f0:Fm} {M:Int} {s:Fm × Mt} (h:Good f0 M s):Good f0 M (stp s):=by
 unfold AM.stp
 simp only
 split
 ·exact h.T
 exact h.T.S
theorem oT {x:Int} (h:x < 0):fh x=false:=by unfold fh;rw [decide_eq_false (by omega)];rfl
theorem tJ {f:Fm} (h:f.pos):ck f.a f.b f.c=0:=by
 unfold ck
 rw [oT (show dsc f.a f.b f.c < 0 from h.2),if_neg (by simp),if_neg]
 intro h1;have:=h.1;omega
theorem qn {f:Fm} (h:f.pos):f.red=true↔(f.b.natAbs:Int)≤f.a∧f.a≤f.c∧(((f.b.natAbs:Int) < f.a∧f.a < f.c)∨0≤f.b):=by
 unfold Fm.red
 rw [rdd_iff]
 have h1:dsc f.a f.b f.c < 0:=h.2
 constructor
 ·rintro ⟨_,_,h2⟩;exact h2
 intro h2;exact ⟨tJ h,by omega,h2⟩
theorem zM {s:Fm × Mt} (h:s.1.pos) (hr:s.1.red=false):(stp s).1.mu < s.1.mu:=by
 obtain ⟨h1,h2,h3⟩:=b_T h.1
 have e:=yF s.1 s.1.k
 have hp:(s.1.app (.T s.1.k)).pos:=nQ h (p6 _) (by rw [e];exact h.1)
 have hm:s.1.mu=s.1.a.toNat+1:=by unfold Fm.mu;rw [hr];rfl
 rw [hm]
 unfold AM.stp
 simp only
 split
 ·next hg=>unfold Fm.mu;rw [hg];simp
 next hg =>
 have hp2:((s.1.app (.T s.1.k)).app .S).pos:=nQ hp sM (by rw [yG];exact hp.c)
 unfold Fm.mu
 split
 ·omega
 next hg2 =>
 have hg1:¬ ((s.1.app (.T s.1.k)).red=true):=hg
 rw [qn hp] at hg1
 rw [qn hp2] at hg2
 rw [yG] at hg2 ⊢
 rw [e] at hg1 hg2 ⊢
 simp only at hg1 hg2 ⊢
 have hc:0 < s.1.a*s.1.k*s.1.k+s.1.b*s.1.k+s.1.c:=by have:=hp.c;rw [e] at this;exact this
 have ha:=h.1
 omega
theorem ru {n:Nat} {s:Fm × Mt} (h:s.1.red=true):eW n s=s:=by
 cases n with
 | zero=>rfl
 | succ n=>unfold eW;rw [if_pos h]
theorem rq {n:Nat} {s:Fm × Mt} (h:s.1.red=false) (hn:s.1.mu≤n):eW n s=eW (n - 1) (stp s):=by
 have h0:0 < s.1.mu:=by unfold Fm.mu;rw [h];simp
 obtain ⟨k,rfl⟩:∃ k,n=k+1:=⟨n - 1,by omega⟩
 rw [Nat.add_sub_cancel]
 show (if s.1.red then s else eW k (stp s))=_
 rw [h];rfl
theorem pB {f0:Fm} {M:Int}:∀ (n:Nat) {s:Fm × Mt},Good f0 M s→s.1.mu≤n→Good f0 M (eW n s)∧(eW n s).1.red=true
 | 0,s,h,hn=>by
  refine ⟨h,?_⟩
  unfold Fm.mu at hn
  cases hr:s.1.red with
  | true=>exact hr
  | false=>rw [hr] at hn;simp at hn
 | n+1,s,h,hn=>by
  cases hr:s.1.red with
  | true=>rw [ru hr];exact ⟨h,hr⟩
  | false =>
   rw [rq hr hn,Nat.add_sub_cancel]
   have:=zM h.pos hr
   exact pB n h.stp (by omega)
def rdE (a b c:Int):Int:=if ck a b c=0∧0 < dsc a b c then 5 else ck a b c
def rdS (a b c:Int):Fm × Mt:=if rdE a b c=0 then eW (Fm.mu ⟨a,b,c⟩) (⟨a,b,c⟩,.one) else (⟨0,0,0⟩,⟨0,0,0,0⟩)
def rdF (a b c:Int):Fm:=(rdS a b c).1
def rdM (a b c:Int):Mt:=(rdS a b c).2
theorem rX:fh 0=true:=by decide
theorem lj {a b c:Int} (h:rdE a b c=0):Fm.pos ⟨a,b,c⟩:=by
 unfold rdE at h
 split at h
 ·cases h
 next h1 =>
 have h2:ck a b c=0:=h
 have h3:¬ 0 < dsc a b c:=fun x=>h1 ⟨h2,x⟩
 unfold ck at h2
 split at h2
 ·cases h2
 next h4 =>
 have h5:dsc a b c≠0:=fun e=>h4 (by rw [e];exact rX)
 split at h2
 ·cases h2
 next h6 =>
 have h7:dsc a b c < 0:=by omega
 refine ⟨?_,h7⟩
 show 0 < a
 rcases Int.lt_or_le 0 a with h8 | h8
 ·exact h8
 exact absurd ⟨h7,h8⟩ h6
theorem jh {a b c:Int} (h:Fm.pos ⟨a,b,c⟩):rdE a b c=0:=by
 unfold rdE
 have h1:dsc a b c < 0:=h.2
 rw [if_neg (by omega)]
 exact tJ h
theorem oU {f:Fm} {M:Int} (h:f.pos) (ha:f.a≤M) (hc:f.c≤M):Good f M (f,.one):=⟨(ra f).symm,by simp [Mt.one,Mt.det],h,ha,hc⟩
theorem km {a b c M:Int} (h:Fm.pos ⟨a,b,c⟩) (ha:a≤M) (hc:c≤M):Good ⟨a,b,c⟩ M (rdS a b c)∧(rdF a b c).red=true:=by
 unfold rdF rdS
 rw [if_pos (jh h)]
 exact pB _ (oU h ha hc) (Nat.le_refl _)
theorem lT {a b c:Int} (h:rdE a b c≠0):rdF a b c=⟨0,0,0⟩∧rdM a b c=⟨0,0,0,0⟩:=by
 unfold rdF rdM rdS;rw [if_neg h];exact ⟨rfl,rfl⟩
end
section
open Go Go.RowKit
theorem me {a b c p r v M:Int} (hD:b*b - 4*a*c≤-3) (ha:0≤a) (haM:a≤M) (hv:a*p*p+b*p*r+c*r*r=v) (h0:0≤v) (hM:v≤M):(r.natAbs:Int)≤2*M:=by
 refine iS (by omega) ?_
 have e:4*(a*v)=(2*a*p+b*r)*(2*a*p+b*r)+(4*a*c - b*b)*(r*r):=by rw [← hv];grind
 have h1:=da (2*a*p+b*r)
 have h2:=da r
 have h3:3*(r*r)≤(4*a*c - b*b)*(r*r):=Int.mul_le_mul_of_nonneg_right (by omega) h2
 have h4:a*v≤M*M:=Int.mul_le_mul haM hM h0 (by omega)
 have e2:2*M*(2*M)=4*(M*M):=by grind
 omega
theorem CP (a b c:Int):(b*b - 4*a*c) % 4=0∨(b*b - 4*a*c) % 4=1:=by
 have e:4*a*c=4*(a*c):=by rw [Int.mul_assoc]
 rw [e]
 have h:b*b % 4=0∨b*b % 4=1:=by
  have h1:=Int.emod_add_mul_ediv b 2
  rcases Int.emod_two_eq b with h2 | h2
  ·left
   rw [h2] at h1
   have:b*b=4*(b / 2*(b / 2)):=by rw [← h1];grind
   omega
  right
  rw [h2] at h1
  have:b*b=4*(b / 2*(b / 2)+b / 2)+1:=by grind
  omega
 omega
theorem w5 {f:Fm} (h:f.pos):f.b*f.b - 4*f.a*f.c≤-3:=by
 have h1:f.b*f.b - 4*f.a*f.c < 0:=h.2
 have h2:=CP f.a f.b f.c
 omega
theorem Good.b {f0:Fm} {M:Int} {s:Fm × Mt} (h:Good f0 M s):(s.1.b.natAbs:Int)≤2*M:=by
 have h1:=w5 h.pos
 have h2:=h.pos.1
 have h3:=h.pos.c
 have h4:s.1.a*s.1.c≤M*M:=Int.mul_le_mul h.ha h.hc (by omega) (by have:=h.ha;omega)
 refine iS (by have:=h.ha;omega) ?_
 have e2:2*M*(2*M)=4*(M*M):=by grind
 have e:4*s.1.a*s.1.c=4*(s.1.a*s.1.c):=by rw [Int.mul_assoc]
 omega
theorem Good.m {f0:Fm} {M:Int} {s:Fm × Mt} (h:Good f0 M s) (h0:f0.pos) (ha:f0.a≤M) (hc:f0.c≤M) :
  (s.2.a.natAbs:Int)≤2*M∧(s.2.b.natAbs:Int)≤2*M∧(s.2.c.natAbs:Int)≤2*M∧(s.2.d.natAbs:Int)≤2*M:=by
 have hD:=w5 h0
 have hD':f0.b*f0.b - 4*f0.c*f0.a≤-3:=by
  have e:4*f0.c*f0.a=4*f0.a*f0.c:=by grind
  rw [e];exact hD
 have e1:vl f0.a f0.b f0.c s.2.a s.2.c=s.1.a:=by rw [h.eq];rfl
 have e2:vl f0.a f0.b f0.c s.2.b s.2.d=s.1.c:=by rw [h.eq];rfl
 unfold vl at e1 e2
 have p1:=h.pos.1
 have p2:=h.pos.c
 have q1:=h0.1
 have q2:=h0.c
 refine ⟨me hD' (Int.le_of_lt q2) hc (p:=s.2.c) ?_ (Int.le_of_lt p1) h.ha,me hD' (Int.le_of_lt q2) hc (p:=s.2.d) ?_ (Int.le_of_lt p2) h.hc,me hD (Int.le_of_lt q1) ha e1 (Int.le_of_lt p1) h.ha,me hD (Int.le_of_lt q1) ha e2 (Int.le_of_lt p2) h.hc⟩
 ·rw [← e1];grind
 rw [← e2];grind
theorem L.max2 {a c:Int} {n:Nat} (ha:L n a) (hc:L n c):∃ M,a≤M∧c≤M∧0≤M∧L n M:=by
 rcases Int.le_total (a.natAbs:Int) c.natAbs with h | h
 ·exact ⟨c.natAbs,by omega,by omega,by omega,hc.abs⟩
 exact ⟨a.natAbs,by omega,by omega,by omega,ha.abs⟩
theorem L.two {x M:Int} {n:Nat} (hM:L n M) (h0:0≤M) (h:(x.natAbs:Int)≤2*M):L (n+1) x:=by
 have:L (n+1) (2*M):=by
  have:=hM.add hM
  rwa [← Int.two_mul] at this
 exact this.of_le (by omega)
structure LF (n:Nat) (f:Fm):Prop where
 a:L n f.a
 b:L n f.b
 c:L n f.c
structure LM (n:Nat) (m:Mt):Prop where
 a:L n m.a
 b:L n m.b
 c:L n m.c
 d:L n m.d
theorem Good.L {f0:Fm} {M:Int} {n:Nat} {s:Fm × Mt} (h:Good f0 M s) (h0:f0.pos) (ha:f0.a≤M) (hc:f0.c≤M) (hM:L n M):LF (n+1) s.1∧LM (n+1) s.2:=by
 have p1:=h.pos.1
 have p2:=h.pos.c
 have p3:=h.ha
 have p4:=h.hc
 obtain ⟨m1,m2,m3,m4⟩:=h.m h0 ha hc
 have hM0:0≤M:=by omega
 exact ⟨⟨hM.two hM0 (by omega),hM.two hM0 h.b,hM.two hM0 (by omega)⟩,hM.two hM0 m1,hM.two hM0 m2,hM.two hM0 m3,hM.two hM0 m4⟩
theorem D1 {a b c:Int} {n:Nat} (ha:L n a) (_hb:L n b) (hc:L n c):LF (n+1) (rdF a b c)∧LM (n+1) (rdM a b c):=by
 by_cases h:rdE a b c=0
 ·obtain ⟨M,h1,h2,h3,h4⟩:=ha.max2 hc
  have hp:=lj h
  have:=(km hp h1 h2).1.L hp h1 h2 h4
  exact this
 have h0:L (n+1) 0:=by unfold L;exact Nat.lt_of_lt_of_le (by decide) (yW (n+1))
 rw [(lT h).1,(lT h).2]
 exact ⟨⟨h0,h0,h0⟩,h0,h0,h0,h0⟩
section
variable {a b c:Int} {k l m:Nat} [h1:LB a k] [h2:LB b l] [h3:LB c m]
theorem rdS_LB:LF (max (max k l) m+1) (rdF a b c)∧LM (max (max k l) m+1) (rdM a b c):=D1 (h1.le.mono (by omega)) (h2.le.mono (by omega)) (h3.le.mono (by omega))
instance LB.rdFa:LB (rdF a b c).a (max (max k l) m+1):=⟨rdS_LB.1.a⟩
instance LB.rdFb:LB (rdF a b c).b (max (max k l) m+1):=⟨rdS_LB.1.b⟩
instance LB.rdFc:LB (rdF a b c).c (max (max k l) m+1):=⟨rdS_LB.1.c⟩
instance LB.rdMa:LB (rdM a b c).a (max (max k l) m+1):=⟨rdS_LB.2.a⟩
instance LB.rdMb:LB (rdM a b c).b (max (max k l) m+1):=⟨rdS_LB.2.b⟩
instance LB.rdMc:LB (rdM a b c).c (max (max k l) m+1):=⟨rdS_LB.2.c⟩
instance LB.rdMd:LB (rdM a b c).d (max (max k l) m+1):=⟨rdS_LB.2.d⟩
end
def oH (σ:Nat→Nat):AV→AV
 | .loc m o=>.loc (σ m) o
 | .vec m=>.vec (σ m)
 | .fnl f m=>.fnl f (σ m)
 | v=>v
theorem BN {h:Hp} {r:Nat→Value} {σ:Nat→Nat}:∀ (v:AV) (x:Value),AVRep h r (oH σ v) x→AVRep h (fun n=>r (σ n)) v x
 | .p _,_,k=>k
 | .t _,_,k=>k
 | .loc _ _,_,k=>k
 | .vec _,_,k=>k
 | .ip _,_,k=>k
 | .fn _ _,_,k=>k
 | .fnl _ _,_,k=>k
 | .ax _,_,k=>k
 | .junk,_,k=>k
theorem CallM.ren {P:Program} {f:FuncId} {args jE:List AV} {o o2 o' o2':Own} {res:AV} (hc:CallM P f args o res o') (σ:Nat→Nat) (hres:men res=[])
  (ha:jE=args.map (oH σ)) (hinj:∀ m n,o m≠none→o n≠none→σ m=σ n→m=n)
  (h1:∀ m,o m≠none→o2 (σ m)=o m) (_h2:∀ n,o2 n≠none→∃ m,o m≠none∧σ m=n)
  (h3:∀ m,o m≠none→o2' (σ m)=o' m) (h4:∀ n,o2' n≠none→∃ m,o m≠none∧σ m=n):CallM P f jE o2 res o2':=by
 refine ⟨hc.fn,?_⟩
 intro h r w cargs hra hbf
 have hra':RepArgs h (fun n=>r (σ n)) args cargs.toList:=by
  rw [ha] at hra
  have:∀ (as0:List AV) (xs:List Value),RepArgs h r (as0.map (oH σ)) xs→RepArgs h (fun n=>r (σ n)) as0 xs:=by
   intro as0
   induction as0 with
   | nil=>intro xs k;cases xs <;> exact k
   | cons p ps ih=>intro xs k;cases xs with
    | nil=>exact k.elim
    | cons x xs=>exact ⟨BN _ _ k.1,ih xs k.2⟩
  exact this _ _ hra
 have e2:∀ m,o m≠none→o2 (σ m)≠none:=fun m hm=>by rw [h1 m hm];exact hm
 refine Calls.mono (hc.go h (fun n=>r (σ n)) w cargs hra' ⟨fun m b hb=>hbf.ow (σ m) b (by rw [h1 m (by rw [hb];simp)];exact hb),fun m n k hm hn e f=>hinj m n hm hn (hbf.inj _ _ k (e2 m hm) (e2 n hn) e f),hbf.hi,fun m k hm e=>hbf.ho _ k (e2 m hm) e,hbf.gl⟩) ?_
 rintro e w' ⟨v,h',rfl,hv,q⟩
 refine ⟨v,h',rfl,AVRep.rebind _ _ (fun m hm=>by rw [hres] at hm;simp at hm) hv,?_⟩
 refine ⟨fun n b hb=>?_,fun n hn=>?_,q.hi,fun n k hn e=>?_,q.os,q.tape,q.output,q.size,fun k hk hno=>q.old k hk ?_,q.hg,fun k hk=>?_⟩
 ·obtain ⟨m,hm,rfl⟩:=h4 n (by rw [hb];simp)
  exact q.ow m b (by rw [← h3 m hm];exact hb)
 ·obtain ⟨m,hm,rfl⟩:=h4 n hn
  exact e2 m hm
 ·obtain ⟨m,hm,rfl⟩:=h4 n hn
  exact q.ho m k (by rw [← h3 m hm];exact hn) e
 ·rintro ⟨m,hm,e⟩
  exact hno ⟨σ m,e2 m hm,e⟩
 rcases q.hn k hk with g | g | ⟨m,hm,e⟩
 ·exact .inl g
 ·exact .inr (.inl g)
 exact .inr (.inr ⟨σ m,e2 m hm,e⟩)
theorem CallM.ren1 {P:Program} {f:FuncId} {args jE:List AV} {b b':Blk} {res:AV} (m:Nat) (hc:CallM P f args (upd O 0 (some b)) res (upd O 0 (some b'))) (hres:men res=[]) (ha:jE=args.map (oH fun _=>m)) :
  CallM P f jE (upd O m (some b)) res (upd O m (some b')):=by
 have z:∀ (b:Blk) (k n:Nat),upd O k (some b) n≠none→n=k:=fun b k n hn=>by
  by_cases e:n=k
  ·exact e
  rw [aR _ _ _ _ e] at hn;exact absurd rfl hn
 refine hc.ren (fun _=>m) hres ha (fun p q hp hq _=>by rw [z _ _ _ hp,z _ _ _ hq]) (fun p hp=>by rw [z _ _ _ hp];simp) (fun n hn=>⟨0,by simp,(z _ _ _ hn).symm⟩) (fun p hp=>by rw [z _ _ _ hp];simp) (fun n hn=>⟨0,by simp,(z _ _ _ hn).symm⟩)
theorem CallM.ren2 {P:Program} {f:FuncId} {args jE:List AV} {b b' c c':Blk} {res:AV} (m n:Nat) (hmn:Nat.beq m n=false) (hc:CallM P f args (upd (upd O 0 (some b)) 1 (some c)) res (upd (upd O 0 (some b')) 1 (some c'))) (hres:men res=[]) (ha:jE=args.map (oH fun k=>bif Nat.beq k 0 then m else n)) :
  CallM P f jE (upd (upd O m (some b)) n (some c)) res (upd (upd O m (some b')) n (some c')):=by
 have hne:m≠n:=fun e=>by rw [e,Nat.beq_refl] at hmn;cases hmn
 have z:∀ (b c:Blk) (k l q:Nat),upd (upd O k (some b)) l (some c) q≠none→q=k∨q=l:=fun b c k l q hn=>by
  by_cases e:q=l
  ·exact .inr e
  rw [aR _ _ _ _ e] at hn
  by_cases e2:q=k
  ·exact .inl e2
  rw [aR _ _ _ _ e2] at hn;exact absurd rfl hn
 have s0:(fun k=>bif Nat.beq k 0 then m else n) 0=m:=rfl
 have s1:(fun k=>bif Nat.beq k 0 then m else n) 1=n:=rfl
 refine hc.ren (fun k=>bif Nat.beq k 0 then m else n) hres ha (fun p q hp hq e=>?_) (fun p hp=>?_) (fun q hq=>?_) (fun p hp=>?_) (fun q hq=>?_)
 ·rcases z _ _ _ _ _ hp with rfl | rfl <;> rcases z _ _ _ _ _ hq with rfl | rfl
  ·rfl
  ·exact absurd e hne
  ·exact absurd e.symm hne
  rfl
 ·rcases z _ _ _ _ _ hp with rfl | rfl
  ·show upd _ _ _ m=_;rw [aR _ _ _ _ hne,upd_same];rfl
  show upd _ _ _ n=_;simp
 ·rcases z _ _ _ _ _ hq with rfl | rfl
  ·exact ⟨0,by show some b≠none;simp,rfl⟩
  exact ⟨1,by simp,rfl⟩
 ·rcases z _ _ _ _ _ hp with rfl | rfl
  ·show upd _ _ _ m=_;rw [aR _ _ _ _ hne,upd_same];rfl
  show upd _ _ _ n=_;simp
 rcases z _ _ _ _ _ hq with rfl | rfl
 ·exact ⟨0,by show some b≠none;simp,rfl⟩
 exact ⟨1,by simp,rfl⟩
theorem qh {b:Blk}:∀ m,upd O 0 (some b) m≠none→m < 1:=fun m hm=>by
 by_cases e:m=0
 ·omega
 rw [aR _ _ _ _ e] at hm;exact absurd rfl hm
theorem oC {b b':Blk}:∀ m,upd O 0 (some b') m≠none→upd O 0 (some b) m≠none:=fun m hm=>by
 by_cases e:m=0
 ·subst e;simp
 rw [aR _ _ _ _ e] at hm;exact absurd rfl hm
theorem oO {s:St} {b:Blk} (h:s.own 0=some b):∀ m c,upd O 0 (some b) m=some c→s.own m=some c:=fun m c hm=>by
 by_cases e:m=0
 ·subst e;rw [upd_same] at hm;rw [h,hm]
 rw [aR _ _ _ _ e] at hm;cases hm
theorem iW {k:Nat} {b:Blk}:∀ m,upd O k (some b) m≠none→m∈[k]:=fun m hm=>by
 by_cases e:m=k
 ·simp [e]
 rw [aR _ _ _ _ e] at hm;exact absurd rfl hm
theorem kR {own:Own} {k:Nat} {b:Blk} (h:own k=some b):∀ m∈[k],own m=upd O k (some b) m:=fun m hm=>by
 rw [List.mem_singleton.1 hm,upd_same,h]
theorem DR {s:Fm × Mt} (h:(!rdd (s.1.app (.T s.1.k)).a (s.1.app (.T s.1.k)).b (s.1.app (.T s.1.k)).c)=false):stp s=(s.1.app (.T s.1.k),s.2.mul (.T s.1.k)):=by
 unfold stp;simp only;rw [if_pos (show (s.1.app (.T s.1.k)).red=true by unfold Fm.red;simpa using h)]
theorem DS {s:Fm × Mt} (h:(!rdd (s.1.app (.T s.1.k)).a (s.1.app (.T s.1.k)).b (s.1.app (.T s.1.k)).c)=true):stp s=((s.1.app (.T s.1.k)).app .S,(s.2.mul (.T s.1.k)).mul .S):=by
 unfold stp;simp only;rw [if_neg (show ¬ (s.1.app (.T s.1.k)).red=true by unfold Fm.red;simpa using h)]
theorem nI {f0:Fm} {M:Int} {s s' R:Fm × Mt} {n:Nat} (hG:Good f0 M s) (hn:s.1.mu≤n) (hR:eW n s=R) (hr:(!rdd s.1.a s.1.b s.1.c)=true) (e:stp s=s'):(Good f0 M s'∧s'.1.mu≤n - 1∧eW (n - 1) s'=R)∧n - 1 < n:=by
 have hr':s.1.red=false:=by unfold Fm.red;simpa using hr
 have h1:=zM hG.pos hr'
 refine ⟨⟨e ▸ hG.stp,by rw [← e];omega,?_⟩,by omega⟩
 rw [← hR,rq hr' hn,e]
theorem v8 {s R:Fm × Mt} {n:Nat} (hR:eW n s=R) (hr:(!rdd s.1.a s.1.b s.1.c)=false):s=R:=by
 rw [← hR,ru];unfold Fm.red;simpa using hr
theorem D3 {a b c:Int} (h1:(ck a b c == 0)=true) (h2:¬ sgn (dsc a b c) > 0):rdE a b c=0:=by
 have h3:ck a b c=0:=by simpa using h1
 rw [sgn_gt_iff] at h2
 unfold rdE;rw [if_neg (fun x=>h2 x.2),h3]
theorem D2 {a b c:Int} (h1:(ck a b c == 0)=true) (h2:sgn (dsc a b c) > 0):rdE a b c=5:=by
 have h3:ck a b c=0:=by simpa using h1
 rw [sgn_gt_iff] at h2
 unfold rdE;rw [if_pos ⟨h3,h2⟩]
theorem zi {a b c:Int} (h1:(ck a b c == 0)=false):rdE a b c=ck a b c∧rdE a b c≠0:=by
 have h3:ck a b c≠0:=by simpa using h1
 have:rdE a b c=ck a b c:=by unfold rdE;rw [if_neg (fun x=>h3 x.1)]
 exact ⟨this,by rw [this];exact h3⟩
theorem nH {a b c e:Int} (h:rdE a b c=e) (h0:e≠0):AV.t [PF ⟨0,0,0⟩,PM ⟨0,0,0,0⟩,PE e]=AV.t [PF (rdF a b c),PM (rdM a b c),PE (rdE a b c)]:=by
 rw [(lT (h ▸ h0)).1,(lT (h ▸ h0)).2,h]
theorem zh {a b c:Int} {s:Fm × Mt} (h:rdE a b c=0) (hs:s=eW (Fm.mu ⟨a,b,c⟩) (⟨a,b,c⟩,.one)):AV.t [PF s.1,PM s.2,PE 0]=AV.t [PF (rdF a b c),PM (rdM a b c),PE (rdE a b c)]:=by
 unfold rdF rdM rdS;rw [if_pos h,← hs,h]
def smB (a b c p q r:Int):Bool:=decide (rdE a b c=0∧rdE p q r=0∧rdF a b c=rdF p q r)
def Mt.adj (n:Mt):Mt:=⟨n.d,-n.b,-n.c,n.a⟩
def smM (a b c p q r:Int):Mt:=if smB a b c p q r then (rdM a b c).mul (rdM p q r).adj else ⟨0,0,0,0⟩
theorem pn {a b c p q r:Int} (h:¬ (rdE a b c=0∧rdE p q r=0∧rdF a b c=rdF p q r)):AV.t [PM ⟨0,0,0,0⟩,PB false]=AV.t [PM (smM a b c p q r),PB (smB a b c p q r)]:=by
 have h1:smB a b c p q r=false:=decide_eq_false h
 unfold smM;rw [h1];rfl
theorem IU {a b c p q r:Int} (h1:(rdE a b c != 0)=false) (h2:(rdE p q r != 0)=false) (h3:(bA (rdF a b c).a (rdF p q r).a != 0)=false) (h4:(bA (rdF a b c).b (rdF p q r).b != 0)=false) (h5:(bA (rdF a b c).c (rdF p q r).c != 0)=false) :
  AV.t [PM ((rdM a b c).mul (rdM p q r).adj),PB true]=AV.t [PM (smM a b c p q r),PB (smB a b c p q r)]:=by
 have h:smB a b c p q r=true:=decide_eq_true ⟨bS h1,bS h2,Fm.ext (kd (bS h3)) (kd (bS h4)) (kd (bS h5))⟩
 unfold smM;rw [h];rfl
theorem uY {x y:Int} (h:(bA x y != 0)=true):x≠y:=fun e=>bY h (by rw [e,ik])
end
section
open Go Go.RowKit
def prE (d:Int):Int:=if 1 < d % 4∨fh d=true then 5 else 0
def prF (d:Int):Fm:=if prE d=0 then ⟨1,d % 4,-(d / 4)⟩ else ⟨0,0,0⟩
theorem D8 {d:Int} (h:1 < d % 4∨fh d=true):AV.t [PF ⟨0,0,0⟩,PE 5]=AV.t [PF (prF d),PE (prE d)]:=by
 have h1:prE d=5:=if_pos h
 unfold prF;rw [h1,if_neg (by decide)]
theorem Jw {d:Int} (h:¬ 1 < d % 4) (h2:fh d=false):AV.t [PF ⟨1,d % 4,-(d / 4)⟩,PE 0]=AV.t [PF (prF d),PE (prE d)]:=by
 have h1:prE d=0:=if_neg (fun x=>x.elim h (fun y=>by rw [h2] at y;cases y))
 unfold prF;rw [h1,if_pos rfl]
def wd (ws:List Nat) (i:Int):Nat:=if i < 0 then 0 else ws.getD i.toNat 0
theorem ph {ws:List Nat} {i:Int} (h:i < 0∨(ws.length:Int)≤i):wd ws i=0:=by
 unfold wd;split
 ·rfl
 rw [List.getD_eq_getElem?_getD,List.getElem?_eq_none (by omega)];rfl
theorem Dh {ws:List Nat} {i:Int} (h:0≤i):wd ws i=ws.getD i.toNat 0:=by unfold wd;rw [if_neg (by omega)]
theorem mE (ws:List Nat) (i:Nat):wd ws (i:Int)=ws.getD i 0:=by rw [Dh (by omega),Int.toNat_natCast]
theorem dX {ws:List Nat} (h:okW ws) (i:Int):wd ws i < 4294967296:=by
 unfold wd;split
 ·omega
 exact h.getD _
theorem sv (a b:Int):bA (-a) (-b)=bA b a:=by unfold bA;split <;> split <;> (try split) <;> (try split) <;> omega
theorem yz {m n:Nat} (_h:((wl m).length:Int)≠((wl n).length:Int)) (h2:((wl m).length:Int) < ((wl n).length:Int)):-1=bA m n:=by
 rw [fN];have:=iO (m:=m) (n:=n) (by omega);omega
theorem yA {m n:Nat} (h:((wl m).length:Int)≠((wl n).length:Int)) (h2:¬ ((wl m).length:Int) < ((wl n).length:Int)):1=bA m n:=by
 rw [fO];have:=iO (m:=n) (n:=m) (by omega);omega
theorem sa {m n k:Nat} (hl:(wl m).length=(wl n).length) (hk:k < (wl m).length) (he:(wl m).drop (k+1)=(wl n).drop (k+1)) (h:bA ((wl m).getD k 0) ((wl n).getD k 0)≠0) :
  bA (((wl m).getD k 0:Nat):Int) (((wl n).getD k 0:Nat):Int)=bA m n:=by
 have:=uX (bG m) (bG n) hl hk he h
 rwa [bH,bH] at this
theorem xi {z:Int}:IntKind.u64.wrap z=(((z % 18446744073709551616).toNat:Nat):Int):=by rw [mD];omega
theorem A4 {z:Int} (hz:bp z) (h:z < 0):IntKind.u64.wrap (0 - (((z % 18446744073709551616).toNat:Nat):Int))=(z.natAbs:Nat):=by
 obtain ⟨h1,h2⟩:=hz
 rw [mD];omega
theorem Ec {z:Int} (hz:bp z) (h:¬ z < 0):IntKind.u32.wrap (((z % 18446744073709551616).toNat:Nat):Int)=((z.natAbs % 4294967296:Nat):Int):=by
 obtain ⟨h1,h2⟩:=hz
 rw [eD];omega
theorem Ed {z:Int} (hz:bp z) (h:¬ z < 0):IntKind.u32.wrap (((z % 18446744073709551616).toNat / 2 ^ 32:Nat):Int)=((z.natAbs / 2 ^ 32:Nat):Int):=by
 obtain ⟨h1,h2⟩:=hz
 rw [eD];omega
theorem zG {z:Int} (hz:bp z):IntKind.u32.wrap ((z.natAbs / 2 ^ 32:Nat):Int)=((z.natAbs / 2 ^ 32:Nat):Int):=by
 obtain ⟨h1,h2⟩:=hz
 rw [eD];omega
theorem v7 {x y:Int} (h:(!(decide (x < 0) == decide (y < 0)))=true):bA x y=if x < 0 then -1 else 1:=by
 by_cases h1:x < 0 <;> by_cases h2:y < 0 <;> simp [h1,h2] at h ⊢
 ·exact fN (by omega)
 exact fO (by omega)
theorem vr {x y:Int} (h:(!(decide (x < 0) == decide (y < 0)))=false) (h1:x < 0):bA y.natAbs x.natAbs=bA x y:=by
 have h2:y < 0:=by simpa [h1] using h
 rw [← sv y x]
 congr 1 <;> omega
theorem vq {x y:Int} (h:(!(decide (x < 0) == decide (y < 0)))=false) (h1:¬ x < 0):bA x.natAbs y.natAbs=bA x y:=by
 have h2:¬ y < 0:=by simpa [h1] using h
 congr 1 <;> omega
theorem FO {x y:Int} (h:(decide (x < 0) == decide (y < 0))=true):(bA x.natAbs y.natAbs == 0)=decide (x=y):=by
 have h':(x < 0)↔(y < 0):=by simpa using h
 rw [Bool.eq_iff_iff,beq_iff_eq,cmpI_eq_zero,decide_eq_true_iff]
 omega
theorem FN {x y:Int} (h:(decide (x < 0) == decide (y < 0))=false):false=decide (x=y):=by
 symm;apply decide_eq_false
 rintro rfl;simp at h
end
section
open Go Go.RowKit
def rnS (m d:Nat) (b:Blk) (s:St):St:=⟨fun t=>oH (fun k=>bif Nat.beq k m then d else k) ((c8 [d] s).regs t),upd (upd (c8 [d] s).own m none) d (some b)⟩
theorem cr {P:Program} {B:Bool} {N np:Nat} {Q:Exit→St→Prop} {s:St} {c:Code} (m d:Nat) {b:Blk} (hb:s.own m=some b) (hd:Nat.beq m d=false) (hp:Nat.ble np d=true) (h:AWp P B N np c Q (rnS m d b s)) (hl0:lnk b=[]:=by rfl):AWp P B N np c Q s:=by
 have hne:m≠d:=fun e=>by rw [e,Nat.beq_refl] at hd;cases hd
 intro ro hB C hh r a w hn hc
 have hk:=jI [d] hc
 have hown:(c8 [d] s).own d=none:=jp [d] s d (by simp)
 have hmen:=ky [d] s d (by simp)
 have hm:(c8 [d] s).own m=some b:=by
  have:(c8 [d] s).own m=s.own m:=by
   show (bif [d].contains m then none else kM [d] (s.own m))=s.own m
   have:[d].contains m=false:=by simp;exact hne
   rw [this,hb]
   show some (fR [d] b)=some b
   unfold fR;rw [hl0];rfl
  rw [this];exact hb
 have hbr:=hk.wk.ow m b hm
 have hw:=hk.wk.rename (m:=m) (d:=d) (v:=r m) (b:=b) (by rw [hm];simp) hown (by rw [hn.1];exact bL0 hp) (fun _ e=>e) hbr (jq [d] s d (by simp)) hl0
 refine h ro hB C hh (upd r d (r m)) a w hn ⟨hk.sz,hk.df,fun t=>?_,hw⟩
 have hr:=hk.rg t
 have hmt:=hmen t
 show AVRep hh (upd r d (r m)) (oH (fun k=>bif Nat.beq k m then d else k) ((c8 [d] s).regs t)) _
 generalize (c8 [d] s).regs t=v at hr hmt
 have key:∀ k,d≠k→upd r d (r m) (bif Nat.beq k m then d else k)=r k:=fun k hk=>by
  cases e:Nat.beq k m with
  | true=>rw [Nat.eq_of_beq_eq_true e];simp
  | false=>simp only [cond_false];rw [aR _ _ _ _ (fun x=>hk x.symm)]
 cases v with
 | loc k o =>
  obtain ⟨q,h1,h2⟩:=hr
  exact ⟨q,by rw [key k (by simpa [men] using hmt)];exact h1,h2⟩
 | vec k =>
  show _=upd r d (r m) _
  rw [key k (by simpa [men] using hmt)];exact hr
 | p v=>exact hr
 | t vs=>exact hr
 | ip xs=>exact hr
 | fn f caps=>exact hr
 | fnl f k =>
  obtain ⟨q,h1,h2⟩:=hr
  exact ⟨q,by rw [key k (by simpa [men] using hmt)];exact h1,h2⟩
 | ax R=>exact hr
 | junk=>exact hr
def dgs:Nat→Nat→List Nat
 | 0,_=>[]
 | n+1,v=>v % 4294967296 :: dgs n (v / 4294967296)
theorem bZ:∀ (n v:Nat),(dgs n v).length=n
 | 0,_=>rfl
 | n+1,v=>by simp [dgs,bZ n]
theorem dZ:∀ (n v:Nat),okW (dgs n v)
 | 0,_=>okW.nil
 | n+1,v=>by
  intro x hx
  rcases List.mem_cons.1 hx with hx | hx
  ·omega
  exact dZ n _ x hx
theorem kA:∀ (l:List Nat),okW l→dgs l.length (wv l)=l
 | [],_=>rfl
 | x :: l,h=>by
  have hx:=h x (by simp)
  simp only [List.length_cons,dgs,wv]
  rw [show (x+4294967296*wv l) % 4294967296=x by omega,show (x+4294967296*wv l) / 4294967296=wv l by omega,kA l fun y hy=>h y (by simp [hy])]
theorem dU:∀ (n v:Nat),v < 4294967296 ^ n→wv (dgs n v)=v
 | 0,v,h=>by simp at h;subst h;rfl
 | n+1,v,h=>by
  simp only [dgs,wv]
  rw [dU n (v / 4294967296) (by rw [Nat.pow_succ] at h;exact Nat.div_lt_of_lt_mul (by omega))]
  omega
theorem iA (l:List Nat) (k:Nat):wv (l.take (k+1))=wv (l.take k)+4294967296 ^ k*wd l k:=by
 rw [cn,mE]
theorem xQ {a b o:List Nat} {c:Nat} (hv:wv o+4294967296 ^ o.length*c=wv (a.take o.length)+wv (b.take o.length)) :
  wv (o ++ [(c+(wd a o.length+wd b o.length)) % 4294967296])+4294967296 ^ (o.length+1)*((c+(wd a o.length+wd b o.length)) / 4294967296)=wv (a.take (o.length+1))+wv (b.take (o.length+1)):=by
 rw [iU,iA,iA,Nat.pow_succ]
 generalize wd a o.length=x at *
 generalize wd b o.length=y at *
 generalize 4294967296 ^ o.length=p at *
 have e:=Nat.div_add_mod (c+(x+y)) 4294967296
 generalize (c+(x+y)) / 4294967296=q at *
 generalize (c+(x+y)) % 4294967296=s at *
 have e2:p*c+p*x+p*y=p*s+p*4294967296*q:=by
  rw [← Nat.mul_add,← Nat.mul_add,Nat.mul_assoc,← Nat.mul_add];congr 1;omega
 omega
theorem ov {a b o:List Nat} {c:Nat} (ha:okW a) (hb:okW b) (hc:c≤1) (hv:wv o+wv (b.take o.length)=wv (a.take o.length)+4294967296 ^ o.length*c) :
  wv (o ++ [(4294967296+wd a o.length - wd b o.length - c) % 4294967296])+wv (b.take (o.length+1))=wv (a.take (o.length+1))+4294967296 ^ (o.length+1)*(1 - (4294967296+wd a o.length - wd b o.length - c) / 4294967296):=by
 have h1:=dX ha o.length
 have h2:=dX hb o.length
 rw [iU,iA,iA,Nat.pow_succ]
 generalize wd a o.length=x at *
 generalize wd b o.length=y at *
 generalize 4294967296 ^ o.length=p at *
 obtain ⟨t,ht⟩:∃ t,t=4294967296+x - y - c:=⟨_,rfl⟩
 rw [← ht]
 have hq:t / 4294967296=0∨t / 4294967296=1:=by omega
 have e:=Nat.div_add_mod t 4294967296
 generalize t % 4294967296=s at *
 rcases hq with hq | hq
 ·rw [hq] at e ⊢
  have e2:p*s+p*y+p*c=p*x+p*4294967296*1:=by
   rw [← Nat.mul_add,← Nat.mul_add,Nat.mul_assoc,← Nat.mul_add];congr 1;omega
  omega
 rw [hq] at e ⊢
 have e2:p*s+p*y+p*c=p*x:=by
  rw [← Nat.mul_add,← Nat.mul_add];congr 1;omega
 omega
theorem B1 {a b o:List Nat} {c:Nat} (ho:okW o) (hc:c < 4294967296) (ha:a.length≤o.length) (hb:b.length≤o.length) (hv:wv o+4294967296 ^ o.length*c=wv (a.take o.length)+wv (b.take o.length)) :
  o ++ [c % 4294967296]=dgs (o.length+1) (wv a+wv b):=by
 rw [List.take_of_length_le ha,List.take_of_length_le hb] at hv
 rw [Nat.mod_eq_of_lt hc]
 have h:=kA (o ++ [c]) (ho.snoc hc)
 rw [List.length_append,iU,hv] at h
 exact h.symm
theorem zP {a b o:List Nat} {c:Nat} (ho:okW o) (hl:o.length=a.length) (hb:b.length≤a.length) (hab:wv b≤wv a) (hv:wv o+wv (b.take o.length)=wv (a.take o.length)+4294967296 ^ o.length*c) :
  o=dgs a.length (wv a - wv b):=by
 rw [List.take_of_length_le (by omega),List.take_of_length_le (by omega)] at hv
 have h1:=fq ho
 have hc:c=0:=by
  rcases Nat.eq_zero_or_pos c with h | h
  ·exact h
  have:=Nat.le_mul_of_pos_right (4294967296 ^ o.length) h
  omega
 subst hc
 have h:=kA o ho
 rw [hl,show wv o=wv a - wv b by omega] at h
 exact h.symm
theorem B0 (m n:Nat):wv (dgs ((if ((wl n).length:Int) > (wl m).length then ((wl n).length:Int) else (wl m).length).toNat+1) (wv (wl m)+wv (wl n)))=m+n:=by
 rw [bH,bH]
 refine dU _ _ ?_
 have h1:=dx m
 have h2:=dx n
 have key:∀ k,(wl m).length≤k→(wl n).length≤k→m+n < 4294967296 ^ (k+1):=by
  intro k hk1 hk2
  have g1:4294967296 ^ (wl m).length≤4294967296 ^ k:=Nat.pow_le_pow_right (by decide) hk1
  have g2:4294967296 ^ (wl n).length≤4294967296 ^ k:=Nat.pow_le_pow_right (by decide) hk2
  rw [Nat.pow_succ]
  generalize 4294967296 ^ k=p at *
  omega
 apply key
 ·split <;> omega
 split <;> omega
theorem rQ {m n:Nat}:wv (dgs (wl m).length (wv (wl m) - wv (wl n)))=m - n:=by
 rw [bH,bH]
 refine dU _ _ ?_
 have h1:=dx m
 omega
section add
variable {x y:Int}
theorem AI (h:(decide (x < 0) == decide (y < 0))=true):sg (decide (x < 0)) (x.natAbs+y.natAbs)=x+y:=by
 have:=vh h;rwa [bH,bH] at this
theorem HN (h:(decide (x < 0) == decide (y < 0))=false) (hc:x.natAbs < y.natAbs):sg (decide (y < 0)) (y.natAbs - x.natAbs)=x+y:=by
 have:=AN h hc;rwa [bH,bH] at this
theorem HO (h:(decide (x < 0) == decide (y < 0))=false) (hc:y.natAbs≤x.natAbs):sg (decide (x < 0)) (x.natAbs - y.natAbs)=x+y:=by
 have:=AO h hc;rwa [bH,bH] at this
end add
theorem GJ (x y:Int):sg (!(decide (x < 0) == decide (y < 0))) (x.natAbs*y.natAbs)=x*y:=by
 have:=zL x y;rwa [bH,bH] at this
end
section
open Go Go.RowKit
structure CallV (P:Program) (f:FuncId) (args:List AV) (b:Blk):Prop where
 fn:o9 P f
 go:∀ (h:Hp) (r:Nat→Value) (w:World) (cargs:Array Value),RepArgs h r args cargs.toList→Before h r O w →
  Calls P f cargs w fun e w'=>∃ v h',e=.returned v∧BlkRep h' w' v b∧(∀ k,bo v=some k→w.heap.size≤k∧h' k=none)∧After h r O w h' O w'
theorem Eff.callV {P:Program} {dst:Option Nat} {f:FuncId} {args:Array Operand} {tys:Array TypeId} {ty:TypeId} {pos:String} {af:Array Edge} {gd:Option (Nat × Bool)} {d:Nat} {ρ:Operand→AV} {own:Own} {b:Blk}
  (hc:CallV P f (args.toList.map ρ) b) (hl0:lnk b=[]:=by rfl):Eff P ⟨dst,.call ⟨.value (.func f),args,tys⟩,ty,pos,af,gd⟩ d ρ own (.vec d) [] (some b) []:=by
 intro C h r own' a w K Q hrep hrd hw hnew hK
 unfold Oper.wp
 have hrun:(execOp a.eval ⟨dst,.call ⟨.value (.func f),args,tys⟩,ty,pos,af,gd⟩).run P w=.ok (.enter f (args.map a.eval)) w:=by
  simp only [execOp,resolve,Sem.run_bind,Act.eval,Deferred.ofValue,Sem.run_pure,Result.andThen_ok,invoke,Array.empty_append,Array.append_empty]
  exact cL hc.fn _ w
 rw [hrun]
 refine Calls.mono (hc.go h r w (args.map a.eval) ?_ (hw.before fun m hm=>absurd rfl hm)) ?_
 ·rw [Array.toList_map]
  exact dF _ fun x hx=>hrep x (by simp only [Op.operands,Call.operands];exact Array.mem_append.2 (.inr (Array.mem_toList_iff.1 hx)))
 rintro e w' ⟨v,h',rfl,hv,hfr,hq⟩
 obtain ⟨hd,hp,hnl⟩:=hnew (by simp)
 have hw':WOK C h' r own' w':=hw.after (fun m hm=>absurd rfl hm) hq (fun m=>by simp) (fun m b hm=>absurd rfl hm)
 refine hK v h' (upd r d v) w' hq.hg (fun m hm=>aR _ _ _ _ (hm (by simp))) (by show v=upd r d v d;rw [upd_same]) ?_
 show WOK C h' (upd r d v) (upd own' d (some b)) w'
 have live:∀ m,m≠d→upd own' d (some b) m≠none→own' m≠none:=fun m h1 hm=>by rwa [aR _ _ _ _ h1] at hm
 have below:∀ m k,own' m≠none→bo (r m)=some k→k < w.heap.size:=fun m k hm hk=>hw.lt hm hk
 refine ⟨?_,?_,hw'.hi,?_,hw'.os,hw'.tape,hw'.output,hw'.size,hw'.old,?_,hw'.hg,hw'.hn,hw'.gl,?_,?_⟩
 ·intro m b' e
  by_cases h1:m=d
  ·subst h1;rw [upd_same] at e ⊢;cases e;exact hv
  rw [aR _ _ _ _ h1] at e ⊢;exact hw'.ow m b' e
 ·intro m n k hm hn e f'
  by_cases h1:m=d <;> by_cases h2:n=d
  ·rw [h1,h2]
  ·subst h1;rw [upd_same] at e;rw [aR _ _ _ _ h2] at f'
   have:=below n k (live n h2 hn) f';have:=(hfr k e).1;omega
  ·subst h2;rw [upd_same] at f';rw [aR _ _ _ _ h1] at e
   have:=below m k (live m h1 hm) e;have:=(hfr k f').1;omega
  rw [aR _ _ _ _ h1] at e;rw [aR _ _ _ _ h2] at f'
  exact hw'.inj m n k (live m h1 hm) (live n h2 hn) e f'
 ·intro m k hm e
  by_cases h1:m=d
  ·subst h1;rw [upd_same] at e;exact (hfr k e).2
  rw [aR _ _ _ _ h1] at e;exact hw'.ho m k (live m h1 hm) e
 ·intro m k hm e
  by_cases h1:m=d
  ·subst h1;rw [upd_same] at e;exact .inl (Nat.le_trans hw.size (hfr k e).1)
  rw [aR _ _ _ _ h1] at e;exact hw'.fo m k (live m h1 hm) e
 ·intro m hm
  rw [aR _ _ _ _ (by omega)];exact hw'.kp m hm
 intro m b' j e hj
 by_cases h1:m=d
 ·subst h1;rw [upd_same] at e;cases e;rw [hl0] at hj;cases hj
 rw [aR _ _ _ _ h1] at e
 have hjd:j≠d:=fun x=>hnl m b' e (x ▸ hj)
 rw [aR _ _ _ _ h1,aR _ _ _ _ hjd]
 exact hw'.lk m b' j e hj
def MR (fn:Func) (b:Blk) (e:Exit) (s:St):Prop:=(e=.normal∨e=.ret)∧∃ t m,fn.results=#[.tmp t]∧s.regs t=.vec m∧s.own m=some b
theorem oZ {P:Program} {f:FuncId} {fn:Func} {c:Code} {N:Nat} {args:List AV} {b:Blk} (hf:P.funcs[f]?=some fn) (hnm:(fn.name == "runtime.NumGoroutine")=false) (hb:fn.body=some c) (hN:fn.ntmps=N) (hna:args.length≤N)
  (h:AWp P false N 0 c (MR fn b) ⟨fun t=>args.getD t .junk,O⟩):CallV P f args b:=by
 refine ⟨⟨fn,hf,hnm,by rw [hb];rfl⟩,?_⟩
 intro hh r w cargs hra hbf
 have hlen:cargs.size=args.length:=by
  have:∀ (as0:List AV) (xs:List Value),RepArgs hh r as0 xs→xs.length=as0.length:=by
   intro as0
   induction as0 with
   | nil=>intro xs h;cases xs with
    | nil=>rfl
    | cons _ _=>exact h.elim
   | cons p ps ih=>intro xs h;cases xs with
    | nil=>exact h.elim
    | cons x xs=>simp [ih xs h.2]
  simpa using this _ _ hra
 have hget:∀ (as0:List AV) (xs:List Value),RepArgs hh r as0 xs→∀ (t:Nat) (x:AV),as0[t]?=some x→∃ y,xs[t]?=some y∧AVRep hh r x y:=by
  intro as0
  induction as0 with
  | nil=>intro xs _ t x h;simp at h
  | cons p ps ih=>intro xs h t x hx;cases xs with
   | nil=>exact h.elim
   | cons y ys=>cases t with
    | zero=>simp at hx;subst hx;exact ⟨y,rfl,h.1⟩
    | succ t=>exact ih ys h.2 t x (by simpa using hx)
 refine nZ (n:=0) (callsIn_of_wp_marks hf hb trivial ?_)
 let C:Ctx:=⟨w,hh,fun _=>False,r,0,true⟩
 refine wpIn_mono (h none (fun _=>rfl) C hh r _ w ⟨rfl,rfl⟩ ⟨?_,trivial,?_,⟨hbf.ow,hbf.inj,hbf.hi,hbf.ho,rfl,rfl,.refl _,Nat.le_refl _,fun _ _ _=>rfl,fun m k hm=>absurd rfl hm,.refl _,fun k hk=>.inl hk,hbf.gl,fun _ _=>rfl,fun m b j hb=>by cases hb⟩⟩) ?_
 ·simp [hN];omega
 ·intro t
  show AVRep hh r (args.getD t .junk) _
  rw [List.getD_eq_getElem?_getD]
  cases ht:args[t]? with
  | none=>exact trivial
  | some x =>
   obtain ⟨y,h1,h2⟩:=hget _ _ hra t x ht
   have h1':cargs[t]?=some y:=by rw [← Array.getElem?_toList];exact h1
   have hlt:t < cargs.size:=(Array.getElem?_eq_some_iff.1 h1').1
   simp only [Array.getD_eq_getD_getElem?,Array.getElem?_append_left hlt,h1',Option.getD_some]
   exact h2
 rintro e a' w' ⟨s',h',r',⟨he,t,m,hres,hreg,hown⟩,hc⟩
 have fin:LeavesInM (Wd none) 0 P fn a'.tmps (fun e w'=>∃ v h',e=.returned v∧BlkRep h' w' v b∧(∀ k,bo v=some k→w.heap.size≤k∧h' k=none)∧After hh r O w h' O w') a'.defers .returning w':=by
  refine jB hc ?_
  intro h' w' hc
  have hx:a'.tmps.getD t undef=r' m:=by
   have:=hc.rg t
   rw [hreg] at this;exact this
  have hv1:(results fn a'.tmps).run P w'=.ok (r' m) w':=by
   rw [fx,hres]
   simp [iG,hx]
  have hk:=hc.wk
  have hlow:s'.own m≠none:=by rw [hown];simp
  refine ⟨r' m,hv1,r' m,h',rfl,hk.ow m b hown,fun k e=>⟨?_,hk.ho m k hlow e⟩,?_⟩
  ·rcases hk.fo m k hlow e with g | g
   ·exact g
   exact g.elim
  refine ⟨fun m b e=>(by cases e),fun m hm=>absurd rfl hm,hk.hi,fun m k hm=>absurd rfl hm,hk.os,hk.tape,hk.output,hk.size,fun k h1 _=>hk.old k h1 (fun x=>x),hk.hg,fun k e=>?_⟩
  rcases hk.hn k e with g | g | g
  ·exact .inl g
  ·exact .inr (.inl g)
  exact g.elim
 rcases he with rfl | rfl <;> exact fin
theorem CallV.call0 {P:Program} {f:FuncId} {args:List AV} {n:Nat} {b:Blk} (h:CallV P f args b) (hv:b.vec=true) (hn:n*b.sz=b.cs.length) (hsz:0 < b.sz):aJ P f args (.p (.c (.sl n b.cs))):=by
 refine ⟨h.fn,?_⟩
 intro hh r w cargs hra hbf
 refine Calls.mono (h.go hh r w cargs hra hbf) ?_
 rintro e w' ⟨v,h',rfl,hb,hfr,q⟩
 unfold BlkRep at hb
 rw [hv] at hb
 simp only at hb
 obtain ⟨a,l,cap,rfl,h2,h3,h4,h5⟩:=hb
 have hl:l=n:=Nat.eq_of_mul_eq_mul_right hsz (h2.trans hn.symm)
 subst hl
 by_cases hc0:cap=0
 ·refine ⟨_,h',rfl,?_,q⟩
  have hcs:b.cs=[]:=List.eq_nil_of_length_eq_zero (by rw [← h2,show l=0 by omega];simp)
  simp only [AVRep,PRep,DRep]
  exact ⟨a,cap,rfl,h3,h4,.inl hcs⟩
 rcases h5 with h5 | ⟨k,c,rfl,g2,g3,g4⟩
 ·exact absurd h5 hc0
 obtain ⟨f1,f2⟩:=hfr k (by simp [bo,hc0])
 have hle:Hle h' (fun j=>if j=k then some (.cells c b.e (0,0)) else h' j):=fun j o hj=>by
  show (if j=k then _ else h' j)=_
  rw [if_neg fun e=>by subst e;rw [f2] at hj;cases hj];exact hj
 refine ⟨_,(fun j=>if j=k then some (.cells c b.e (0,0)) else h' j),rfl,?_,?_⟩
 ·simp only [AVRep,PRep,DRep]
  exact ⟨_,cap,rfl,h3,h4,.inr ⟨k,0,c,b.e,(0,0),rfl,by simp,by simpa using DReps.mono hle _ _ g4⟩⟩
 refine ⟨fun m b e=>(by cases e),q.dom,fun j o hj=>?_,fun m j hm=>absurd rfl (q.dom m hm),q.os,q.tape,q.output,q.size,q.old,q.hg.trans hle,fun j hj=>?_⟩
 ·by_cases e:j=k
  ·subst e;simp only [if_true,Option.some.injEq] at hj;subst hj;exact g2
  simp only [e,if_false] at hj;exact q.hi j o hj
 by_cases e:j=k
 ·subst e;exact .inr (.inl f1)
 simp only [e,if_false] at hj;exact q.hn j hj
theorem CallV.call0W {P:Program} {f:FuncId} {args:List AV} {e:TypeId} {ws:List Nat} (h:CallV P f args (WB e ws)):aJ P f args (.p (.c (W ws))):=h.call0 rfl (by simp [WB]) (by simp [WB])
theorem RK.mutL {P:Program} {N np:Nat} {ops:Array Oper} {draw:Bool} {os:List Oper} {s:St} {acc:List Io} {K:St→Prop} {t:Nat} {op:Op} {ty:TypeId} {pos:String} {af:Array Edge} {gd:Option (Nat × Bool)} {v:AV} {st:Chg} {rd:List Nat}
  (hg:cQ ops ⟨some t,op,ty,pos,af,gd⟩ s.regs true) (he:Eff P ⟨some t,op,ty,pos,af,gd⟩ t (ev s.regs) s.own v st none rd)
  (hr:RK P N np ops draw os ⟨upd s.regs t v,dl s.own st⟩ (acc ++ [⟨men v ++ kV st none,st.map (·.1),rd,false⟩]) K):RK P N np ops draw (⟨some t,op,ty,pos,af,gd⟩ :: os) s acc K:=by
 refine RK.step (Step.run v st none rd hg he (fun h=>absurd rfl h)) ?_
 simp only [Option.isSome_none,Bool.false_eq_true,if_false,List.append_nil]
 exact hr
end
section
open Go Go.RowKit
theorem Bor.vecW {own:Own} {m:Nat} {e:TypeId} {ws:List Nat} {l l':List AV} {rd:List Nat} (hb:own m=some (WB e ws)) (h:Bor own l l' rd):Bor own (.vec m :: l) (.p (.c (W ws)) :: l') (m :: rd) :=
 Bor.vec (n:=ws.length) hb rfl (by simp [WB]) (by simp [WB]) h
theorem uB:∀ (l:List Nat),okW l→∀ i:Nat,l.getD i 0=wv l / 4294967296 ^ i % 4294967296
 | [],_,i=>by simp [wv]
 | x :: l,h,0=>by have:=h x (by simp);simp [wv];omega
 | x :: l,h,i+1=>by
  have hx:=h x (by simp)
  rw [List.getD_cons_succ,uB l (fun y hy=>h y (by simp [hy])) i]
  rw [Nat.pow_succ',← Nat.div_div_eq_div_mul]
  congr 2
  simp only [wv];omega
theorem jF {l:List Nat} (h:okW l) (i:Nat):wd l (i:Int)=wv l / 4294967296 ^ i % 4294967296:=by rw [mE,uB l h]
theorem uP {n v i:Nat} (h:i < n):(dgs n v).getD i 0=v / 4294967296 ^ i % 4294967296:=by
 induction n generalizing v i with
 | zero=>omega
 | succ n ih =>
  cases i with
  | zero=>simp [dgs]
  | succ i =>
   simp only [dgs]
   rw [List.getD_cons_succ,ih (by omega),Nat.pow_succ',Nat.div_div_eq_div_mul]
theorem Ay {n:Nat} (h:0 < n):bn n=1+bn (n / 2 ^ 1):=by
 by_cases h1:n=1
 ·subst h1;decide
 exact ju (k:=1) (by omega)
theorem tj {x s:Nat} (hx:x < 4294967296) (hs:s < 32):x*2 ^ s < 18446744073709551616:=by
 have h1:2 ^ s≤2 ^ 31:=Nat.pow_le_pow_right (by decide) (by omega)
 have h2:x*2 ^ s≤4294967295*2 ^ 31:=Nat.mul_le_mul (by omega) h1
 omega
theorem tT {w c k:Nat} (hc:c < 2 ^ k):w*2 ^ k ||| c=w*2 ^ k+c:=by rw [Nat.mul_comm,Nat.two_pow_add_eq_or_of_lt hc]
theorem CY {x k:Nat} (hx:x < 4294967296):x*2 ^ k / 2 ^ 32 < 2 ^ k:=by
 rw [Nat.div_lt_iff_lt_mul (by decide),Nat.mul_comm (2 ^ k)]
 exact Nat.mul_lt_mul_of_pos_right hx (Nat.two_pow_pos k)
theorem Ck {x c k:Nat} (hk:k < 32) (hc:c < 2 ^ k):(x*2 ^ k+c) % 4294967296+4294967296*(x*2 ^ k / 2 ^ 32)=x*2 ^ k+c:=by
 have h1:(x*2 ^ k+c) / 4294967296=x*2 ^ k / 2 ^ 32:=by
  obtain ⟨j,hj⟩:∃ j,32=k+j:=⟨32 - k,by omega⟩
  have e:(4294967296:Nat)=2 ^ k*2 ^ j:=by rw [← Nat.pow_add,← hj]
  have e2:(2:Nat) ^ 32=2 ^ k*2 ^ j:=by rw [← Nat.pow_add,← hj]
  rw [e,e2,← Nat.div_div_eq_div_mul,← Nat.div_div_eq_div_mul,Nat.mul_div_cancel _ (Nat.two_pow_pos k)]
  congr 1
  rw [Nat.mul_comm,Nat.mul_add_div (Nat.two_pow_pos k),Nat.div_eq_of_lt hc,Nat.add_zero]
 have h2:=Nat.mod_add_div (x*2 ^ k+c) 4294967296
 rw [h1] at h2
 exact h2
theorem yk {l o:List Nat} {q k i:Nat} (hl:okW l) (hk:k < 32) (ho:o.length=q+i) (hv:wv o+4294967296 ^ o.length*(wd l ((i:Int) - 1)*2 ^ k / 2 ^ 32)=wv (l.take i)*2 ^ (32*q+k)) :
  wv (o ++ [(wd l i*2 ^ k ||| wd l ((i:Int) - 1)*2 ^ k / 2 ^ 32) % 4294967296])+4294967296 ^ (o.length+1)*(wd l i*2 ^ k / 2 ^ 32)=wv (l.take (i+1))*2 ^ (32*q+k):=by
 have hc:=CY (k:=k) (dX hl ((i:Int) - 1))
 rw [tT hc,iU,iA]
 have hm:=Ck (x:=wd l i) hk hc
 generalize wd l ((i:Int) - 1)*2 ^ k / 2 ^ 32=c at *
 rw [Nat.add_mul,← hv]
 have e:4294967296 ^ i*wd l i*2 ^ (32*q+k)=4294967296 ^ o.length*(wd l i*2 ^ k):=by
  rw [ho,Nat.pow_add,Nat.pow_add,lZ q,Nat.mul_comm (2 ^ (32*q)) (4294967296 ^ i)]
  simp only [Nat.mul_assoc,Nat.mul_left_comm,Nat.mul_comm]
 rw [e,Nat.pow_succ]
 generalize wd l i*2 ^ k=A at *
 generalize 4294967296 ^ o.length=p at *
 generalize (A+c) % 4294967296=s at *
 generalize A / 2 ^ 32=t at *
 have e2:p*s+p*4294967296*t=p*A+p*c:=by
  rw [Nat.mul_assoc,← Nat.mul_add,← Nat.mul_add,hm]
 omega
theorem Cn {l o:List Nat} {q k i:Nat} (hok:okW o) (ho:o.length=q+i) (hi:i=l.length+1) (hv:wv o+4294967296 ^ o.length*(wd l ((i:Int) - 1)*2 ^ k / 2 ^ 32)=wv (l.take i)*2 ^ (32*q+k)) :
  o=dgs (q+l.length+1) (wv l*2 ^ (32*q+k)):=by
 rw [ph (.inr (by omega)),List.take_of_length_le (by omega)] at hv
 simp only [Nat.zero_mul,Nat.zero_div,Nat.mul_zero,Nat.add_zero] at hv
 have h:=kA o hok
 rw [ho,hi,hv] at h
 exact h.symm
theorem Ac {l:List Nat} (h:okW l) (i:Nat):(wd l (i:Int) / 2 ^ 1 ||| wd l ((i:Int)+1)*2 ^ 31 % 2 ^ IntKind.u64.bits) % 4294967296=wv l / 2 / 4294967296 ^ i % 4294967296:=by
 have h1:=dX h (i:Int)
 have h2:=dX h ((i:Int)+1)
 have e:((i:Int)+1)=((i+1:Nat):Int):=by omega
 rw [Nat.mod_eq_of_lt (show wd l ((i:Int)+1)*2 ^ 31 < 2 ^ IntKind.u64.bits by show _ < 18446744073709551616;omega)]
 rw [Nat.or_comm,tT (by omega),jF h,e,jF h,Nat.div_div_eq_div_mul (wv l) 2,Nat.mul_comm 2,← Nat.div_div_eq_div_mul,Nat.pow_succ,← Nat.div_div_eq_div_mul]
 omega
def hlf (l:List Nat) (i:Nat):List Nat:=(dgs l.length (wv l / 2)).take i ++ l.drop i
theorem Cu (l:List Nat):hlf l 0=l:=by simp [hlf]
theorem G9 (l:List Nat) {i:Nat} (h:i≤l.length):(hlf l i).length=l.length:=by simp [hlf,bZ];omega
theorem Hb (l:List Nat):hlf l l.length=dgs l.length (wv l / 2):=by simp [hlf,List.take_of_length_le,bZ]
theorem Ha {l:List Nat} {i j:Nat} (h:i≤j) (hi:i≤l.length):(hlf l i).getD j 0=l.getD j 0:=by
 unfold hlf
 have hl:((dgs l.length (wv l / 2)).take i).length=i:=by rw [List.length_take,bZ];omega
 rw [List.getD_eq_getElem?_getD,List.getElem?_append_right (by omega),List.getElem?_drop,hl,List.getD_eq_getElem?_getD]
 congr 2;omega
theorem Ab {l:List Nat} {i:Nat} {j:Int} (h:(i:Int)≤j) (hi:i≤l.length):wd (hlf l i) j=wd l j:=by
 obtain ⟨k,rfl⟩:=Int.eq_ofNat_of_zero_le (show 0≤j by omega)
 rw [mE,mE,Ha (by omega) hi]
theorem G8 {l:List Nat} {i:Nat} (h:i < l.length):(hlf l i).set i (wv l / 2 / 4294967296 ^ i % 4294967296)=hlf l (i+1):=by
 unfold hlf
 have hl:((dgs l.length (wv l / 2)).take i).length=i:=by rw [List.length_take,bZ];omega
 rw [dV h]
 have:=vZ (l:=(dgs l.length (wv l / 2)).take i) (x:=l.getD i 0) (v:=wv l / 2 / 4294967296 ^ i % 4294967296) (r:=l.drop (i+1))
 rw [hl] at this
 rw [this,iX (by rw [bZ];exact h),uP h]
theorem Kf {l:List Nat} (h:okW l) (i:Nat):okW (hlf l i):=((dZ _ _).take i).app (h.drop i)
theorem xC {X Y p:Nat} (h:X / (p*4294967296)=Y / (p*4294967296)) (h2:X / p % 4294967296=Y / p % 4294967296):X / p=Y / p:=by
 rw [← Nat.div_div_eq_div_mul,← Nat.div_div_eq_div_mul] at h
 omega
theorem BQ {X Y p:Nat} (h:X / (p*4294967296)=Y / (p*4294967296)) (h2:X / p % 4294967296≠Y / p % 4294967296):decide ((X / p % 4294967296:Nat) > Y / p % 4294967296)=decide (Y≤X):=by
 rw [← Nat.div_div_eq_div_mul,← Nat.div_div_eq_div_mul] at h
 apply decide_eq_decide.2
 have key:∀ (X Y:Nat),X / p < Y / p→X < Y:=fun X Y h=>by
  rcases Nat.lt_or_ge X Y with h1 | h1
  ·exact h1
  have:=Nat.div_le_div_right (c:=p) h1;omega
 constructor
 ·intro h3;exact Nat.le_of_lt (key Y X (by omega))
 intro h3
 rcases Nat.lt_or_ge (Y / p % 4294967296) (X / p % 4294967296) with h4 | h4
 ·exact h4
 have:=key X Y (by omega);omega
theorem FM {m Q i:Nat} (hi:i < 32*m) (hQ:Q % 2 ^ (i+1)=0) (hlt:Q < 4294967296 ^ m) :
  (dgs m Q).set (i / 32) ((dgs m Q).getD (i / 32) 0 ||| 2 ^ (i % 32))=dgs m (Q+2 ^ i)∧(dgs m Q).getD (i / 32) 0 ||| 2 ^ (i % 32) < 4294967296∧Q+2 ^ i < 4294967296 ^ m:=by
 have hj:i / 32 < m:=by omega
 have hw:=uP (v:=Q) hj
 obtain ⟨j,hj'⟩:∃ j,j=i / 32:=⟨_,rfl⟩
 obtain ⟨s,hs⟩:∃ s,s=i % 32:=⟨_,rfl⟩
 rw [← hj'] at hw hj ⊢
 rw [← hs]
 have his:i=32*j+s:=by omega
 have hs32:s < 32:=by omega
 have hpj:(4294967296:Nat) ^ j=2 ^ (32*j):=lZ j
 have hw0:Q / 4294967296 ^ j % 4294967296 % 2 ^ (s+1)=0:=by
  rw [hpj]
  have h1:Q / 2 ^ (32*j) % 2 ^ (s+1)=0:=by
   have e:2 ^ (i+1)=2 ^ (32*j)*2 ^ (s+1):=by rw [← Nat.pow_add];congr 1;omega
   rw [e] at hQ
   rw [← Nat.mod_mul_right_div_self,hQ,Nat.zero_div]
  rw [Nat.mod_mod_of_dvd _ (Nat.pow_dvd_pow 2 (show s+1≤32 by omega))]
  exact h1
 rw [hw]
 obtain ⟨u,hu⟩:∃ u,Q / 4294967296 ^ j % 4294967296=u*2 ^ (s+1):=⟨_,(Nat.div_mul_cancel (Nat.dvd_of_mod_eq_zero hw0)).symm⟩
 have hor:Q / 4294967296 ^ j % 4294967296 ||| 2 ^ s=Q / 4294967296 ^ j % 4294967296+2 ^ s:=by
  rw [hu,tT (by rw [Nat.pow_succ];have:=Nat.two_pow_pos s;omega)]
 have hlt2:Q / 4294967296 ^ j % 4294967296+2 ^ s < 4294967296:=by
  have hl:Q / 4294967296 ^ j % 4294967296 < 4294967296:=Nat.mod_lt _ (by decide)
  rw [hu] at hl ⊢
  obtain ⟨t,ht⟩:∃ t,32=s+1+t:=⟨31 - s,by omega⟩
  have e:(4294967296:Nat)=2 ^ t*2 ^ (s+1):=by rw [← Nat.pow_add,Nat.add_comm t,← ht]
  rw [e] at hl ⊢
  have hu2:u < 2 ^ t:=Nat.lt_of_mul_lt_mul_right hl
  have:=Nat.mul_le_mul_right (2 ^ (s+1)) hu2
  rw [Nat.succ_mul] at this
  have:=Nat.two_pow_pos s
  rw [Nat.pow_succ] at *
  omega
 rw [hor]
 have hpw:2 ^ i=4294967296 ^ j*2 ^ s:=by rw [hpj,← Nat.pow_add,his]
 have hval:wv ((dgs m Q).set j (Q / 4294967296 ^ j % 4294967296+2 ^ s))=Q+2 ^ i:=by
  have:=iB (dgs m Q) j (Q / 4294967296 ^ j % 4294967296+2 ^ s) (by rw [bZ];exact hj)
  rw [hw,dU m Q hlt,Nat.mul_add,← hpw] at this
  omega
 have hok:okW ((dgs m Q).set j (Q / 4294967296 ^ j % 4294967296+2 ^ s)):=(dZ _ _).set hlt2
 refine ⟨?_,hlt2,?_⟩
 ·have:=kA _ hok
  rw [hval,List.length_set,bZ] at this
  exact this.symm
 have:=fq hok
 rwa [hval,List.length_set,bZ] at this
theorem km1 {k:Nat} (h:(k:Int) - 1 ≥ 0):(k:Int) - 1=((k - 1:Nat):Int):=by omega
theorem xD {a b:List Nat} {k:Nat} (ha:okW a) (hb:okW b) (hk:(k:Int) - 1 ≥ 0) (h:wv a / 4294967296 ^ k=wv b / 4294967296 ^ k) (he:((wd a ((k:Int) - 1):Nat):Int)=(wd b ((k:Int) - 1):Nat)) :
  wv a / 4294967296 ^ (k - 1)=wv b / 4294967296 ^ (k - 1):=by
 rw [km1 hk,jF ha,jF hb] at he
 rw [show k=k - 1+1 by omega,Nat.pow_succ] at h
 exact xC h (by omega)
theorem zg {a b:List Nat} {k:Nat} (ha:okW a) (hb:okW b) (hk:(k:Int) - 1 ≥ 0) (h:wv a / 4294967296 ^ k=wv b / 4294967296 ^ k) (he:((wd a ((k:Int) - 1):Nat):Int)≠(wd b ((k:Int) - 1):Nat)) :
  decide (((wd a ((k:Int) - 1):Nat):Int) > ((wd b ((k:Int) - 1):Nat):Int))=decide (wv b≤wv a):=by
 rw [km1 hk,jF ha,jF hb] at he ⊢
 rw [show k=k - 1+1 by omega,Nat.pow_succ] at h
 rw [← BQ h (by omega)]
 exact decide_eq_decide.2 (by omega)
theorem og {a:List Nat} {k:Nat} (ha:okW a) (h:a.length≤k):wv a / 4294967296 ^ k=0:=by
 have h1:=fq ha
 have h2:4294967296 ^ a.length≤4294967296 ^ k:=Nat.pow_le_pow_right (by decide) h
 exact Nat.div_eq_of_lt (by omega)
theorem EL {b c:Blk}:∀ m,upd (upd O 0 (some b)) 1 (some c) m≠none→m < 2:=fun m hm=>by
 by_cases e:m=1
 ·omega
 rw [aR _ _ _ _ e] at hm
 have:=qh m hm;omega
theorem A2 {b c b' c':Blk}:∀ m,upd (upd O 0 (some b')) 1 (some c') m≠none→upd (upd O 0 (some b)) 1 (some c) m≠none:=fun m hm=>by
 by_cases e:m=1
 ·subst e;simp
 rw [aR _ _ _ _ e] at hm ⊢;exact oC m hm
theorem B5 {s:St} {b c:Blk} (h:s.own 0=some b) (k:s.own 1=some c):∀ m d,upd (upd O 0 (some b)) 1 (some c) m=some d→s.own m=some d:=fun m d hm=>by
 by_cases e:m=1
 ·subst e;rw [upd_same] at hm;rw [k,hm]
 rw [aR _ _ _ _ e] at hm;exact oO h m d hm
theorem A1 {k l:Nat} {b c:Blk}:∀ m,upd (upd O k (some b)) l (some c) m≠none→m∈[k,l]:=fun m hm=>by
 by_cases e:m=l
 ·simp [e]
 rw [aR _ _ _ _ e] at hm
 have:=iW m hm
 simp at this;simp [this]
theorem Nj {own:Own} {k l:Nat} {b c:Blk} (hkl:Nat.beq k l=false) (h:own k=some b) (h2:own l=some c):∀ m∈[k,l],own m=upd (upd O k (some b)) l (some c) m:=fun m hm=>by
 have hne:k≠l:=fun e=>by rw [e,Nat.beq_refl] at hkl;cases hkl
 simp only [List.mem_cons,List.not_mem_nil,or_false] at hm
 rcases hm with rfl | rfl
 ·rw [aR _ _ _ _ hne,upd_same,h]
 rw [upd_same,h2]
theorem yX {a b l:List Nat} {c:Nat} (ha:okW a) (_hb:okW b) (hc:c≤1) (_hl:l.length < a.length):(4294967296+a.getD l.length 0 - wd b (l.length:Nat) - c) < 18446744073709551616∧4294967296+a.getD l.length 0 - wd b (l.length:Nat) - c=4294967296+wd a (l.length:Nat) - wd b (l.length:Nat) - c:=by
 have h1:=ha.getD l.length
 rw [mE a]
 exact ⟨by omega,rfl⟩
theorem BB {a b l:List Nat} {c:Nat} (ha:okW a) (_hb:okW b) (ho:okW l) (hl:l.length=a.length) (hab:wv b≤wv a) (hv:wv l+wv (b.take l.length)=wv (a.take l.length)+4294967296 ^ l.length*c) :
  l ++ a.drop l.length=dgs a.length (wv a - wv b):=by
 rw [hl,List.drop_length,List.append_nil]
 rw [List.take_of_length_le (l:=a) (by omega)] at hv
 have h1:=fq ho
 have h2:=fq ha
 rw [← hl] at h2
 have hbt:wv (b.take l.length)=wv b:=by
  by_cases hbl:b.length≤l.length
  ·rw [List.take_of_length_le hbl]
  have:=eC b l.length (by omega)
  have h3:wv (b.drop l.length)=0:=by
   rcases Nat.eq_zero_or_pos (wv (b.drop l.length)) with e | e
   ·exact e
   have:=Nat.le_mul_of_pos_right (4294967296 ^ l.length) e;omega
  rw [h3] at this;omega
 have hc:c=0:=by
  rcases Nat.eq_zero_or_pos c with h | h
  ·exact h
  have:=Nat.le_mul_of_pos_right (4294967296 ^ l.length) h
  omega
 subst hc
 have h:=kA l ho
 rw [hl,show wv l=wv a - wv b by omega] at h
 exact h.symm
end
section
open Go Go.RowKit
def qL (a b:Nat):List Nat:=if (wl a).length≤2∧(wl b).length≤2 then [a / b % 4294967296,a / b / 2 ^ 32] else if bn a < bn b then [] else dgs ((bn a - bn b) / 32+1) (a / b)
def rL (a b:Nat):List Nat:=if (wl a).length≤2∧(wl b).length≤2 then [a % b % 4294967296,a % b / 2 ^ 32] else dgs (wl a).length (a % b)
theorem lv {a:Nat} (h:(wl a).length≤2):a < 18446744073709551616:=by
 have h1:=dx a
 have h2:4294967296 ^ (wl a).length≤4294967296 ^ 2:=Nat.pow_le_pow_right (by decide) h
 omega
theorem u9 {b n:Nat} (hb:0 < b):b*2 ^ n < 2 ^ (n+bn b)∧2 ^ (n+bn b)≤2*(b*2 ^ n):=by
 have h1:=eS (n:=b)
 have h2:=lF hb
 have h3:=C4 hb
 rw [Nat.pow_add,Nat.mul_comm (2 ^ n)]
 refine ⟨Nat.mul_lt_mul_of_pos_right h1 (Nat.two_pow_pos n),?_⟩
 obtain ⟨k,hk⟩:∃ k,bn b=k+1:=⟨bn b - 1,by omega⟩
 rw [hk,Nat.add_sub_cancel] at h2
 rw [hk,Nat.pow_succ]
 have:=Nat.mul_le_mul_right (2 ^ n) h2
 rw [Nat.mul_right_comm];omega
theorem Gh {a b:Nat} (hb:0 < b) (h:bn b≤bn a):a / b < 4294967296 ^ ((bn a - bn b) / 32+1):=by
 have h1:=eS (n:=a)
 have h2:=(u9 (n:=bn a - bn b) hb).2
 rw [show bn a - bn b+bn b=bn a by omega] at h2
 rw [Nat.div_lt_iff_lt_mul hb,lZ]
 have h3:2 ^ (bn a - bn b+1)≤2 ^ (32*((bn a - bn b) / 32+1)):=Nat.pow_le_pow_right (by decide) (by omega)
 have h4:=Nat.mul_le_mul_right b h3
 rw [Nat.pow_succ,Nat.mul_right_comm,Nat.mul_comm _ b] at h4
 omega
theorem rm {a b:Nat} (h:bn a < bn b):a < b:=by
 have h1:=eS (n:=a)
 have h2:=lF (n:=b) (by (rcases Nat.eq_zero_or_pos b with e | e;· rw [e] at h;simp [bn] at h);· exact e)
 have h3:2 ^ bn a≤2 ^ (bn b - 1):=Nat.pow_le_pow_right (by decide) (by omega)
 omega
theorem LX {a b:Nat}:okW (qL a b):=by
 unfold qL
 split
 ·next h =>
  have:=lv h.1
  have h2:=Nat.div_le_self a b
  intro x hx
  simp only [List.mem_cons,List.not_mem_nil,or_false] at hx
  rcases hx with rfl | rfl <;> omega
 split
 ·exact okW.nil
 exact dZ _ _
theorem Jt {a b:Nat} (hb:0 < b):wv (qL a b)=a / b:=by
 unfold qL
 split
 ·simp only [wv];omega
 split
 ·next h=>rw [Nat.div_eq_of_lt (rm h)];rfl
 exact dU _ _ (Gh hb (by omega))
theorem LV {a b:Nat}:okW (rL a b):=by
 unfold rL
 split
 ·next h =>
  have:=lv h.1
  have h2:=Nat.mod_le a b
  intro x hx
  simp only [List.mem_cons,List.not_mem_nil,or_false] at hx
  rcases hx with rfl | rfl <;> omega
 exact dZ _ _
theorem Jl {a b:Nat}:wv (rL a b)=a % b:=by
 unfold rL
 split
 ·simp only [wv];omega
 exact dU _ _ (Nat.lt_of_le_of_lt (Nat.mod_le a b) (dx a))
theorem Ch {a:Nat} (h:(wl a).length≤2):bits .or .u64 ((wd (wl a) 0:Nat):Int) ((wd (wl a) 1*2 ^ 32 % 2 ^ IntKind.u64.bits:Nat):Int)=(a:Nat):=by
 have h0:=dX (bG a) 0
 have h1:=dX (bG a) 1
 rw [nj h0 h1]
 have e0:=jF (bG a) 0
 have e1:=jF (bG a) 1
 rw [bH] at e0 e1
 have:=lv h
 have e0':wd (wl a) 0=a / 4294967296 ^ 0 % 4294967296:=e0
 have e1':wd (wl a) 1=a / 4294967296 ^ 1 % 4294967296:=e1
 rw [e0',e1']
 simp only [Nat.pow_zero,Nat.div_one,Nat.pow_one]
 omega
theorem AU {a n:Nat} (h:(wl a).length≤2 ^ n):L (n+5) (a:Int):=by
 have h1:=dx a
 have h2:4294967296 ^ (wl a).length≤4294967296 ^ 2 ^ n:=Nat.pow_le_pow_right (by decide) h
 unfold L
 rw [Int.natAbs_natCast]
 have e:2 ^ 2 ^ (n+5)=4294967296 ^ 2 ^ n:=by
  rw [show (4294967296:Nat)=2 ^ 32 by rfl,← Nat.pow_mul]
  congr 1
  rw [Nat.pow_add];omega
 rw [e]
 omega
theorem Dc {a:Nat} (h:(wl a).length≤1099511627776):L 45 (a:Int):=AU (n:=40) (Nat.le_trans h (by decide))
theorem va {a:Nat} (h:(wl a).length≤1099511627776):bn a≤35184372088832:=by
 have h1:=dx a
 rw [lZ] at h1
 have:=gx h1
 have:=Nat.mul_le_mul_left 32 h
 omega
theorem HT (a:Nat):zn (a:Int)=zn 0:=by unfold zn;rw [decide_eq_false (by omega)];rfl
theorem CQ (n:Nat):dgs n 0=List.replicate n 0:=by
 induction n with
 | zero=>rfl
 | succ n ih=>simp [dgs,ih,List.replicate_succ]
theorem Al (a:Nat):dgs (wl a).length a=wl a:=by
 have:=kA (wl a) (bG a)
 rwa [bH] at this
structure Dv (a b j Q R:Nat):Prop where
 eq:a=b*Q+R
 lt:R < b*2 ^ j
 mul:Q % 2 ^ j=0
theorem Dv.start {a b:Nat} (hb:0 < b) (h:bn b≤bn a):Dv a b (bn a - bn b+1) 0 a:=by
 refine ⟨by simp,?_,by simp⟩
 have h1:=eS (n:=a)
 have h2:=(u9 (n:=bn a - bn b) hb).2
 rw [show bn a - bn b+bn b=bn a by omega] at h2
 rw [Nat.pow_succ,← Nat.mul_assoc];omega
theorem gQ {b j:Nat} (h:0 < j):b*2 ^ j / 2=b*2 ^ (j - 1):=by
 obtain ⟨k,rfl⟩:∃ k,j=k+1:=⟨j - 1,by omega⟩
 rw [Nat.pow_succ,← Nat.mul_assoc,Nat.mul_div_cancel _ (by decide),Nat.add_sub_cancel]
theorem Dv.yes {a b j Q R:Nat} (h:Dv a b j Q R) (hj:0 < j) (hD:b*2 ^ (j - 1)≤R):Dv a b (j - 1) (Q+2 ^ (j - 1)) (R - b*2 ^ (j - 1)):=by
 obtain ⟨k,rfl⟩:∃ k,j=k+1:=⟨j - 1,by omega⟩
 rw [Nat.add_sub_cancel] at *
 have h1:=h.lt
 have h2:=h.mul
 have h3:=h.eq
 rw [Nat.pow_succ,← Nat.mul_assoc] at h1
 refine ⟨by rw [Nat.mul_add];omega,by omega,?_⟩
 have h4:Q % 2 ^ k=0:=by
  have:=Nat.mod_mod_of_dvd Q (Nat.pow_dvd_pow 2 (show k≤k+1 by omega))
  rw [h2,Nat.zero_mod] at this;exact this.symm
 rw [Nat.add_mod,h4];simp
theorem Dv.no {a b j Q R:Nat} (h:Dv a b j Q R) (hj:0 < j) (hD:¬ b*2 ^ (j - 1)≤R):Dv a b (j - 1) Q R:=by
 obtain ⟨k,rfl⟩:∃ k,j=k+1:=⟨j - 1,by omega⟩
 rw [Nat.add_sub_cancel] at *
 refine ⟨h.eq,by omega,?_⟩
 have h2:=h.mul
 have:=Nat.mod_mod_of_dvd Q (Nat.pow_dvd_pow 2 (show k≤k+1 by omega))
 rw [h2,Nat.zero_mod] at this;exact this.symm
theorem Dv.done {a b Q R:Nat} (h:Dv a b 0 Q R):Q=a / b∧R=a % b:=by
 have h1:=h.lt
 rw [Nat.pow_zero,Nat.mul_one] at h1
 have h3:=h.eq
 have hb:0 < b:=by omega
 constructor
 ·rw [h3,Nat.mul_add_div hb,Nat.div_eq_of_lt h1,Nat.add_zero]
 rw [h3,Nat.mul_add_mod,Nat.mod_eq_of_lt h1]
theorem Dv.le {a b j Q R:Nat} (h:Dv a b j Q R):R≤a:=by have:=h.eq;omega
theorem NQ {b j N:Nat} (_hb:0 < b) (hj:j≤N+1):b*2 ^ j / 2 < 4294967296 ^ (N / 32+(wl b).length+1):=by
 have h1:b*2 ^ j / 2≤b*2 ^ N:=by
  have h2:2 ^ j≤2 ^ (N+1):=Nat.pow_le_pow_right (by decide) hj
  have h3:=Nat.mul_le_mul_left b h2
  rw [Nat.pow_succ,← Nat.mul_assoc] at h3
  omega
 have h4:=dx b
 have h5:2 ^ N≤4294967296 ^ (N / 32+1):=by rw [lZ];exact Nat.pow_le_pow_right (by decide) (by omega)
 have h6:b*2 ^ N < 4294967296 ^ (wl b).length*4294967296 ^ (N / 32+1):=Nat.lt_of_lt_of_le (Nat.mul_lt_mul_of_pos_right h4 (Nat.two_pow_pos N)) (Nat.mul_le_mul_left _ h5)
 rw [← Nat.pow_add,show (wl b).length+(N / 32+1)=N / 32+(wl b).length+1 by omega] at h6
 omega
theorem zf {n m R D:Nat} (h1:R < 4294967296 ^ n) (h2:D < 4294967296 ^ m) (h:decide (wv (dgs m D)≤wv (dgs n R))=true):D≤R:=by
 have:=dT0 h
 rwa [dU _ _ h1,dU _ _ h2] at this
theorem BP {n m R D:Nat} (h1:R < 4294967296 ^ n) (h2:D < 4294967296 ^ m) (h:decide (wv (dgs m D)≤wv (dgs n R))=false):¬ D≤R:=by
 have:=dF0 h
 rwa [dU _ _ h1,dU _ _ h2] at this
theorem tI {s:Nat} (h:s < 32):2 ^ s < 4294967296:=by
 have:2 ^ s≤2 ^ 31:=Nat.pow_le_pow_right (by decide) (by omega)
 omega
theorem FH {s:Nat} (h:s < 32):IntKind.u32.wrap ((1:Int)*2 ^ (min ((s:Nat):Int).toNat IntKind.u32.bits))=((2 ^ s:Nat):Int):=by
 rw [Int.toNat_natCast,Nat.min_eq_left (show s≤IntKind.u32.bits by show s≤32;omega),Int.one_mul]
 have e:(2:Int) ^ s=((2 ^ s:Nat):Int):=by simp
 rw [e,kO (tI h)]
theorem CN {a b:Nat} (h:¬ ((wl a).length≤2∧(wl b).length≤2)) (hn:bn a < bn b):Sub (.p (.a [.v (.slice none 0 0),W ([] ++ wl a)])) (.p (.a [W (qL a b),W (rL a b)])):=by
 refine Sub.agg ⟨?_,?_,trivial⟩
 ·unfold qL;rw [if_neg h,if_pos hn];exact DSub.nil_sl
 unfold rL;rw [if_neg h,Nat.mod_eq_of_lt (rm hn),Al];exact DSub.refl _
theorem CO {a b N Q R:Nat} (h:¬ ((wl a).length≤2∧(wl b).length≤2)) (hn:bn b≤bn a) (hN:N=bn a - bn b) (hf:Q=a / b∧R=a % b) :
  Sub (.p (.a [W (dgs (N / 32+1) Q),W (dgs (wl a).length R)])) (.p (.a [W (qL a b),W (rL a b)])):=by
 refine aH ?_
 unfold qL rL;rw [if_neg h,if_neg h,if_neg (by omega),← hN,hf.1,hf.2]
end
section
open Go Go.RowKit
theorem Cj (n:Nat):wv (dgs (n / 32 + [1].length+1) (wv [1]*2 ^ n))=2 ^ n:=by
 have e:wv [1]=1:=rfl
 rw [e,Nat.one_mul,dU]
 rw [lZ]
 exact Nat.pow_lt_pow_right (by decide) (by simp;omega)
theorem lQ {x s:Int} (h:0 < x) (hs:0 < s):rootV x≤(s+x / s) / 2∧0 < (s+x / s) / 2:=by
 have:=kE h hs;rwa [Int.mul_one] at this
theorem xy {x s:Int} (h:0 < x) (hs:0 < s) (h1:rootV x≤s) (h2:s≤(s+x / s) / 2):rootV x=s:=rn h hs h1 (by rwa [Int.mul_one])
end
section
open Go Go.RowKit
theorem LP (a b c:Int):b*b + -4*a*c=dsc a b c:=by unfold dsc;rw [Int.sub_eq_add_neg,← Int.neg_mul,← Int.neg_mul]
theorem Ji {x:Int} (h:¬ sgn x < 0):(sgn (if x < 0 then 0 else x - rootV x*rootV x) == 0)=fh x:=by
 rw [sgn_lt_iff] at h
 exact ur (by rw [gO h];rfl)
theorem xG {x:Int} (h:sgn x < 0):false=fh x:=(oT (sgn_lt_iff.1 h)).symm
theorem My {a b c:Int} (h:dsc a b c < 0):a≠0:=by
 rintro rfl
 unfold dsc at h
 have:=da b
 simp at h;omega
theorem BS {a b c:Int} (h:fh (dsc a b c)=false) (h1:sgn (dsc a b c) < 0) (h2:sgn a < 0):1=ck a b c:=Au h h1 (by rw [sgn_lt_iff] at h2;rw [sgn_le_iff];omega)
theorem Gc {a b c:Int} (h:fh (dsc a b c)=false) (h1:sgn (dsc a b c) < 0) (h2:¬ sgn a < 0):0=ck a b c:=Ew h h1 (by have:=My (sgn_lt_iff.1 h1);rw [sgn_lt_iff] at h2;rw [sgn_le_iff];omega)
theorem Jf (a b c:Int):decide (((Int.gcd (Int.gcd a b:Int) c:Nat):Int)=1)=prim a b c:=by
 unfold prim
 rw [Int.gcd_assoc]
 exact decide_eq_decide.2 (by omega)
theorem M7 (a b c x y:Int):x*(a*x+b*y)+c*(y*y)=vl a b c x y:=by unfold vl;grind
theorem LQ (a b c p q r s:Int):2*(a*(p*q))+(b*(p*s+q*r)+2*(c*(r*s)))=apB a b c p q r s:=by unfold apB;grind
def dfn (a b c:Int):Bool:=decide (ck a b c=0) && decide (dsc a b c < 0)
theorem Hr {a b c:Int} (h:(ck a b c == 0)=true):decide (sgn (dsc a b c) < 0)=dfn a b c:=by
 unfold dfn
 rw [decide_eq_true (show ck a b c=0 by simpa using h),Bool.true_and]
 exact decide_eq_decide.2 sgn_lt_iff
theorem KD {a b c:Int} (h:(ck a b c == 0)=false):false=dfn a b c:=by
 unfold dfn
 rw [decide_eq_false (show ¬ ck a b c=0 by simpa using h),Bool.false_and]
theorem Av {a b c:Int} (h:ck a b c=0):dsc a b c≠0:=fun e=>by
 unfold ck at h;rw [e,rX] at h;simp at h
theorem dfn_iff {a b c:Int}:dfn a b c=true↔ck a b c=0∧dsc a b c≤0:=by
 unfold dfn
 rw [Bool.and_eq_true,decide_eq_true_iff,decide_eq_true_iff]
 constructor
 ·rintro ⟨h1,h2⟩;exact ⟨h1,by omega⟩
 rintro ⟨h1,h2⟩;have:=Av h1;exact ⟨h1,by omega⟩
section
variable {a b c:Int}
theorem F8 (h:(!dfn a b c)=true):false=rdd a b c:=kl fun x=>by
 have:=dfn_iff.2 ⟨x.1,x.2.1⟩;rw [this] at h;cases h
theorem F7 (h:decide (bA b.natAbs a > 0)=true):false=rdd a b c:=kl fun x=>by
 have:=cmpI_gt_zero.1 (dT0 h);have:=x.2.2.1;omega
theorem F6 (h:decide (bA a c > 0)=true):false=rdd a b c:=kl fun x=>by
 have:=cmpI_gt_zero.1 (dT0 h);have:=x.2.2.2.1;omega
theorem we (h:(!dfn a b c)=false) (h1:decide (bA b.natAbs a > 0)=false) (h2:decide (bA a c > 0)=false) (he:bA b.natAbs a=0∨bA a c=0):decide (sgn b ≥ 0)=rdd a b c:=by
 have h0:=dfn_iff.1 (by simpa using h)
 have g1:=dF0 h1
 have g2:=dF0 h2
 rw [cmpI_gt_zero] at g1 g2
 rw [cmpI_eq_zero,cmpI_eq_zero] at he
 rw [Bool.eq_iff_iff,rdd_iff,decide_eq_true_iff,sgn_ge_iff]
 constructor
 ·intro h;exact ⟨h0.1,h0.2,by omega,by omega,.inr h⟩
 rintro ⟨_,_,_,_,h | h⟩ <;> omega
theorem F5 (h:(!dfn a b c)=false) (h1:decide (bA b.natAbs a > 0)=false) (h2:decide (bA a c > 0)=false) (he:¬ bA b.natAbs a=0) (he2:¬ bA a c=0):true=rdd a b c:=by
 have h0:=dfn_iff.1 (by simpa using h)
 have g1:=dF0 h1
 have g2:=dF0 h2
 rw [cmpI_gt_zero] at g1 g2
 rw [cmpI_eq_zero] at he he2
 exact (rdd_iff.2 ⟨h0.1,h0.2,by omega,by omega,.inl ⟨by omega,by omega⟩⟩).symm
end
theorem Et {a p:Int} {P:Prop} [Decidable P] (h:decide (a=p)=false):false=decide (a=p∧P):=by
 symm;apply decide_eq_false;rintro ⟨e,_⟩;exact dF0 h e
theorem yv {a p:Int} {P:Prop} [Decidable P] (h:decide (a=p)=true) {x:Bool} (k:x=decide P):x=decide (a=p∧P):=by
 rw [k];exact decide_eq_decide.2 ⟨fun y=>⟨dT0 h,y⟩,fun y=>y.2⟩
def c9 (b:Nat):Mt:=((Mt.T ((b:Int) % 8 - 3)).mul .S).mul (.T ((b:Int) / 8 % 8 - 4))
theorem oX (b:Nat):(c9 b).det=1:=by unfold c9;rw [fM,fM,p6,p6,sM];rfl
end
section
open Go Go.RowKit
instance:LB 7 3:=⟨by decide⟩
instance:LB 9 3:=⟨by decide⟩
instance:LB 10 3:=⟨by decide⟩
instance:LB 11 3:=⟨by decide⟩
instance:LB 12 3:=⟨by decide⟩
instance:LB 13 3:=⟨by decide⟩
instance:LB 14 3:=⟨by decide⟩
instance:LB 15 3:=⟨by decide⟩
instance:LB 16 3:=⟨by decide⟩
instance:LB 17 3:=⟨by decide⟩
instance:LB 18 3:=⟨by decide⟩
instance:LB 19 3:=⟨by decide⟩
instance:LB 20 3:=⟨by decide⟩
instance:LB 21 3:=⟨by decide⟩
instance:LB 22 3:=⟨by decide⟩
instance:LB 23 3:=⟨by decide⟩
instance:LB 24 3:=⟨by decide⟩
instance:LB 25 3:=⟨by decide⟩
instance:LB 26 3:=⟨by decide⟩
instance:LB 27 3:=⟨by decide⟩
instance:LB 28 3:=⟨by decide⟩
instance:LB 29 3:=⟨by decide⟩
instance:LB 30 3:=⟨by decide⟩
instance:LB 31 3:=⟨by decide⟩
instance:LB 32 3:=⟨by decide⟩
instance:LB 33 3:=⟨by decide⟩
instance:LB 34 3:=⟨by decide⟩
instance:LB 35 3:=⟨by decide⟩
instance:LB 36 3:=⟨by decide⟩
instance:LB 37 3:=⟨by decide⟩
instance:LB 38 3:=⟨by decide⟩
instance:LB 39 3:=⟨by decide⟩
instance:LB 40 3:=⟨by decide⟩
instance:LB 41 3:=⟨by decide⟩
instance:LB 42 3:=⟨by decide⟩
instance:LB 43 3:=⟨by decide⟩
instance:LB 44 3:=⟨by decide⟩
instance:LB 45 3:=⟨by decide⟩
instance:LB 46 3:=⟨by decide⟩
instance:LB 47 3:=⟨by decide⟩
instance:LB 48 3:=⟨by decide⟩
instance:LB 49 3:=⟨by decide⟩
instance:LB 50 3:=⟨by decide⟩
instance:LB 51 3:=⟨by decide⟩
instance:LB 52 3:=⟨by decide⟩
instance:LB 53 3:=⟨by decide⟩
instance:LB 54 3:=⟨by decide⟩
instance:LB 55 3:=⟨by decide⟩
instance:LB 56 3:=⟨by decide⟩
instance:LB 57 3:=⟨by decide⟩
instance:LB 58 3:=⟨by decide⟩
instance:LB 59 3:=⟨by decide⟩
instance:LB 60 3:=⟨by decide⟩
instance:LB 61 3:=⟨by decide⟩
instance:LB 62 3:=⟨by decide⟩
instance:LB 63 3:=⟨by decide⟩
instance:LB 64 3:=⟨by decide⟩
theorem I8 {a b c:Int} (h:rdE a b c=0):rdd (rdF a b c).a (rdF a b c).b (rdF a b c).c=true:=by
 obtain ⟨M,h1,h2⟩:∃ M,a≤M∧c≤M:=⟨max a c,Int.le_max_left _ _,Int.le_max_right _ _⟩
 exact (km (lj h) h1 h2).2
theorem I9 {a b c:Int} (h:rdE a b c=0):(rdF a b c).pos:=by
 obtain ⟨M,h1,h2⟩:∃ M,a≤M∧c≤M:=⟨max a c,Int.le_max_left _ _,Int.le_max_right _ _⟩
 exact (km (lj h) h1 h2).1.pos
end
section
open Go Go.RowKit
def kX (f:Fm):Int:=(Int.gcd f.a (Int.gcd f.b f.c:Int):Nat)
theorem uT (f:Fm):kX f ∣ f.a:=Int.gcd_dvd_left ..
theorem uS (f:Fm):kX f ∣ f.b:=Int.dvd_trans (Int.gcd_dvd_right ..) (Int.gcd_dvd_left ..)
theorem uR (f:Fm):kX f ∣ f.c:=Int.dvd_trans (Int.gcd_dvd_right ..) (Int.gcd_dvd_right ..)
theorem Ai {d a b c:Int} (ha:d ∣ a) (hb:d ∣ b) (hc:d ∣ c) (x y:Int):d ∣ vl a b c x y:=by
 unfold vl
 exact Int.dvd_add (Int.dvd_add (Int.dvd_mul_of_dvd_left (Int.dvd_mul_of_dvd_left ha)) (Int.dvd_mul_of_dvd_left (Int.dvd_mul_of_dvd_left hb))) (Int.dvd_mul_of_dvd_left (Int.dvd_mul_of_dvd_left hc))
theorem Ho {d a b c:Int} (ha:d ∣ a) (hb:d ∣ b) (hc:d ∣ c) (p q r s:Int):d ∣ apB a b c p q r s:=by
 unfold apB
 exact Int.dvd_add (Int.dvd_mul_of_dvd_right (Int.dvd_add (Int.dvd_mul_of_dvd_left (Int.dvd_mul_of_dvd_left ha)) (Int.dvd_mul_of_dvd_left (Int.dvd_mul_of_dvd_left hc)))) (Int.dvd_mul_of_dvd_left hb)
theorem CL {d:Int} {f:Fm} (ha:d ∣ f.a) (hb:d ∣ f.b) (hc:d ∣ f.c):d ∣ kX f:=Int.dvd_coe_gcd ha (Int.dvd_coe_gcd hb hc)
theorem CT (f:Fm) (m:Mt):kX f ∣ kX (f.app m) :=
 CL (Ai (uT f) (uS f) (uR f) _ _) (Ho (uT f) (uS f) (uR f) _ _ _ _) (Ai (uT f) (uS f) (uR f) _ _)
theorem zB {f:Fm}:prim f.a f.b f.c=true↔kX f=1:=by
 unfold prim kX
 rw [decide_eq_true_iff]
 omega
theorem Hw (f:Fm):0≤kX f:=by unfold kX;omega
theorem wo {f:Fm} {m:Mt} (h:prim (f.app m).a (f.app m).b (f.app m).c=true):prim f.a f.b f.c=true:=by
 rw [zB] at h ⊢
 have h1:=CT f m
 rw [h] at h1
 exact Int.eq_one_of_dvd_one (Hw f) h1
def Mt.inv (m:Mt):Mt:=⟨m.d*m.det,-m.b*m.det,-m.c*m.det,m.a*m.det⟩
theorem GK {m:Mt} (h:m.det*m.det=1):m.mul m.inv=.one:=by
 unfold Mt.mul Mt.inv Mt.one
 have e:m.a*m.d - m.b*m.c=m.det:=rfl
 simp only [Mt.mk.injEq]
 refine ⟨?_,?_,?_,?_⟩ <;> grind
theorem HG {f:Fm} {m:Mt} (h:m.det*m.det=1):(f.app m).app m.inv=f:=by rw [fP,GK h,ra]
theorem tF (f:Fm) {m:Mt} (h:m.det*m.det=1):prim f.a f.b f.c=prim (f.app m).a (f.app m).b (f.app m).c:=by
 rw [Bool.eq_iff_iff]
 constructor
 ·intro h1
  rw [← HG (f:=f) h] at h1
  exact wo h1
 exact wo
theorem vN {a b c x y:Int} (hd:dsc a b c < 0) (hxy:¬ (x=0∧y=0)):0 < a*vl a b c x y:=by
 have e:4*(a*vl a b c x y)=(2*a*x+b*y)*(2*a*x+b*y) - dsc a b c*(y*y):=by unfold vl dsc;grind
 have ha:a≠0:=by
  rintro rfl
  unfold dsc at hd
  have:=da b
  omega
 have h1:=da (2*a*x+b*y)
 by_cases hy:y=0
 ·subst hy
  have hx:x≠0:=fun e=>hxy ⟨e,rfl⟩
  have h2:(2*a*x+b*0)*(2*a*x+b*0)=4*((a*x)*(a*x)):=by grind
  have h3:0 < (a*x)*(a*x):=by
   have h4:=da (a*x)
   have h5:(a*x)*(a*x)≠0:=Int.mul_ne_zero (Int.mul_ne_zero ha hx) (Int.mul_ne_zero ha hx)
   omega
  simp only [Int.mul_zero,Int.sub_zero] at e
  simp only [Int.mul_zero] at h2
  omega
 have h2:0 < y*y:=by
  have h4:=da y
  have h5:y*y≠0:=Int.mul_ne_zero hy hy
  omega
 have h3:0 < -(dsc a b c)*(y*y):=Int.mul_pos (by omega) h2
 rw [Int.neg_mul] at h3
 omega
theorem BA:∀ b:Fin 256,((c9 b.val).a.natAbs < 2 ^ 64∧(c9 b.val).b.natAbs < 2 ^ 64)∧(c9 b.val).c.natAbs < 2 ^ 64∧(c9 b.val).d.natAbs < 2 ^ 64:=by decide +kernel
theorem IP {b:Nat} (h:b < 256):LB (c9 b).a 6∧LB (c9 b).b 6∧LB (c9 b).c 6∧LB (c9 b).d 6:=by
 have:=BA ⟨b,h⟩
 exact ⟨⟨this.1.1⟩,⟨this.1.2⟩,⟨this.2.1⟩,⟨this.2.2⟩⟩
section
end
end
section
open Go Go.RowKit
def FC (f:Fm):List DV:=FL f.a f.b f.c
def FB (e:TypeId) (fs:List Fm):Blk:=⟨true,6,e,fs.flatMap FC⟩
def FS (fs:List Fm):DV:=.sl fs.length (fs.flatMap FC)
theorem ns (fs:List Fm):(fs.flatMap FC).length=fs.length*6:=by
 induction fs with
 | nil=>rfl
 | cons f fs ih=>rw [List.flatMap_cons,List.length_append,ih,List.length_cons];show 6+_=_;omega
theorem xc:∀ (fs:List Fm) (i:Nat) (h:i < fs.length),(fs.flatMap FC).drop (i*6)=FC fs[i] ++ (fs.drop (i+1)).flatMap FC
 | [],_,h=>absurd h (Nat.not_lt_zero _)
 | f :: fs,0,_=>rfl
 | f :: fs,i+1,h=>by
  have e:(i+1)*6=6+i*6:=by omega
  rw [e,← List.drop_drop]
  exact xc fs i (by simpa using h)
section ops
variable {P:Program} {tt:TT} (hT:dW P tt)
variable {dst:Option Nat} {ty:TypeId} {pos:String} {af:Array Edge} {gd:Option (Nat × Bool)} {d:Nat} {ρ:Operand→AV} {own:Own}
variable {T:TypeId} {i:TyI} {x y:Operand} {e:TypeId} {j:TyI}
include hT
theorem l7 {m:Nat} {fs:List Fm} {f:Fm} (ht:tt T=some i) (hs:i.sh=.sl e) (he:tt e=some j) (hj:j.size=6) (hjb:Nat.ble j.bytes 192=true) (hx:ρ x=.vec m) (hb:own m=some (FB e fs)) (hy:ρ y=.p (.c (.sl 1 (FC f)))) (hfit:fs.length≤100000000) (hmd:m≠d) :
  Eff P ⟨dst,.call ⟨.builtin .append,#[x,y],#[T,T]⟩,ty,pos,af,gd⟩ d ρ own (.vec d) [(m,none)] (some (FB e (fs ++ [f]))) [m]:=by
 have hl:(FB e fs).cs.length=fs.length*6:=ns fs
 have h:=eY (dst:=dst) (ty:=ty) (pos:=pos) (af:=af) (gd:=gd) hT ht hs he hx hb rfl hj.symm rfl hy (by rfl) (by rw [hj];rfl) (by rw [hj];exact hjb) (by rw [hl,hj];omega) (by rw [hj];rfl) hmd
 rw [hj] at h
 unfold FB
 rw [List.flatMap_append]
 have e1:[f].flatMap FC=FC f:=by simp
 rw [e1]
 exact h
theorem fX {k:IntKind} {n:Int} {fs:List Fm} (ht:tt T=some i) (hs:i.sh=.sl e) (he:tt e=some j) (hj:j.size=6) (hx:ρ x=.p (.c (FS fs))) (hy:ρ y=.p (.c (.v (.int k n)))) (hn:0≤n∧n < fs.length) :
  Eff P ⟨dst,.indexAddr T x y,ty,pos,af,gd⟩ d ρ own (.ip (FC (fs.getD n.toNat ⟨0,0,0⟩) ++ (fs.drop (n.toNat+1)).flatMap FC)) [] none []:=by
 have hi:n.toNat < fs.length:=by omega
 have h:=b6 (dst:=dst) (ty:=ty) (pos:=pos) (af:=af) (gd:=gd) (d:=d) (own:=own) hT ht hs he hx (l:=fs.length) (xs:=fs.flatMap FC) (by rfl) hy hn (by
  intro h0
  have:=ns fs
  rw [h0] at this
  simp at this
  omega)
 rw [hj,xc fs n.toNat hi] at h
 have e1:fs.getD n.toNat ⟨0,0,0⟩=fs[n.toNat]:=by simp [List.getD,hi]
 rw [e1]
 exact h
end ops
def okF (n a b:Int):Bool:=decide ((b*b+n) % (4*a)=0) && (rdd a b ((b*b+n) / (4*a)) && prim a b ((b*b+n) / (4*a)))
def fj (n a:Int):Nat→Int→List Fm
 | 0,_=>[]
 | k+1,b=>(if okF n a b then [⟨a,b,(b*b+n) / (4*a)⟩] else []) ++ fj n a k (b+1)
def ef (n:Int):Nat→Int→List Fm
 | 0,_=>[]
 | k+1,a=>if 3*a*a≤n then fj n a (2*a+1).toNat (-a) ++ ef n k (a+1) else []
def lst (n:Int):List Fm:=ef n 100 1
theorem rR {n a:Int} {f:Fm}:∀ {k:Nat} {b:Int},f∈fj n a k b→∃ b',b≤b'∧b' < b+k∧okF n a b'=true∧f=⟨a,b',(b'*b'+n) / (4*a)⟩
 | 0,b,h=>by simp [fj] at h
 | k+1,b,h=>by
  unfold fj at h
  rw [List.mem_append] at h
  rcases h with h | h
  ·split at h
   ·next hk=>simp at h;exact ⟨b,by omega,by omega,hk,h⟩
   simp at h
  obtain ⟨b',h1,h2,h3,h4⟩:=rR h
  exact ⟨b',by omega,by omega,h3,h4⟩
theorem rS {n:Int} {f:Fm}:∀ {k:Nat} {a:Int},1≤a→f∈ef n k a→∃ a' b',1≤a'∧3*a'*a'≤n∧-a'≤b'∧b'≤a'∧okF n a' b'=true∧f=⟨a',b',(b'*b'+n) / (4*a')⟩
 | 0,a,_,h=>by simp [ef] at h
 | k+1,a,ha,h=>by
  unfold ef at h
  split at h
  ·next hk =>
   rw [List.mem_append] at h
   rcases h with h | h
   ·obtain ⟨b',h1,h2,h3,h4⟩:=rR h
    exact ⟨a,b',ha,hk,h1,by omega,h3,h4⟩
   exact rS (by omega) h
  simp at h
theorem GP {n:Int} {f:Fm} (h:f∈lst n):1≤f.a∧3*f.a*f.a≤n∧-f.a≤f.b∧f.b≤f.a∧dsc f.a f.b f.c=-n∧rdd f.a f.b f.c=true∧prim f.a f.b f.c=true:=by
 obtain ⟨a,b,h1,h2,h3,h4,h5,rfl⟩:=rS (by omega) h
 unfold okF at h5
 rw [Bool.and_eq_true,Bool.and_eq_true,decide_eq_true_iff] at h5
 refine ⟨h1,h2,h3,h4,?_,h5.2.1,h5.2.2⟩
 have h6:=Int.mul_ediv_add_emod (b*b+n) (4*a)
 rw [h5.1] at h6
 show b*b - 4*a*((b*b+n) / (4*a))=-n
 omega
theorem JV {n:Int} (h3:3≤n) (h:n % 4=0∨n % 4=3):lst n≠[]:=by
 have key:∀ b:Int,b=0∨b=1→(b*b+n) % 4=0→okF n 1 b=true:=by
  intro b hb h4
  have hc:(b*b+n) / (4*1)=(b*b+n) / 4:=rfl
  have hd:dsc 1 b ((b*b+n) / 4)=-n:=by
   unfold dsc
   have:=Int.mul_ediv_add_emod (b*b+n) 4
   omega
  unfold okF
  rw [Bool.and_eq_true,Bool.and_eq_true,decide_eq_true_iff,hc]
  have hp:Fm.pos ⟨1,b,(b*b+n) / 4⟩:=⟨by show (0:Int) < 1;omega,by show dsc _ _ _ < 0;rw [hd];omega⟩
  refine ⟨h4,?_,?_⟩
  ·refine (qn hp).2 ?_
   rcases hb with rfl | rfl
   ·simp only;omega
   simp only;omega
  unfold prim;rw [decide_eq_true_iff];exact Int.one_gcd
 have e:lst n=fj n 1 3 (-1) ++ ef n 99 2:=by
  show ef n (99+1) 1=_
  unfold ef
  rw [if_pos (by omega)]
  rfl
 rw [e]
 intro h0
 have h1:=(List.append_eq_nil_iff.1 h0).1
 have e2:fj n 1 3 (-1)=(if okF n 1 (-1) then [⟨1,-1,((-1)*(-1)+n) / (4*1)⟩] else []) ++ ((if okF n 1 0 then [⟨1,0,(0*0+n) / (4*1)⟩] else []) ++ ((if okF n 1 1 then [⟨1,1,(1*1+n) / (4*1)⟩] else []) ++ [])):=rfl
 rw [e2] at h1
 have h2:=(List.append_eq_nil_iff.1 (List.append_eq_nil_iff.1 h1).2)
 rcases h with h | h
 ·rw [if_pos (key 0 (.inl rfl) (by omega))] at h2
  exact absurd h2.1 (by simp)
 have h5:=(List.append_eq_nil_iff.1 h2.2).1
 rw [if_pos (key 1 (.inr rfl) (by omega))] at h5
 exact absurd h5 (by simp)
section ghost
variable {P:Program} {B:Bool} {N np:Nat} {Q:Exit→St→Prop} {s:St} {c:Code}
theorem k9 {t m:Nat} {fs:List Fm} {be:TypeId} (ht:s.regs t=.vec m) (hb:s.own m=some (FB be fs)) (h:AWp P B N np c Q ⟨upd s.regs t (.p (.c (FS fs))),upd s.own m none⟩):AWp P B N np c Q s:=by
 refine iT (n:=fs.length) ht hb rfl (ns fs).symm (by show 0 < 6;omega) ?_
 exact h
end ghost
theorem ki {x m:Int} (h:-m≤x∧x≤m):0≤x*x∧x*x≤m*m:=⟨da x,kh (by omega)⟩
theorem KY {a N:Int} (_h1:1≤a) (h:3*a*a≤N) (hN:N≤2003):a≤25:=by
 rcases Int.lt_or_le 25 a with h2 | h2
 ·have h3:(26:Int)*26≤a*a:=Int.mul_le_mul (by omega) (by omega) (by omega) (by omega)
  have e:3*a*a=3*(a*a):=Int.mul_assoc ..
  omega
 exact h2
theorem NN {a:Int} (h1:1≤a∧a≤26):0≤3*a*a∧3*a*a≤2028:=by
 have:=ki (x:=a) (m:=26) (by omega)
 have e:3*a*a=3*(a*a):=Int.mul_assoc ..
 omega
theorem c_b {x y:Int} (hx:0≤x∧x≤3000) (hy:1≤y):0≤x / y∧x / y≤3000:=⟨Int.ediv_nonneg hx.1 (by omega),Int.le_trans (Int.ediv_le_self _ hx.1) hx.2⟩
def szz (D:Nat):Int:=if (3+(D:Int) % 2000) % 4=1 then 3+(D:Int) % 2000+2 else if (3+(D:Int) % 2000) % 4=2 then 3+(D:Int) % 2000+1 else 3+(D:Int) % 2000
theorem e9 (D:Nat):3+(D:Int) % 2000≤szz D∧3≤szz D∧szz D≤2003∧(szz D % 4=0∨szz D % 4=3)∧∀ n:Int,3+(D:Int) % 2000≤n→n≤szz D→(n % 4=0∨n % 4=3)→n=szz D:=by
 unfold szz
 have h1:=Int.emod_nonneg (D:Int) (show (2000:Int)≠0 by omega)
 have h2:=Int.emod_lt_of_pos (D:Int) (show (0:Int) < 2000 by omega)
 generalize (D:Int) % 2000=d at *
 split
 ·refine ⟨by omega,by omega,by omega,by omega,fun n _ _ _=>by omega⟩
 split
 ·refine ⟨by omega,by omega,by omega,by omega,fun n _ _ _=>by omega⟩
 refine ⟨by omega,by omega,by omega,by omega,fun n _ _ _=>by omega⟩
def pik (D i:Nat):Fm:=(lst (szz D)).getD ((i:Int) % ((lst (szz D)).length:Nat)).toNat ⟨0,0,0⟩
def mkF (D i m:Nat):Fm:=if m % 4=0 then pik D i else (pik D i).app (c9 m)
theorem wH (D:Nat):0 < (lst (szz D)).length:=List.length_pos_iff.2 (JV (e9 D).2.1 (e9 D).2.2.2.1)
theorem Gs (D i:Nat):pik D i∈lst (szz D):=by
 unfold pik
 have h:=wH D
 have h1:=Int.emod_nonneg (i:Int) (show ((lst (szz D)).length:Int)≠0 by omega)
 have h2:=Int.emod_lt_of_pos (i:Int) (show (0:Int) < ((lst (szz D)).length:Int) by omega)
 have h3:((i:Int) % ((lst (szz D)).length:Nat)).toNat < (lst (szz D)).length:=by omega
 rw [List.getD,List.getElem?_eq_getElem h3]
 exact List.getElem_mem h3
theorem gX (D i:Nat):1≤(pik D i).a∧(pik D i).a≤25∧-(pik D i).a≤(pik D i).b∧(pik D i).b≤(pik D i).a∧dsc (pik D i).a (pik D i).b (pik D i).c=-szz D∧rdd (pik D i).a (pik D i).b (pik D i).c=true∧prim (pik D i).a (pik D i).b (pik D i).c=true:=by
 obtain ⟨h1,h2,h3,h4,h5,h6,h7⟩:=GP (Gs D i)
 exact ⟨h1,KY h1 h2 (e9 D).2.2.1,h3,h4,h5,h6,h7⟩
theorem Ea (D i:Nat):1≤(pik D i).c∧(pik D i).c≤3000:=by
 obtain ⟨h1,h2,h3,h4,h5,h6,_⟩:=gX D i
 have h8:=(rdd_iff.1 h6).2.2.2.1
 refine ⟨by omega,?_⟩
 have h9:=(e9 D).2.2.1
 have hb:=ki (x:=(pik D i).b) (m:=25) (by omega)
 unfold dsc at h5
 have e:4*(pik D i).a*(pik D i).c=4*((pik D i).a*(pik D i).c):=Int.mul_assoc ..
 have h10:1*(pik D i).c≤(pik D i).a*(pik D i).c:=Int.mul_le_mul_of_nonneg_right h1 (by omega)
 omega
theorem L3 (D i:Nat):LB (pik D i).a 6∧LB (pik D i).b 6∧LB (pik D i).c 6:=by
 obtain ⟨h1,h2,h3,h4,_⟩:=gX D i
 have h5:=Ea D i
 exact ⟨⟨by unfold L;omega⟩,⟨by unfold L;omega⟩,⟨by unfold L;omega⟩⟩
theorem Ce (n:Int):[] ++ ef n (101 - (1:Int)).toNat 1=lst n:=rfl
theorem Mc {n a:Int} {out:List Fm} (h:out ++ ef n (101 - a).toNat a=lst n) (ha:1≤a∧a≤50) (hc:3*a*a≤n):out ++ (fj n a (a+1 - -a).toNat (-a) ++ ef n (100 - a).toNat (a+1))=lst n:=by
 have e:(101 - a).toNat=(100 - a).toNat+1:=by omega
 rw [← h,e,ef,if_pos hc,show (2*a+1).toNat=(a+1 - -a).toNat by congr 1;omega]
theorem yi {n a b:Int} {out r:List Fm} (h:out ++ (fj n a (a+1 - b).toNat b ++ r)=lst n) (hb:b≤a) (hk:okF n a b=false):out ++ (fj n a (a+1 - (b+1)).toNat (b+1) ++ r)=lst n:=by
 have e:(a+1 - b).toNat=(a+1 - (b+1)).toNat+1:=by omega
 rw [← h,e,fj,hk];rfl
theorem JW {n a b:Int} {out r:List Fm} (h:out ++ (fj n a (a+1 - b).toNat b ++ r)=lst n) (hb:b≤a) (hk:okF n a b=true):(out ++ [⟨a,b,(b*b+n) / (4*a)⟩]) ++ (fj n a (a+1 - (b+1)).toNat (b+1) ++ r)=lst n:=by
 have e:(a+1 - b).toNat=(a+1 - (b+1)).toNat+1:=by omega
 rw [← h,e,fj,hk];simp
theorem JX {n a b:Int} {out:List Fm} (h:out ++ (fj n a (a+1 - b).toNat b ++ ef n (100 - a).toNat (a+1))=lst n) (hb:¬ b≤a):out ++ ef n (101 - (a+1)).toNat (a+1)=lst n:=by
 have e:(a+1 - b).toNat=0:=by omega
 have e2:(101 - (a+1)).toNat=(100 - a).toNat:=by omega
 rw [← h,e,e2];rfl
theorem JY {n a:Int} {out:List Fm} (h:out ++ ef n (101 - a).toNat a=lst n) (hc:¬ 3*a*a≤n):out=lst n:=by
 rw [← h]
 cases (101 - a).toNat with
 | zero=>simp [ef]
 | succ k=>rw [ef,if_neg hc];simp
theorem GB {n a b:Int} (h:(b*b+n) % (4*a)≠0):okF n a b=false:=by unfold okF;rw [decide_eq_false h];rfl
theorem ua {n a b:Int} (h:(b*b+n) % (4*a)=0):okF n a b=(rdd a b ((b*b+n) / (4*a)) && prim a b ((b*b+n) / (4*a))):=by unfold okF;rw [decide_eq_true h];rfl
end
section
open Go Go.RowKit
theorem HY {a b c x y:Int} (hb:(b.natAbs:Int)≤a):a*((x.natAbs:Int)*x.natAbs) - a*((x.natAbs:Int)*y.natAbs)+c*((y.natAbs:Int)*y.natAbs)≤vl a b c x y:=by
 have e1:a*x*x=a*((x.natAbs:Int)*x.natAbs):=by rw [Int.natAbs_mul_self',Int.mul_assoc]
 have e2:c*y*y=c*((y.natAbs:Int)*y.natAbs):=by rw [Int.natAbs_mul_self',Int.mul_assoc]
 have e3:((b*x*y).natAbs:Int)=(b.natAbs:Int)*((x.natAbs:Int)*y.natAbs):=by rw [Int.natAbs_mul,Int.natAbs_mul];simp [Int.mul_assoc]
 have h1:(b.natAbs:Int)*((x.natAbs:Int)*y.natAbs)≤a*((x.natAbs:Int)*y.natAbs):=Int.mul_le_mul_of_nonneg_right hb (Int.mul_nonneg (by omega) (by omega))
 unfold vl
 rw [e1,e2]
 omega
theorem Ef {a b c x y:Int} (ha:0 < a) (hb:(b.natAbs:Int)≤a) (hc:a≤c) (hy:y≠0):c≤vl a b c x y:=by
 refine Int.le_trans ?_ (HY hb)
 have hy1:1≤(y.natAbs:Int):=by omega
 have hx0:0≤(x.natAbs:Int):=by omega
 generalize (x.natAbs:Int)=u at *
 generalize (y.natAbs:Int)=v at *
 have k1:a*(u*u) - a*(u*v)=a*(u*(u - v)):=by grind
 have hv:1≤v*v:=by
  have:1*1≤v*v:=Int.mul_le_mul hy1 hy1 (by omega) (by omega)
  omega
 rcases Int.le_total v u with h | h
 ·have h1:0≤a*(u*(u - v)):=Int.mul_nonneg (by omega) (Int.mul_nonneg hx0 (by omega))
  have h2:c*1≤c*(v*v):=Int.mul_le_mul_of_nonneg_left hv (by omega)
  omega
 have h0:0≤a*(u*u):=Int.mul_nonneg (by omega) (da u)
 rcases Int.lt_or_le u v with h' | h'
 ·have h3:a*(u*v)≤c*(u*v):=Int.mul_le_mul_of_nonneg_right hc (Int.mul_nonneg hx0 (by omega))
  have k2:c*(v*v) - c*(u*v)=c*(v*(v - u)):=by grind
  have h4:1*1≤v*(v - u):=Int.mul_le_mul hy1 (by omega) (by omega) (by omega)
  have h5:c*1≤c*(v*(v - u)):=Int.mul_le_mul_of_nonneg_left (by omega) (by omega)
  omega
 have e:u=v:=by omega
 subst e
 have h2:c*1≤c*(u*u):=Int.mul_le_mul_of_nonneg_left hv (by omega)
 omega
theorem L6 {a b c x y:Int} (ha:0 < a) (hb:(b.natAbs:Int)≤a) (hc:a≤c) (h:x≠0∨y≠0):a≤vl a b c x y:=by
 by_cases hy:y=0
 ·subst hy
  have hx:x≠0:=h.resolve_right (fun k=>k rfl)
  have e:vl a b c x 0=a*((x.natAbs:Int)*x.natAbs):=by unfold vl;rw [Int.natAbs_mul_self'];grind
  rw [e]
  have hx1:1≤(x.natAbs:Int):=by omega
  generalize (x.natAbs:Int)=u at *
  have h1:1*1≤u*u:=Int.mul_le_mul hx1 hx1 (by omega) (by omega)
  have h2:a*1≤a*(u*u):=Int.mul_le_mul_of_nonneg_left (by omega) (by omega)
  omega
 exact Int.le_trans hc (Ef ha hb hc hy)
theorem GL (D i m:Nat):(mkF D i m).pos:=by
 obtain ⟨h1,_,_,_,h5,_⟩:=gX D i
 have h3:=(e9 D).2.1
 have hp:(pik D i).pos:=⟨by omega,by show dsc _ _ _ < 0;omega⟩
 unfold mkF
 split
 ·exact hp
 have hd:=oX m
 refine ⟨?_,?_⟩
 ·have hm:¬ ((c9 m).a=0∧(c9 m).c=0):=by
   rintro ⟨k1,k2⟩
   unfold Mt.det at hd
   rw [k1,k2] at hd
   simp at hd
  have hs:=vN (a:=(pik D i).a) (b:=(pik D i).b) (c:=(pik D i).c) (x:=(c9 m).a) (y:=(c9 m).c) (by omega) hm
  show 0 < vl (pik D i).a (pik D i).b (pik D i).c (c9 m).a (c9 m).c
  rcases Int.lt_or_le 0 (vl (pik D i).a (pik D i).b (pik D i).c (c9 m).a (c9 m).c) with h | h
  ·exact h
  have:=Int.mul_nonpos_of_nonneg_of_nonpos (show 0≤(pik D i).a by omega) h
  omega
 show ((pik D i).app (c9 m)).disc < 0
 rw [ly hd]
 exact hp.2
end
section
open Go Go.RowKit
structure Rd (g:Fm):Prop where
 a:0 < g.a
 b:(g.b.natAbs:Int)≤g.a
 c:g.a≤g.c
 s:((g.b.natAbs:Int) < g.a∧g.a < g.c)∨0≤g.b
theorem Rd.of {g:Fm} (hp:0 < g.a) (h:rdd g.a g.b g.c=true):Rd g:=by
 have h1:=rdd_iff.1 h
 exact ⟨hp,h1.2.2.1,h1.2.2.2.1,h1.2.2.2.2⟩
theorem Am {m:Mt} (h:m.det=1):m.a≠0∨m.c≠0:=by
 by_cases h1:m.a=0
 ·right;intro h2
  unfold Mt.det at h
  rw [h1,h2] at h
  simp at h
 exact .inl h1
theorem od {m:Mt}:m.adj.det=m.det:=by unfold Mt.adj Mt.det;grind
theorem lI {g:Fm} {m:Mt} (h:m.det=1):(g.app m).app m.adj=g:=by
 rw [fP]
 have e:m.mul m.adj=.one:=by
  have h':m.a*m.d - m.b*m.c=1:=h
  unfold Mt.mul Mt.adj Mt.one
  simp only [Mt.mk.injEq]
  refine ⟨?_,?_,?_,?_⟩ <;> grind
 rw [e,ra]
theorem Rd.le {g:Fm} {m:Mt} (hg:Rd g) (h:m.det=1):g.a≤(g.app m).a:=L6 hg.a hg.b hg.c (Am h)
theorem Rd.cle {g:Fm} {m:Mt} (hg:Rd g) (h:m.c≠0):g.c≤(g.app m).a:=Ef hg.a hg.b hg.c h
theorem BO {g:Fm} {m:Mt} (hg:Rd g) (hm:m.det=1) (hh:Rd (g.app m)):g.app m=g:=by
 have ha:(g.app m).a=g.a:=by
  have h1:=hg.le hm
  have h2:=hh.le (m:=m.adj) (by rw [od];exact hm)
  rw [lI hm] at h2
  omega
 have hd:(g.app m).disc=g.disc:=ly hm
 have fin:(g.app m).b=g.b→g.app m=g:=by
  intro hb
  have hc:(g.app m).c=g.c:=by
   have h1:(g.app m).b*(g.app m).b - 4*(g.app m).a*(g.app m).c=g.b*g.b - 4*g.a*g.c:=hd
   rw [hb,ha] at h1
   have h2:g.a*(g.app m).c=g.a*g.c:=by
    have e1:4*g.a*(g.app m).c=4*(g.a*(g.app m).c):=Int.mul_assoc ..
    have e2:4*g.a*g.c=4*(g.a*g.c):=Int.mul_assoc ..
    omega
   exact Int.eq_of_mul_eq_mul_left (by have:=hg.a;omega) h2
  exact Fm.ext ha hb hc
 apply fin
 by_cases hy:m.c=0
 ·have h1:m.a*m.d=1:=by
   have:m.a*m.d - m.b*m.c=1:=hm
   rw [hy] at this;omega
  have hb:(g.app m).b=g.b+2*g.a*(m.a*m.b):=by
   show apB g.a g.b g.c m.a m.b m.c m.d=_
   unfold apB
   rw [hy]
   grind
  have s1:=hg.s;have s2:=hh.s
  have b1:=hg.b;have b2:=hh.b
  have a1:=hg.a
  rw [ha] at s2 b2
  generalize (g.app m).b=B at *
  generalize m.a*m.b=t at *
  have ht:t=0:=by
   rcases Int.lt_or_le t 0 with h | h
   ·exfalso
    have:g.a*t≤g.a*(-1):=Int.mul_le_mul_of_nonneg_left (by omega) (by omega)
    have e:2*g.a*t=2*(g.a*t):=Int.mul_assoc ..
    omega
   rcases Int.lt_or_le 0 t with h' | h'
   ·exfalso
    have:g.a*1≤g.a*t:=Int.mul_le_mul_of_nonneg_left (by omega) (by omega)
    have e:2*g.a*t=2*(g.a*t):=Int.mul_assoc ..
    omega
   omega
  rw [ht] at hb
  omega
 have h1:g.c≤(g.app m).a:=hg.cle hy
 have h2:(g.app m).c≤g.a:=by
  have:=hh.cle (m:=m.adj) (by show -m.c≠0;omega)
  rw [lI hm] at this
  exact this
 have c1:=hg.c;have c2:=hh.c
 have s1:=hg.s;have s2:=hh.s
 have e1:g.c=g.a:=by omega
 have e2:(g.app m).c=g.a:=by omega
 have h3:(g.app m).b*(g.app m).b - 4*(g.app m).a*(g.app m).c=g.b*g.b - 4*g.a*g.c:=hd
 rw [ha,e2,e1] at h3
 have h4:(g.app m).b*(g.app m).b=g.b*g.b:=by omega
 have p1:0≤g.b:=by omega
 have p2:0≤(g.app m).b:=by omega
 have q1:=iS p1 (Int.le_of_eq h4)
 have q2:=iS p2 (Int.le_of_eq h4.symm)
 omega
theorem qo {f:Fm} (hf:f.pos):∃ m:Mt,m.det=1∧rdF f.a f.b f.c=f.app m:=by
 have he:rdE f.a f.b f.c=0:=jh hf
 obtain ⟨h1,_⟩:=km (M:=max f.a f.c) hf (by omega) (by omega)
 exact ⟨(rdS f.a f.b f.c).2,h1.det,h1.eq⟩
end
section
open Go Go.RowKit
theorem Gq {f:Fm} {m:Mt} (hf:f.pos) (hd:m.det=1):(f.app m).pos:=by
 refine ⟨?_,?_⟩
 ·have hm:¬ (m.a=0∧m.c=0):=by
   rintro ⟨k1,k2⟩
   rcases Am hd with h | h
   ·exact h k1
   exact h k2
  have hs:=vN (a:=f.a) (b:=f.b) (c:=f.c) (x:=m.a) (y:=m.c) hf.2 hm
  show 0 < vl f.a f.b f.c m.a m.c
  rcases Int.lt_or_le 0 (vl f.a f.b f.c m.a m.c) with h | h
  ·exact h
  have h0:=hf.1
  have:=Int.mul_nonpos_of_nonneg_of_nonpos (show 0≤f.a by omega) h
  omega
 show (f.app m).disc < 0
 rw [ly hd]
 exact hf.2
theorem Rd.rdF {f:Fm} (hf:f.pos):Rd (AM.rdF f.a f.b f.c):=by
 have he:rdE f.a f.b f.c=0:=jh hf
 exact Rd.of (I9 he).1 (I8 he)
theorem A3 {f:Fm} {t:Mt} (hf:f.pos) (ht:t.det=1):rdF (f.app t).a (f.app t).b (f.app t).c=rdF f.a f.b f.c:=by
 have hp:=Gq hf ht
 obtain ⟨m,hm,e⟩:=qo hf
 obtain ⟨k,hk,e'⟩:=qo hp
 have r1:=Rd.rdF hf
 have r2:=Rd.rdF hp
 have e3:(f.app m).app (m.adj.mul (t.mul k))=(f.app t).app k:=by
  rw [← fP,lI hm,fP]
 rw [e] at r1
 rw [e'] at r2
 rw [e,e']
 rw [← e3] at r2 ⊢
 exact BO r1 (by rw [fM,fM,od,hm,ht,hk];rfl) r2
end
section
open Go Go.RowKit
theorem wb {f:Fm} (hf:f.pos):(rdM f.a f.b f.c).det=1∧rdF f.a f.b f.c=f.app (rdM f.a f.b f.c):=by
 obtain ⟨h1,_⟩:=km (M:=max f.a f.c) hf (by omega) (by omega)
 exact ⟨h1.det,h1.eq⟩
theorem tg {f g:Fm} (hf:f.pos) (hg:g.pos) (h:smB f.a f.b f.c g.a g.b g.c=true):(smM f.a f.b f.c g.a g.b g.c).det=1∧f.app (smM f.a f.b f.c g.a g.b g.c)=g:=by
 unfold smM
 rw [if_pos h]
 unfold smB at h
 have h1:=(dT0 h).2.2
 obtain ⟨d1,e1⟩:=wb hf
 obtain ⟨d2,e2⟩:=wb hg
 refine ⟨by rw [fM,od,d1,d2];rfl,?_⟩
 rw [← fP,← e1,h1,e2,lI d2]
theorem GM (D i m:Nat):dsc (mkF D i m).a (mkF D i m).b (mkF D i m).c=-szz D:=by
 obtain ⟨_,_,_,_,h5,_⟩:=gX D i
 unfold mkF
 split
 ·exact h5
 have:=ly (f:=pik D i) (oX m)
 exact Eq.trans this h5
end
section
open Go Go.RowKit
theorem L5 {m n:Mt} {k:Nat} (m1:LB m.a k) (m2:LB m.b k) (m3:LB m.c k) (m4:LB m.d k) (n1:LB n.a k) (n2:LB n.b k) (n3:LB n.c k) (n4:LB n.d k) :
  LB (m.mul n.adj).a (k+2)∧LB (m.mul n.adj).b (k+2)∧LB (m.mul n.adj).c (k+2)∧LB (m.mul n.adj).d (k+2):=by
 refine ⟨⟨?_⟩,⟨?_⟩,⟨?_⟩,⟨?_⟩⟩
 ·exact (m1.le.mul n4.le).add (m2.le.mul n3.le.neg)
 ·exact (m1.le.mul n2.le.neg).add (m2.le.mul n1.le)
 ·exact (m3.le.mul n4.le).add (m4.le.mul n3.le.neg)
 exact (m3.le.mul n2.le.neg).add (m4.le.mul n1.le)
theorem MY {a b c p q r:Int} (ha:LB a 20) (hb:LB b 20) (hc:LB c 20) (hp:LB p 20) (hq:LB q 20) (hr:LB r 20) :
  LB (smM a b c p q r).a 23∧LB (smM a b c p q r).b 23∧LB (smM a b c p q r).c 23∧LB (smM a b c p q r).d 23:=by
 unfold smM
 split
 ·exact L5 (k:=21) ⟨lz⟩ ⟨lz⟩ ⟨lz⟩ ⟨lz⟩ ⟨lz⟩ ⟨lz⟩ ⟨lz⟩ ⟨lz⟩
 exact ⟨⟨lz⟩,⟨lz⟩,⟨lz⟩,⟨lz⟩⟩
def Fm.rd (f:Fm):Fm:=rdF f.a f.b f.c
theorem wa {f:Fm} {t:Mt} (hf:f.pos) (ht:t.det=1):(f.app t).rd=f.rd:=A3 hf ht
theorem tv {f:Fm} (hf:f.pos):∃ m:Mt,m.det=1∧f.rd=f.app m:=qo hf
section
end
end
end Go.AM
