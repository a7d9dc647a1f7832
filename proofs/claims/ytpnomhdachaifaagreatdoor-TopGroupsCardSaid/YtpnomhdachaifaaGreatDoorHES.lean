import Derived.Test.YtpnomhdachaifaaGreatDoorHEC
set_option maxRecDepth 100000
namespace Go.AM
open Go Go.RowKit
def bkL(zs:List Nat):List (List PV):=(List.range zs.length).map fun(k:Nat)=>[.c (.v (.int .i64 ((zs.length:Int)-1-(k:Int)))),.c (w32 (zs.getD (zs.length-1-k) 0))]
theorem tB(zs:List Nat):(bkL zs).length=zs.length:=by unfold bkL;simp
theorem DS{zs:List Nat}{k:Nat}(h:k<zs.length):(bkL zs)[k]?=some [.c (.v (.int .i64 ((zs.length:Int)-1-(k:Int)))),.c (w32 (zs.getD (zs.length-1-k) 0))]:=by
 unfold bkL;rw[UE,Wb h];rfl
theorem LU{zs:List Nat}{k:Nat}{x:List PV}(h:(bkL zs)[k]?=some x):k<zs.length∧x=[.c (.v (.int .i64 ((zs.length:Int)-1-(k:Int)))),.c (w32 (zs.getD (zs.length-1-k) 0))]:=by
 have hk:k<zs.length:=by have:=(Uu.1 h).1;rwa [tB]at this
 rw[DS hk]at h;exact⟨hk,(Vl h).symm⟩
theorem LS(zs:List Nat):∀ x∈bkL zs,x.length=2:=by
 intro x hx;unfold bkL at hx;obtain⟨k,_,rfl⟩:=UO.1 hx;rfl
def lwA(zs:List Nat)(k:Nat):Nat:=wv (zs.drop (zs.length-k))
theorem Bg(zs:List Nat):lwA zs 0=0:=by unfold lwA;rw[Nat.sub_zero,XB];rfl
theorem Kv(zs:List Nat):lwA zs zs.length=wv zs:=by unfold lwA;rw[WE];rfl
theorem wE{zs:List Nat}{k:Nat}(h:k<zs.length):lwA zs (k+1)=lwA zs k*4294967296+zs.getD (zs.length-1-k) 0:=by
 unfold lwA;have hi:zs.length-(k+1)<zs.length:=by omega
 rw[Vn hi,show zs.length-(k+1)+1=zs.length-k by omega];have e:zs.getD (zs.length-1-k) 0=zs[zs.length-(k+1)]:=by
  rw[As,show zs.length-1-k=zs.length-(k+1) by omega,Fl hi];rfl
 rw[e];show _+4294967296*_=_;omega
theorem RC{zs:List Nat}(hok:okW zs)(h2:zs.length<=2){k:Nat}(h:k<zs.length):lwA zs k<4294967296:=by
 rcases(show k=0∨k=1 by omega)with rfl|rfl
 ·rw[Bg];omega
 have h0:0<zs.length:=by omega
 rw[wE h0,Bg];have:=hok.getD (zs.length-1-0);omega
theorem S2{m x:Nat}(hm:m<4294967296)(hx:x<4294967296):bits .or .u64 ((m*4294967296:Nat):Int) (x:Int)=((m*4294967296+x:Nat):Int):=by
 rw[ql rfl (jT (by omega)) (jT (by omega)),Va m,show(4294967296:Nat)=2^32 by rfl,Xh (i:=32) (by omega)]
def qG(m:Nat):Int:=if m<9223372036854775808 then m else(m:Int)-18446744073709551616
theorem BP(z:Int):IntKind.i64.wrap z=if 9223372036854775808<=z%18446744073709551616 then z%18446744073709551616-18446744073709551616 else z%18446744073709551616:=by
 simp[IntKind.wrap,IntKind.signed,IntKind.bits]
theorem Nt{m:Nat}(h:m<18446744073709551616):IntKind.i64.wrap (m:Int)=qG m:=by
 rw[BP];unfold qG;split <;> split <;> omega
def yL(x:Int):Int:=if x<0 then IntKind.i64.wrap (0-qG x.natAbs)else qG x.natAbs
theorem Mo{x:Int}(h:x<0):IntKind.i64.wrap (0-qG x.natAbs)=yL x:=by unfold yL;rw[H2 h]
theorem Mn{x:Int}(h:¬ x<0):qG x.natAbs=yL x:=by unfold yL;rw[G2 h]
theorem AC{x:Int}(h:x.natAbs<18446744073709551616):(lwO x=true∧yL x=x)∨(lwO x=false∧¬ yL x=0∧¬ ((x<0)↔(yL x<0))):=by
 have hy:yL x=if x<0 then(if x.natAbs<=9223372036854775808 then x else 18446744073709551616+x)else(if x<9223372036854775808 then x else x-18446744073709551616):=by
  unfold yL;rw[BP];unfold qG;repeat' split
  all_goals omega
 rw[hy];unfold lwO;by_cases hr:-9223372036854775808<=x∧x<9223372036854775808
 ·refine .inl ⟨G6 hr,?_⟩;repeat' split
  all_goals omega
 refine .inr ⟨Ix hr,?_⟩;repeat' split
 all_goals omega
theorem zJ{x:Int}(h:x.natAbs<18446744073709551616)(h1:(decide (x<0) != decide (yL x<0))=true):AV.t [PE 0,PB false]=.t [PE (lwV x),PB (lwO x)]:=by
 rcases AC h with⟨a,b⟩|⟨a,b,c⟩
 ·rw[b]at h1;simp at h1
 unfold lwV;rw[a];rfl
theorem wG{x:Int}(h:x.natAbs<18446744073709551616)(h1:(decide (x<0) != decide (yL x<0))=false):AV.t [PE (yL x),PB true]=.t [PE (lwV x),PB (lwO x)]:=by
 rcases AC h with⟨a,b⟩|⟨a,b,c⟩
 ·unfold lwV;rw[a,b];rfl
 exfalso;apply c;rw[bne_eq_false_iff_eq]at h1;exact decide_eq_decide.1 h1
theorem ur{x:Int}(h:x.natAbs<18446744073709551616)(h1:yL x=0):AV.t [PE (yL x),PB true]=.t [PE (lwV x),PB (lwO x)]:=by
 rcases AC h with⟨a,b⟩|⟨a,b,c⟩
 ·unfold lwV;rw[a,b];rfl
 exact absurd h1 b
end Go.AM
