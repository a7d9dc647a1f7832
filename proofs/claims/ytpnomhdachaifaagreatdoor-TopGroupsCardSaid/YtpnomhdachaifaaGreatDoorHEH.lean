import Derived.Test.YtpnomhdachaifaaGreatDoorHEG
set_option maxRecDepth 100000
namespace Go.AM
open Go Go.RowKit
theorem TO:rK fKn 1400 300=true:=by decide +kernel
theorem TN:rK fKn 1700 304=true:=by decide +kernel
theorem O4{n:Nat}(h1:3<=n)(h2:n<=2003)(h3:n%4=0∨n%4=3):fKn n=true:=by
 rcases Ut n 500 with q|q
 ·exact fw TU n h1 (by omega) h3
 rcases Ut n 1000 with q2|q2
 ·exact fw TR n q (by omega) h3
 rcases Ut n 1400 with q3|q3
 ·exact fw TQ n q2 (by omega) h3
 rcases Ut n 1700 with q4|q4
 ·exact fw TO n q3 (by omega) h3
 exact fw TN n q4 (by omega) h3
theorem Dr(D:Nat):(prW (lst (szz D))).length*2^((chs (-szz D)).length-1)=(lst (szz D)).length∧((lst (szz D)).filter amb).length=2^((chs (-szz D)).length-1):=by
 have hs:=dj D;have hE:=mG D;obtain⟨n,hn⟩:∃ n:Nat,szz D=(n:Int):=⟨(szz D).toNat,by omega⟩
 rw[hn]at hs hE ⊢;exact Pg (O4 (by omega) (by omega) (by omega)) (by omega) (by omega) hE
end Go.AM
