import Derived.Test.YtpnomhdachaifaaGreatDoorHEK
set_option maxRecDepth 100000
namespace Go.AM
theorem Tu:dkA 600 TI=true:=by decide +kernel
theorem Tt:dkA 650 TH=true:=by decide +kernel
theorem Ts:dkA 700 TG=true:=by decide +kernel
theorem Tq:dkA 750 TF=true:=by decide +kernel
theorem Tp:dkA 800 TE=true:=by decide +kernel
end Go.AM
