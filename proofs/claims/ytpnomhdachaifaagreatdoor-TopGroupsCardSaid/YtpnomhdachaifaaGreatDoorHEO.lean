import Derived.Test.YtpnomhdachaifaaGreatDoorHEK
set_option maxRecDepth 100000
namespace Go.AM
theorem To:dkA 850 TD=true:=by decide +kernel
theorem Tn:dkA 900 TA=true:=by decide +kernel
theorem Tm:dkA 950 Tz=true:=by decide +kernel
theorem Tl:dkA 1000 Ty=true:=by decide +kernel
end Go.AM
