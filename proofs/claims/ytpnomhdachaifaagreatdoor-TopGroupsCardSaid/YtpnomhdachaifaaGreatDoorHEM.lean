import Derived.Test.YtpnomhdachaifaaGreatDoorHEK
set_option maxRecDepth 100000
namespace Go.AM
theorem gk7:dkA 350 gd7=true:=by decide +kernel
theorem gk8:dkA 400 gd8=true:=by decide +kernel
theorem gk9:dkA 450 gd9=true:=by decide +kernel
theorem Tw:dkA 500 TK=true:=by decide +kernel
theorem Tv:dkA 550 TJ=true:=by decide +kernel
end Go.AM
