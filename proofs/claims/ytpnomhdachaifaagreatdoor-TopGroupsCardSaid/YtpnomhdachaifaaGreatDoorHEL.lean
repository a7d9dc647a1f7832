import Derived.Test.YtpnomhdachaifaaGreatDoorHEK
set_option maxRecDepth 100000
namespace Go.AM
theorem gk0:dkA 0 gd0=true:=by decide +kernel
theorem gk1:dkA 50 gd1=true:=by decide +kernel
theorem gk2:dkA 100 gd2=true:=by decide +kernel
theorem gk3:dkA 150 gd3=true:=by decide +kernel
theorem gk4:dkA 200 gd4=true:=by decide +kernel
theorem gk5:dkA 250 gd5=true:=by decide +kernel
theorem gk6:dkA 300 gd6=true:=by decide +kernel
end Go.AM
