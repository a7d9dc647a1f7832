import Derived.Test.YtpnomhdachaifaaGreatDoorHEF
set_option maxRecDepth 100000
namespace Go.AM
open Go Go.RowKit
theorem TU:rK fKn 3 497=true:=by decide +kernel
theorem TR:rK fKn 500 500=true:=by decide +kernel
theorem TQ:rK fKn 1000 400=true:=by decide +kernel
end Go.AM
