import Derived.Test.YtpnomhdachaifaaGreatDoorHED
set_option maxRecDepth 100000
namespace Go.AM
open Go Go.RowKit
end Go.AM
