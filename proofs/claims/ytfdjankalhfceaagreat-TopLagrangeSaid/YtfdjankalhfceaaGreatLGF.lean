/- The check, run by the kernel: part 2. -/
import Derived.Test.YtfdjankalhfceaaGreatLGC
namespace Go.AM
theorem ck10 : ((List.range 100).all fun i : Nat => !okD ((i : Int) + 1005) || chD ((i : Int) + 1005)) = true := by decide +kernel
theorem ck11 : ((List.range 100).all fun i : Nat => !okD ((i : Int) + 1105) || chD ((i : Int) + 1105)) = true := by decide +kernel
theorem ck12 : ((List.range 100).all fun i : Nat => !okD ((i : Int) + 1205) || chD ((i : Int) + 1205)) = true := by decide +kernel
theorem ck13 : ((List.range 100).all fun i : Nat => !okD ((i : Int) + 1305) || chD ((i : Int) + 1305)) = true := by decide +kernel
theorem ck14 : ((List.range 100).all fun i : Nat => !okD ((i : Int) + 1405) || chD ((i : Int) + 1405)) = true := by decide +kernel
end Go.AM
