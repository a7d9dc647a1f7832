/- The check, run by the kernel: part 0. -/
import Derived.Test.YtfdjankalhfceaaGreatLGC
namespace Go.AM
theorem ck0 : ((List.range 100).all fun i : Nat => !okD ((i : Int) + 5) || chD ((i : Int) + 5)) = true := by decide +kernel
theorem ck1 : ((List.range 100).all fun i : Nat => !okD ((i : Int) + 105) || chD ((i : Int) + 105)) = true := by decide +kernel
theorem ck2 : ((List.range 100).all fun i : Nat => !okD ((i : Int) + 205) || chD ((i : Int) + 205)) = true := by decide +kernel
theorem ck3 : ((List.range 100).all fun i : Nat => !okD ((i : Int) + 305) || chD ((i : Int) + 305)) = true := by decide +kernel
theorem ck4 : ((List.range 100).all fun i : Nat => !okD ((i : Int) + 405) || chD ((i : Int) + 405)) = true := by decide +kernel
end Go.AM
