/- The check, run by the kernel: part 1. -/
import Derived.Test.YtfdjankalhfceaaGreatLGC
namespace Go.AM
theorem ck5 : ((List.range 100).all fun i : Nat => !okD ((i : Int) + 505) || chD ((i : Int) + 505)) = true := by decide +kernel
theorem ck6 : ((List.range 100).all fun i : Nat => !okD ((i : Int) + 605) || chD ((i : Int) + 605)) = true := by decide +kernel
theorem ck7 : ((List.range 100).all fun i : Nat => !okD ((i : Int) + 705) || chD ((i : Int) + 705)) = true := by decide +kernel
theorem ck8 : ((List.range 100).all fun i : Nat => !okD ((i : Int) + 805) || chD ((i : Int) + 805)) = true := by decide +kernel
theorem ck9 : ((List.range 100).all fun i : Nat => !okD ((i : Int) + 905) || chD ((i : Int) + 905)) = true := by decide +kernel
end Go.AM
