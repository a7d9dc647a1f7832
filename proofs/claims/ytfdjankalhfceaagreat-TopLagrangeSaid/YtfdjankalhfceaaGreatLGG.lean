/- The check, run by the kernel: part 3. -/
import Derived.Test.YtfdjankalhfceaaGreatLGC
namespace Go.AM
theorem ck15 : ((List.range 100).all fun i : Nat => !okD ((i : Int) + 1505) || chD ((i : Int) + 1505)) = true := by decide +kernel
theorem ck16 : ((List.range 100).all fun i : Nat => !okD ((i : Int) + 1605) || chD ((i : Int) + 1605)) = true := by decide +kernel
theorem ck17 : ((List.range 100).all fun i : Nat => !okD ((i : Int) + 1705) || chD ((i : Int) + 1705)) = true := by decide +kernel
theorem ck18 : ((List.range 100).all fun i : Nat => !okD ((i : Int) + 1805) || chD ((i : Int) + 1805)) = true := by decide +kernel
theorem ck19 : ((List.range 100).all fun i : Nat => !okD ((i : Int) + 1905) || chD ((i : Int) + 1905)) = true := by decide +kernel
end Go.AM
