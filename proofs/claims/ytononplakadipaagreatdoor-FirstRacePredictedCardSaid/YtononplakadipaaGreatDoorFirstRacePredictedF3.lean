/-
  Closed facts of the program, by the kernel (3). No condition.
-/
import Derived.Test.YtononplakadipaaGreatDoorCards
import Derived.KernelRfl
import Derived.JoinedOf
namespace Go.Proofs.YtononplakadipaaGreatDoor.firstRacePredicted
theorem fMain : Tryz.prog.mainIs = some (true, "65869c279b0e0c91350798ee88671d1bea9ff8f73b5aa95b2395839cf0d2e147".toList) := by kernel_rfl
end Go.Proofs.YtononplakadipaaGreatDoor.firstRacePredicted
