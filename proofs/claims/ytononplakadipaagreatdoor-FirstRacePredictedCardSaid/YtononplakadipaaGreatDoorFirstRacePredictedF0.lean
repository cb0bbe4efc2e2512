/-
  Closed facts of the program, by the kernel (0). No condition.
-/
import Derived.Test.YtononplakadipaaGreatDoorCards
import Derived.KernelRfl
import Derived.JoinedOf
namespace Go.Proofs.YtononplakadipaaGreatDoor.firstRacePredicted
theorem fEnter : Tryz.prog.mayEnter = true := by kernel_rfl
end Go.Proofs.YtononplakadipaaGreatDoor.firstRacePredicted
