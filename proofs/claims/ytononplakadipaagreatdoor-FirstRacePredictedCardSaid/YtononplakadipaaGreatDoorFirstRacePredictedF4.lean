/-
  Closed facts of the program, by the kernel (4). No condition.
-/
import Derived.Test.YtononplakadipaaGreatDoorCards
import Derived.KernelRfl
import Derived.JoinedOf
namespace Go.Proofs.YtononplakadipaaGreatDoor.firstRacePredicted
theorem fGoes : false = Rows.firstRacePredictedRow.goesBy Tryz.prog := by kernel_rfl
end Go.Proofs.YtononplakadipaaGreatDoor.firstRacePredicted
