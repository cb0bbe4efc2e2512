/-
  Closed facts of the program, by the kernel (2). No condition.
-/
import Derived.Test.YtononplakadipaaGreatDoorCards
import Derived.KernelRfl
import Derived.JoinedOf
namespace Go.Proofs.YtononplakadipaaGreatDoor.firstRacePredicted
theorem fMake : (Tryz.prog.make == some Rows.firstRacePredictedRow.make) = true := by kernel_rfl
end Go.Proofs.YtononplakadipaaGreatDoor.firstRacePredicted
