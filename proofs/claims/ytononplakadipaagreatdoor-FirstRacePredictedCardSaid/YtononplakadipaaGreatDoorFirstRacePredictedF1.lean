/-
  Closed facts of the program, by the kernel (1). No condition.
-/
import Derived.Test.YtononplakadipaaGreatDoorCards
import Derived.KernelRfl
import Derived.JoinedOf
namespace Go.Proofs.YtononplakadipaaGreatDoor.firstRacePredicted
theorem fLifts : (Rows.firstRacePredictedRow.lifted == Tryz.prog.liftsFinal) = true := by kernel_rfl
end Go.Proofs.YtononplakadipaaGreatDoor.firstRacePredicted
