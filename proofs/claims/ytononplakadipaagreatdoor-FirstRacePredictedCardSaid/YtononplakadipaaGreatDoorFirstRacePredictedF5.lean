/-
  Closed facts of the program, by the kernel (5). No condition.
-/
import Derived.Test.YtononplakadipaaGreatDoorCards
import Derived.KernelRfl
import Derived.JoinedOf
namespace Go.Proofs.YtononplakadipaaGreatDoor.firstRacePredicted
theorem fPlace : (Rows.firstRacePredictedRow.inPlace == Tryz.prog.inPlace 3) = true := by kernel_rfl
theorem fUnf : (Rows.firstRacePredictedRow.unfollowed == Tryz.prog.unfollowed 3) = true := by kernel_rfl
end Go.Proofs.YtononplakadipaaGreatDoor.firstRacePredicted
