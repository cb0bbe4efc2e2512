/-
  Closed facts of the program, by the kernel (6). No condition.
-/
import Derived.Test.YtononplakadipaaGreatDoorCards
import Derived.KernelRfl
import Derived.JoinedOf
namespace Go.Proofs.YtononplakadipaaGreatDoor.firstRacePredicted
theorem fRec : (Rows.firstRacePredictedRow.recurses == Tryz.prog.recurses 3) = true := by kernel_rfl
theorem fNamed : (Rows.firstRacePredictedRow.named == Tryz.prog.varsNamed 3) = true := by kernel_rfl
end Go.Proofs.YtononplakadipaaGreatDoor.firstRacePredicted
