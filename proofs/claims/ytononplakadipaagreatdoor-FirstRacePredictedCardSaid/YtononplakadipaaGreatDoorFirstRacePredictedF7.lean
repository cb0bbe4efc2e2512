/-
  Closed facts of the program, by the kernel (7). No condition.
-/
import Derived.Test.YtononplakadipaaGreatDoorCards
import Derived.KernelRfl
import Derived.JoinedOf
namespace Go.Proofs.YtononplakadipaaGreatDoor.firstRacePredicted
theorem fLaid : laidOutB Tryz.prog = true := by kernel_rfl
theorem fMaps : mapsRowed Tryz.prog = true := by kernel_rfl
theorem fPlain : (Rows.firstRacePredictedRow.plainKeys == Tryz.prog.plainKeys) = true := by kernel_rfl
theorem fHeard : Tryz.prog.stopsHeard = true := by kernel_rfl
theorem fLooks : true = Tryz.prog.looks [] := by kernel_rfl
end Go.Proofs.YtononplakadipaaGreatDoor.firstRacePredicted
