/-
  Closed facts of the program, by the kernel (7). No condition.
-/
import Derived.Test.YtmmgdigihgnnnaaGreatDoorCards
import Derived.KernelRfl
import Derived.JoinedOf
namespace Go.Proofs.YtmmgdigihgnnnaaGreatDoor.searchWider
theorem fLaid : laidOutB Tryz.prog = true := by kernel_rfl
theorem fMaps : mapsRowed Tryz.prog = true := by kernel_rfl
theorem fPlain : (Rows.searchWiderRow.plainKeys == Tryz.prog.plainKeys) = true := by kernel_rfl
theorem fHeard : Tryz.prog.stopsHeard = true := by kernel_rfl
theorem fLooks : true = Tryz.prog.looks [] := by kernel_rfl
end Go.Proofs.YtmmgdigihgnnnaaGreatDoor.searchWider
