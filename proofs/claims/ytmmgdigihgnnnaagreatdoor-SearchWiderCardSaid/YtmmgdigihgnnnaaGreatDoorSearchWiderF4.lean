/-
  Closed facts of the program, by the kernel (4). No condition.
-/
import Derived.Test.YtmmgdigihgnnnaaGreatDoorCards
import Derived.KernelRfl
import Derived.JoinedOf
namespace Go.Proofs.YtmmgdigihgnnnaaGreatDoor.searchWider
theorem fGoes : false = Rows.searchWiderRow.goesBy Tryz.prog := by kernel_rfl
end Go.Proofs.YtmmgdigihgnnnaaGreatDoor.searchWider
