/-
  Closed facts of the program, by the kernel (0). No condition.
-/
import Derived.Test.YtmmgdigihgnnnaaGreatDoorCards
import Derived.KernelRfl
import Derived.JoinedOf
namespace Go.Proofs.YtmmgdigihgnnnaaGreatDoor.searchWider
theorem fEnter : Tryz.prog.mayEnter = true := by kernel_rfl
end Go.Proofs.YtmmgdigihgnnnaaGreatDoor.searchWider
