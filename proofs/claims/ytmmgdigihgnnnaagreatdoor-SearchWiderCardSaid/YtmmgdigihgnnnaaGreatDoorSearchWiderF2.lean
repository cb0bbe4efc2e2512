/-
  Closed facts of the program, by the kernel (2). No condition.
-/
import Derived.Test.YtmmgdigihgnnnaaGreatDoorCards
import Derived.KernelRfl
import Derived.JoinedOf
namespace Go.Proofs.YtmmgdigihgnnnaaGreatDoor.searchWider
theorem fMake : (Tryz.prog.make == some Rows.searchWiderRow.make) = true := by kernel_rfl
end Go.Proofs.YtmmgdigihgnnnaaGreatDoor.searchWider
