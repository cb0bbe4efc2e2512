/-
  Closed facts of the program, by the kernel (5). No condition.
-/
import Derived.Test.YtmmgdigihgnnnaaGreatDoorCards
import Derived.KernelRfl
import Derived.JoinedOf
namespace Go.Proofs.YtmmgdigihgnnnaaGreatDoor.searchWider
theorem fPlace : (Rows.searchWiderRow.inPlace == Tryz.prog.inPlace 3) = true := by kernel_rfl
theorem fUnf : (Rows.searchWiderRow.unfollowed == Tryz.prog.unfollowed 3) = true := by kernel_rfl
end Go.Proofs.YtmmgdigihgnnnaaGreatDoor.searchWider
