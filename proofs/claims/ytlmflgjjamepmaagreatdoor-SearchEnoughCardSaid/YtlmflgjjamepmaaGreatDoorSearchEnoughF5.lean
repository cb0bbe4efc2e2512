/-
  Closed facts of the program, by the kernel (5). No condition.
-/
import Derived.Test.YtlmflgjjamepmaaGreatDoorCards
import Derived.KernelRfl
import Derived.JoinedOf
namespace Go.Proofs.YtlmflgjjamepmaaGreatDoor.searchEnough
theorem fPlace : (Rows.searchEnoughRow.inPlace == Tryz.prog.inPlace 3) = true := by kernel_rfl
theorem fUnf : (Rows.searchEnoughRow.unfollowed == Tryz.prog.unfollowed 3) = true := by kernel_rfl
end Go.Proofs.YtlmflgjjamepmaaGreatDoor.searchEnough
