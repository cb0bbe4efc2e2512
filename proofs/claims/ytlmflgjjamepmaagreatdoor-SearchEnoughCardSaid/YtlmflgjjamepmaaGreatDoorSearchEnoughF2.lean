/-
  Closed facts of the program, by the kernel (2). No condition.
-/
import Derived.Test.YtlmflgjjamepmaaGreatDoorCards
import Derived.KernelRfl
import Derived.JoinedOf
namespace Go.Proofs.YtlmflgjjamepmaaGreatDoor.searchEnough
theorem fMake : (Tryz.prog.make == some Rows.searchEnoughRow.make) = true := by kernel_rfl
end Go.Proofs.YtlmflgjjamepmaaGreatDoor.searchEnough
