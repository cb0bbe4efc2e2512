/-
  Closed facts of the program, by the kernel (4). No condition.
-/
import Derived.Test.YtlmflgjjamepmaaGreatDoorCards
import Derived.KernelRfl
import Derived.JoinedOf
namespace Go.Proofs.YtlmflgjjamepmaaGreatDoor.searchEnough
theorem fGoes : false = Rows.searchEnoughRow.goesBy Tryz.prog := by kernel_rfl
end Go.Proofs.YtlmflgjjamepmaaGreatDoor.searchEnough
