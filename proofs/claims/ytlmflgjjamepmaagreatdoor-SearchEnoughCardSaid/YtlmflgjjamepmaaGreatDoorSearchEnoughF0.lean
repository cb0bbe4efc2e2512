/-
  Closed facts of the program, by the kernel (0). No condition.
-/
import Derived.Test.YtlmflgjjamepmaaGreatDoorCards
import Derived.KernelRfl
import Derived.JoinedOf
namespace Go.Proofs.YtlmflgjjamepmaaGreatDoor.searchEnough
theorem fEnter : Tryz.prog.mayEnter = true := by kernel_rfl
end Go.Proofs.YtlmflgjjamepmaaGreatDoor.searchEnough
