/-
  Closed facts of the program, by the kernel (3). No condition.
-/
import Derived.Test.YtlmflgjjamepmaaGreatDoorCards
import Derived.KernelRfl
import Derived.JoinedOf
namespace Go.Proofs.YtlmflgjjamepmaaGreatDoor.searchEnough
theorem fMain : Tryz.prog.mainIs = some (true, "3be76aefaf39f6bef3ed3ad44348fe463da16a4478290b98dfa06b7fde773325".toList) := by kernel_rfl
end Go.Proofs.YtlmflgjjamepmaaGreatDoor.searchEnough
