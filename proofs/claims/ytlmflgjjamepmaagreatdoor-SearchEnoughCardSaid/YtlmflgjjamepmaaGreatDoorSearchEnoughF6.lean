/-
  Closed facts of the program, by the kernel (6). No condition.
-/
import Derived.Test.YtlmflgjjamepmaaGreatDoorCards
import Derived.KernelRfl
import Derived.JoinedOf
namespace Go.Proofs.YtlmflgjjamepmaaGreatDoor.searchEnough
theorem fRec : (Rows.searchEnoughRow.recurses == Tryz.prog.recurses 3) = true := by kernel_rfl
theorem fNamed : (Rows.searchEnoughRow.named == Tryz.prog.varsNamed 3) = true := by kernel_rfl
end Go.Proofs.YtlmflgjjamepmaaGreatDoor.searchEnough
