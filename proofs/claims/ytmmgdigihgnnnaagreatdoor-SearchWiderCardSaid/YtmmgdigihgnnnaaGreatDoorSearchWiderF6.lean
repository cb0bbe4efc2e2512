/-
  Closed facts of the program, by the kernel (6). No condition.
-/
import Derived.Test.YtmmgdigihgnnnaaGreatDoorCards
import Derived.KernelRfl
import Derived.JoinedOf
namespace Go.Proofs.YtmmgdigihgnnnaaGreatDoor.searchWider
theorem fRec : (Rows.searchWiderRow.recurses == Tryz.prog.recurses 3) = true := by kernel_rfl
theorem fNamed : (Rows.searchWiderRow.named == Tryz.prog.varsNamed 3) = true := by kernel_rfl
end Go.Proofs.YtmmgdigihgnnnaaGreatDoor.searchWider
