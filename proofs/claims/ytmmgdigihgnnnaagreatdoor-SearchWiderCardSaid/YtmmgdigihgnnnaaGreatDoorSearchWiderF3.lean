/-
  Closed facts of the program, by the kernel (3). No condition.
-/
import Derived.Test.YtmmgdigihgnnnaaGreatDoorCards
import Derived.KernelRfl
import Derived.JoinedOf
namespace Go.Proofs.YtmmgdigihgnnnaaGreatDoor.searchWider
theorem fMain : Tryz.prog.mainIs = some (true, "fef80ff17602579d1eeedaa72cb04dd7ae4491669034be8bb521626bab9df71e".toList) := by kernel_rfl
end Go.Proofs.YtmmgdigihgnnnaaGreatDoor.searchWider
