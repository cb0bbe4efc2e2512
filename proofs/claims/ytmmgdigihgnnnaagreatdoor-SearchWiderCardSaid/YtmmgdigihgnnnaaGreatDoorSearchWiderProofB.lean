/-
  The law of SearchWider over its row. No condition.
-/
import Derived.Test.YtmmgdigihgnnnaaGreatDoorCards
import Derived.Test.YtmmgdigihgnnnaaGreatDoorTie
import Derived.Test.YtmmgdigihgnnnaaGreatDoorSearchWiderF0
import Derived.Test.YtmmgdigihgnnnaaGreatDoorSearchWiderF1
import Derived.Test.YtmmgdigihgnnnaaGreatDoorSearchWiderF2
import Derived.Test.YtmmgdigihgnnnaaGreatDoorSearchWiderF3
import Derived.Test.YtmmgdigihgnnnaaGreatDoorSearchWiderF4
import Derived.Test.YtmmgdigihgnnnaaGreatDoorSearchWiderF5
import Derived.Test.YtmmgdigihgnnnaaGreatDoorSearchWiderF6
import Derived.Test.YtmmgdigihgnnnaaGreatDoorSearchWiderF7
import Derived.Test.YtmmgdigihgnnnaaGreatDoorSearchWiderProofA
import Derived.WalkKit
import Derived.ProofKit
import Derived.OpenShut
import Derived.LaidMore
import Derived.LaidSub
import Derived.Lay
import Derived.ChangeOld
import Derived.Below
import Derived.Stop.Joined
import Derived.SevenTiedAt
namespace Go.Proofs.YtmmgdigihgnnnaaGreatDoor.searchWider
open Go.ChangeShapes Go.WideShapes Go.ChangeAt Go.RowKit
theorem closed : joinedFacts Tryz.prog 3 Tryz.f3 Rows.searchWiderSpec Rows.searchWiderRow = true := by
  unfold joinedFacts
  rw [fLaid, fMaps, fPlace, fUnf, fRec, fNamed, fPlain, fHeard, fEnter, fLifts, fMake]
  kernel_rfl
theorem over : Rows.searchWiderRow.holds Tryz.pinned (OpenSpec.ofChange Rows.searchWiderSpec) :=
  OpenClaim.holds_of_wide 3 Tryz.f3 rfl rfl rfl rfl rfl rfl rfl ⟨rfl, rfl, rfl, rfl, rfl⟩ rfl rfl rfl rfl rfl (by kernel_rfl) Tryz.func3 closed
    (of_decide_eq_true (by kernel_rfl)) (by unfold Func.isWrapper; first | (rw [if_pos (by decide +kernel)]; kernel_rfl) | (rw [if_neg (by decide +kernel)]; exact ⟨rfl, rfl⟩))
    (fun os started H enc _ => lifted os started H enc)

end Go.Proofs.YtmmgdigihgnnnaaGreatDoor.searchWider
