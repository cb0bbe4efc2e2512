/-
  The law of SearchEnough over its row. No condition.
-/
import Derived.Test.YtlmflgjjamepmaaGreatDoorCards
import Derived.Test.YtlmflgjjamepmaaGreatDoorTie
import Derived.Test.YtlmflgjjamepmaaGreatDoorSearchEnoughF0
import Derived.Test.YtlmflgjjamepmaaGreatDoorSearchEnoughF1
import Derived.Test.YtlmflgjjamepmaaGreatDoorSearchEnoughF2
import Derived.Test.YtlmflgjjamepmaaGreatDoorSearchEnoughF3
import Derived.Test.YtlmflgjjamepmaaGreatDoorSearchEnoughF4
import Derived.Test.YtlmflgjjamepmaaGreatDoorSearchEnoughF5
import Derived.Test.YtlmflgjjamepmaaGreatDoorSearchEnoughF6
import Derived.Test.YtlmflgjjamepmaaGreatDoorSearchEnoughF7
import Derived.Test.YtlmflgjjamepmaaGreatDoorSearchEnoughProofA
import Derived.WalkKit
import Derived.ProofKit
import Derived.OpenShut
import Derived.LaidMore
import Derived.LaidSub
import Derived.Lay
import Derived.ChangeOld
import Derived.Below
import Derived.Stop.Joined
import Derived.SevenTiedAt
namespace Go.Proofs.YtlmflgjjamepmaaGreatDoor.searchEnough
open Go.ChangeShapes Go.WideShapes Go.ChangeAt Go.RowKit
theorem closed : joinedFacts Tryz.prog 3 Tryz.f3 Rows.searchEnoughSpec Rows.searchEnoughRow = true := by
  unfold joinedFacts
  rw [fLaid, fMaps, fPlace, fUnf, fRec, fNamed, fPlain, fHeard, fEnter, fLifts, fMake]
  kernel_rfl
theorem over : Rows.searchEnoughRow.holds Tryz.pinned (OpenSpec.ofChange Rows.searchEnoughSpec) :=
  OpenClaim.holds_of_wide 3 Tryz.f3 rfl rfl rfl rfl rfl rfl rfl ⟨rfl, rfl, rfl, rfl, rfl⟩ rfl rfl rfl rfl rfl (by kernel_rfl) Tryz.func3 closed
    (of_decide_eq_true (by kernel_rfl)) (by unfold Func.isWrapper; first | (rw [if_pos (by decide +kernel)]; kernel_rfl) | (rw [if_neg (by decide +kernel)]; exact ⟨rfl, rfl⟩))
    (fun os started H enc _ => lifted os started H enc)

end Go.Proofs.YtlmflgjjamepmaaGreatDoor.searchEnough
