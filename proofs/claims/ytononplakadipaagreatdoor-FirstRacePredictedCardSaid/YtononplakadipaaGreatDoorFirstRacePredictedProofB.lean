/-
  The law of FirstRacePredicted over its row. No condition.
-/
import Derived.Test.YtononplakadipaaGreatDoorCards
import Derived.Test.YtononplakadipaaGreatDoorTie
import Derived.Test.YtononplakadipaaGreatDoorFirstRacePredictedF0
import Derived.Test.YtononplakadipaaGreatDoorFirstRacePredictedF1
import Derived.Test.YtononplakadipaaGreatDoorFirstRacePredictedF2
import Derived.Test.YtononplakadipaaGreatDoorFirstRacePredictedF3
import Derived.Test.YtononplakadipaaGreatDoorFirstRacePredictedF4
import Derived.Test.YtononplakadipaaGreatDoorFirstRacePredictedF5
import Derived.Test.YtononplakadipaaGreatDoorFirstRacePredictedF6
import Derived.Test.YtononplakadipaaGreatDoorFirstRacePredictedF7
import Derived.Test.YtononplakadipaaGreatDoorFirstRacePredictedProofA
import Derived.WalkKit
import Derived.ProofKit
import Derived.OpenShut
import Derived.LaidMore
import Derived.LaidSub
import Derived.Lay
import Derived.ChangeOld
import Derived.Below
import Derived.Stop.Joined
import Derived.SevenTiedAt
namespace Go.Proofs.YtononplakadipaaGreatDoor.firstRacePredicted
open Go.ChangeShapes Go.WideShapes Go.ChangeAt Go.RowKit
theorem closed : joinedFacts Tryz.prog 3 Tryz.f3 Rows.firstRacePredictedSpec Rows.firstRacePredictedRow = true := by
  unfold joinedFacts
  rw [fLaid, fMaps, fPlace, fUnf, fRec, fNamed, fPlain, fHeard, fEnter, fLifts, fMake]
  kernel_rfl
theorem over : Rows.firstRacePredictedRow.holds Tryz.pinned (OpenSpec.ofChange Rows.firstRacePredictedSpec) :=
  OpenClaim.holds_of_wide 3 Tryz.f3 rfl rfl rfl rfl rfl rfl rfl ⟨rfl, rfl, rfl, rfl, rfl⟩ rfl rfl rfl rfl rfl (by kernel_rfl) Tryz.func3 closed
    (of_decide_eq_true (by kernel_rfl)) (by unfold Func.isWrapper; first | (rw [if_pos (by decide +kernel)]; kernel_rfl) | (rw [if_neg (by decide +kernel)]; exact ⟨rfl, rfl⟩))
    (fun os started H enc _ => lifted os started H enc)

end Go.Proofs.YtononplakadipaaGreatDoor.firstRacePredicted
