/-
  The statement FirstRacePredicted, proved: for every input the law returns true and its arguments read as before. No condition.
-/
import Derived.Test.YtononplakadipaaGreatDoorCards
import Derived.Test.YtononplakadipaaGreatDoorTie
import Derived.Test.YtononplakadipaaGreatDoorFirstRacePredictedProofB
import Derived.WalkKit
import Derived.ProofKit
import Derived.OpenShut
import Derived.LaidMore
import Derived.LaidSub
import Derived.Lay
import Derived.ChangeOld
import Derived.Below
import Derived.Stop.Joined
import Derived.SevenTiedAt
namespace Go.Proofs.YtononplakadipaaGreatDoor.firstRacePredicted
open Go.ChangeShapes Go.WideShapes Go.ChangeAt Go.RowKit
/-- the statement: the tied card -/
theorem proved : Rows.FirstRacePredictedCardSaid :=
  Claim7.holds_tied_plain_at .later [] [.data, .data, .data, .data, .sentinel, .sentinel, .data, .pinned] true (true, "65869c279b0e0c91350798ee88671d1bea9ff8f73b5aa95b2395839cf0d2e147") true
    over (fun _ h => by cases h) (by kernel_rfl) (fun _ h => by cases h) firstRacePredicted_row_tie rfl ⟨rfl, rfl⟩ fMain rfl
    (fun f fn hf hfn => by
      obtain rfl : f = 3 := Option.some.inj ((show Tryz.prog.funcNamed "interleave/interleavetop.FirstRacePredicted" = some 3 by kernel_rfl).symm.trans hf) |>.symm
      obtain rfl : fn = Tryz.f3 := (Option.some.inj (Tryz.func3.symm.trans hfn)).symm
      exact ⟨fLooks, fun j t ht => by
        rw [Tryz.params3] at ht
        have hm : t ∈ [22, 22, 5] := by simpa using Array.mem_of_getElem? ht
        have hall : ([22, 22, 5].all fun u => !Tryz.prog.wantsStandIn u) = true := by kernel_rfl
        exact (show Tryz.prog.wantsStandIn t = false by simpa using List.all_eq_true.1 hall t hm)⟩)
    fGoes
#print axioms proved
end Go.Proofs.YtononplakadipaaGreatDoor.firstRacePredicted
