/-
  The statement SearchWider, proved: for every input the law returns true and its arguments read as before. No condition.
-/
import Derived.Test.YtmmgdigihgnnnaaGreatDoorCards
import Derived.Test.YtmmgdigihgnnnaaGreatDoorTie
import Derived.Test.YtmmgdigihgnnnaaGreatDoorSearchWiderProofB
import Derived.WalkKit
import Derived.ProofKit
import Derived.OpenShut
import Derived.LaidMore
import Derived.LaidSub
import Derived.Lay
import Derived.ChangeOld
import Derived.Below
import Derived.Stop.Joined
import Derived.SevenTiedAt
namespace Go.Proofs.YtmmgdigihgnnnaaGreatDoor.searchWider
open Go.ChangeShapes Go.WideShapes Go.ChangeAt Go.RowKit
/-- the statement: the tied card -/
theorem proved : Rows.SearchWiderCardSaid :=
  Claim7.holds_tied_plain_at .later [] [.data, .data, .data, .data, .sentinel, .sentinel, .data, .pinned] true (true, "fef80ff17602579d1eeedaa72cb04dd7ae4491669034be8bb521626bab9df71e") true
    over (fun _ h => by cases h) (by kernel_rfl) (fun _ h => by cases h) searchWider_row_tie rfl ⟨rfl, rfl⟩ fMain rfl
    (fun f fn hf hfn => by
      obtain rfl : f = 3 := Option.some.inj ((show Tryz.prog.funcNamed "interleave/interleavetop.SearchWider" = some 3 by kernel_rfl).symm.trans hf) |>.symm
      obtain rfl : fn = Tryz.f3 := (Option.some.inj (Tryz.func3.symm.trans hfn)).symm
      exact ⟨fLooks, fun j t ht => by
        rw [Tryz.params3] at ht
        have hm : t ∈ [22, 22, 5, 5, 23] := by simpa using Array.mem_of_getElem? ht
        have hall : ([22, 22, 5, 5, 23].all fun u => !Tryz.prog.wantsStandIn u) = true := by kernel_rfl
        exact (show Tryz.prog.wantsStandIn t = false by simpa using List.all_eq_true.1 hall t hm)⟩)
    fGoes
#print axioms proved
end Go.Proofs.YtmmgdigihgnnnaaGreatDoor.searchWider
