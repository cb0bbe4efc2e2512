/-
  The statement SearchEnough, proved: for every input the law returns true and its arguments read as before. No condition.
-/
import Derived.Test.YtlmflgjjamepmaaGreatDoorCards
import Derived.Test.YtlmflgjjamepmaaGreatDoorTie
import Derived.Test.YtlmflgjjamepmaaGreatDoorSearchEnoughProofB
import Derived.WalkKit
import Derived.ProofKit
import Derived.OpenShut
import Derived.LaidMore
import Derived.LaidSub
import Derived.Lay
import Derived.ChangeOld
import Derived.Below
import Derived.Stop.Joined
import Derived.SevenTiedAt
namespace Go.Proofs.YtlmflgjjamepmaaGreatDoor.searchEnough
open Go.ChangeShapes Go.WideShapes Go.ChangeAt Go.RowKit
/-- the statement: the tied card -/
theorem proved : Rows.SearchEnoughCardSaid :=
  Claim7.holds_tied_plain_at .later [] [.data, .data, .data, .data, .sentinel, .sentinel, .data, .pinned] true (true, "3be76aefaf39f6bef3ed3ad44348fe463da16a4478290b98dfa06b7fde773325") true
    over (fun _ h => by cases h) (by kernel_rfl) (fun _ h => by cases h) searchEnough_row_tie rfl ⟨rfl, rfl⟩ fMain rfl
    (fun f fn hf hfn => by
      obtain rfl : f = 3 := Option.some.inj ((show Tryz.prog.funcNamed "interleave/interleavetop.SearchEnough" = some 3 by kernel_rfl).symm.trans hf) |>.symm
      obtain rfl : fn = Tryz.f3 := (Option.some.inj (Tryz.func3.symm.trans hfn)).symm
      exact ⟨fLooks, fun j t ht => by
        rw [Tryz.params3] at ht
        have hm : t ∈ [24, 25] := by simpa using Array.mem_of_getElem? ht
        have hall : ([24, 25].all fun u => !Tryz.prog.wantsStandIn u) = true := by kernel_rfl
        exact (show Tryz.prog.wantsStandIn t = false by simpa using List.all_eq_true.1 hall t hm)⟩)
    fGoes
#print axioms proved
end Go.Proofs.YtlmflgjjamepmaaGreatDoor.searchEnough
