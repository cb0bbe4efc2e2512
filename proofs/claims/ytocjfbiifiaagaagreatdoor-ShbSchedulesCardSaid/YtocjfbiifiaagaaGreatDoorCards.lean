/-
  DERIVED. GIVEN WITH THE SEED: THE CARDS: each row of YtocjfbiifiaagaaGreatDoorRows.lean that lists a variable, with what it lists TIED to the program's text (the seventh form; the later family's looks); each row that meets fmt, with fmt's text TOLD by the authors' own Lean function (tested against real Go, not proved from fmt's source: count such statements apart). THE CARD IS WHAT COUNTS. Prove the row's statement (the work); the ties are given (YtocjfbiifiaagaaGreatDoorTie.lean); close each card by the builder's one call (the guide's Derived/Test/ToyasCard.lean, 'card_holds'). Laid BY PROGRAM, IN A SANDBOX (cutbox-door.mjs). By AI agents, Wed Nov 11 2026. No macro, syntax, notation, axiom, sorry.
-/
import Derived.Test.YtocjfbiifiaagaaGreatDoorRows
import GoSem.ClaimSeven
namespace Go.Proofs.YtocjfbiifiaagaaGreatDoor
namespace Rows

/-- THE TIED CARD OF 'interleavelaw25.ShbSchedules'. -/
def shbSchedulesCard : Claim7 := { stood := { row := shbSchedulesRow, standIns := [], harness := (true, "64e5897de3d0c56985f81dba06851186b7e0f5bc19117aa23f4e9c18ed27102d"), looks := false }, kinds := [], alts := [], laidByText := true, laidKinds := [.data], laidTests := true, laidLooks := .later }
def ShbSchedulesCardSaid : Prop := Claim7.holds Tryz.pinned (.plain (OpenSpec.ofChange shbSchedulesSpec)) shbSchedulesCard

/-- THE SECOND FORM's CARD OF 'interleavelaw25.ShbSchedules'. -/
def shbSchedulesUptoCard : Claim7 := { stood := { row := shbSchedulesUptoRow, standIns := [], harness := (true, "64e5897de3d0c56985f81dba06851186b7e0f5bc19117aa23f4e9c18ed27102d"), looks := false }, kinds := [], alts := [], laidByText := true, laidKinds := [.data], laidTests := true, laidLooks := .later }
def ShbSchedulesUptoCardSaid : Prop := Claim7.holds Tryz.pinned (.plain (OpenSpec.upto shbSchedulesSpec)) shbSchedulesUptoCard
end Rows
end Go.Proofs.YtocjfbiifiaagaaGreatDoor
