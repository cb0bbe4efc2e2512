/-
  DERIVED. GIVEN WITH THE SEED: THE CARDS: each row of YtecomllighcieaaGreatDoorRows.lean that lists a variable, with what it lists TIED to the program's text (the seventh form; the later family's looks); each row that meets fmt, with fmt's text TOLD by the authors' own Lean function (tested against real Go, not proved from fmt's source: count such statements apart). THE CARD IS WHAT COUNTS. Prove the row's statement (the work); the ties are given (YtecomllighcieaaGreatDoorTie.lean); close each card by the builder's one call (the guide's Derived/Test/ToyasCard.lean, 'card_holds'). Laid BY PROGRAM, IN A SANDBOX (cutbox-door.mjs). By AI agents, Wed Nov 11 2026. No macro, syntax, notation, axiom, sorry.
-/
import Derived.Test.YtecomllighcieaaGreatDoorRows
import GoSem.ClaimSeven
namespace Go.Proofs.YtecomllighcieaaGreatDoor
namespace Rows

/-- THE TIED CARD OF 'interleavelaw23.HBSteps'. -/
def hBStepsCard : Claim7 := { stood := { row := hBStepsRow, standIns := [], harness := (true, "505702e96c519abc659d0759cd5f6e35a3ed22865444d5af4d9e9a5766686d2e"), looks := false }, kinds := [], alts := [], laidByText := true, laidKinds := [.data], laidTests := true, laidLooks := .later }
def HBStepsCardSaid : Prop := Claim7.holds Tryz.pinned (.plain (OpenSpec.ofChange hBStepsSpec)) hBStepsCard

/-- THE SECOND FORM's CARD OF 'interleavelaw23.HBSteps'. -/
def hBStepsUptoCard : Claim7 := { stood := { row := hBStepsUptoRow, standIns := [], harness := (true, "505702e96c519abc659d0759cd5f6e35a3ed22865444d5af4d9e9a5766686d2e"), looks := false }, kinds := [], alts := [], laidByText := true, laidKinds := [.data], laidTests := true, laidLooks := .later }
def HBStepsUptoCardSaid : Prop := Claim7.holds Tryz.pinned (.plain (OpenSpec.upto hBStepsSpec)) hBStepsUptoCard
end Rows
end Go.Proofs.YtecomllighcieaaGreatDoor
