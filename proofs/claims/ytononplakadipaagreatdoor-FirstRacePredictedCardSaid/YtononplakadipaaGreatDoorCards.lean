/-
  DERIVED. GIVEN WITH THE SEED: THE CARDS: each row of YtononplakadipaaGreatDoorRows.lean that lists a variable, with what it lists TIED to the program's text (the seventh form; the later family's looks); each row that meets fmt, with fmt's text TOLD by the authors' own Lean function (tested against real Go, not proved from fmt's source: count such statements apart). THE CARD IS WHAT COUNTS. Prove the row's statement (the work); the ties are given (YtononplakadipaaGreatDoorTie.lean); close each card by the builder's one call (the guide's Derived/Test/ToyasCard.lean, 'card_holds'). Laid BY PROGRAM, IN A SANDBOX (cutbox-door.mjs). By AI agents, Wed Nov 11 2026. No macro, syntax, notation, axiom, sorry.
-/
import Derived.Test.YtononplakadipaaGreatDoorRows
import GoSem.ClaimSeven
namespace Go.Proofs.YtononplakadipaaGreatDoor
namespace Rows

/-- THE TIED CARD OF 'interleavetop.FirstRacePredicted'. -/
def firstRacePredictedCard : Claim7 := { stood := { row := firstRacePredictedRow, standIns := [], harness := (true, "65869c279b0e0c91350798ee88671d1bea9ff8f73b5aa95b2395839cf0d2e147"), looks := true }, kinds := [], alts := [], laidByText := true, laidKinds := [.data, .data, .data, .data, .sentinel, .sentinel, .data, .pinned], laidTests := true, laidLooks := .later }
def FirstRacePredictedCardSaid : Prop := Claim7.holds Tryz.pinned (.plain (OpenSpec.ofChange firstRacePredictedSpec)) firstRacePredictedCard

/-- THE SECOND FORM's CARD OF 'interleavetop.FirstRacePredicted'. -/
def firstRacePredictedUptoCard : Claim7 := { stood := { row := firstRacePredictedUptoRow, standIns := [], harness := (true, "65869c279b0e0c91350798ee88671d1bea9ff8f73b5aa95b2395839cf0d2e147"), looks := true }, kinds := [], alts := [], laidByText := true, laidKinds := [.data, .data, .data, .data, .sentinel, .sentinel, .data, .pinned], laidTests := true, laidLooks := .later }
def FirstRacePredictedUptoCardSaid : Prop := Claim7.holds Tryz.pinned (.plain (OpenSpec.upto firstRacePredictedSpec)) firstRacePredictedUptoCard
end Rows
end Go.Proofs.YtononplakadipaaGreatDoor
