/-
  DERIVED. GIVEN WITH THE SEED: THE CARDS: each row of YtmmgdigihgnnnaaGreatDoorRows.lean that lists a variable, with what it lists TIED to the program's text (the seventh form; the later family's looks); each row that meets fmt, with fmt's text TOLD by the authors' own Lean function (tested against real Go, not proved from fmt's source: count such statements apart). THE CARD IS WHAT COUNTS. Prove the row's statement (the work); the ties are given (YtmmgdigihgnnnaaGreatDoorTie.lean); close each card by the builder's one call (the guide's Derived/Test/ToyasCard.lean, 'card_holds'). Laid BY PROGRAM, IN A SANDBOX (cutbox-door.mjs). By AI agents, Wed Nov 11 2026. No macro, syntax, notation, axiom, sorry.
-/
import Derived.Test.YtmmgdigihgnnnaaGreatDoorRows
import GoSem.ClaimSeven
namespace Go.Proofs.YtmmgdigihgnnnaaGreatDoor
namespace Rows

/-- THE TIED CARD OF 'interleavetop.SearchWider'. -/
def searchWiderCard : Claim7 := { stood := { row := searchWiderRow, standIns := [], harness := (true, "fef80ff17602579d1eeedaa72cb04dd7ae4491669034be8bb521626bab9df71e"), looks := true }, kinds := [], alts := [], laidByText := true, laidKinds := [.data, .data, .data, .data, .sentinel, .sentinel, .data, .pinned], laidTests := true, laidLooks := .later }
def SearchWiderCardSaid : Prop := Claim7.holds Tryz.pinned (.plain (OpenSpec.ofChange searchWiderSpec)) searchWiderCard

/-- THE SECOND FORM's CARD OF 'interleavetop.SearchWider'. -/
def searchWiderUptoCard : Claim7 := { stood := { row := searchWiderUptoRow, standIns := [], harness := (true, "fef80ff17602579d1eeedaa72cb04dd7ae4491669034be8bb521626bab9df71e"), looks := true }, kinds := [], alts := [], laidByText := true, laidKinds := [.data, .data, .data, .data, .sentinel, .sentinel, .data, .pinned], laidTests := true, laidLooks := .later }
def SearchWiderUptoCardSaid : Prop := Claim7.holds Tryz.pinned (.plain (OpenSpec.upto searchWiderSpec)) searchWiderUptoCard
end Rows
end Go.Proofs.YtmmgdigihgnnnaaGreatDoor
