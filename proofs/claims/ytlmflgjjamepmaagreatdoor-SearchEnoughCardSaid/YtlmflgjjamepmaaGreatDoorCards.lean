/-
  DERIVED. GIVEN WITH THE SEED: THE CARDS: each row of YtlmflgjjamepmaaGreatDoorRows.lean that lists a variable, with what it lists TIED to the program's text (the seventh form; the later family's looks); each row that meets fmt, with fmt's text TOLD by the authors' own Lean function (tested against real Go, not proved from fmt's source: count such statements apart). THE CARD IS WHAT COUNTS. Prove the row's statement (the work); the ties are given (YtlmflgjjamepmaaGreatDoorTie.lean); close each card by the builder's one call (the guide's Derived/Test/ToyasCard.lean, 'card_holds'). Laid BY PROGRAM, IN A SANDBOX (cutbox-door.mjs). By AI agents, Wed Nov 11 2026. No macro, syntax, notation, axiom, sorry.
-/
import Derived.Test.YtlmflgjjamepmaaGreatDoorRows
import GoSem.ClaimSeven
namespace Go.Proofs.YtlmflgjjamepmaaGreatDoor
namespace Rows

/-- THE TIED CARD OF 'interleavetop.SearchEnough'. -/
def searchEnoughCard : Claim7 := { stood := { row := searchEnoughRow, standIns := [], harness := (true, "3be76aefaf39f6bef3ed3ad44348fe463da16a4478290b98dfa06b7fde773325"), looks := true }, kinds := [], alts := [], laidByText := true, laidKinds := [.data, .data, .data, .data, .sentinel, .sentinel, .data, .pinned], laidTests := true, laidLooks := .later }
def SearchEnoughCardSaid : Prop := Claim7.holds Tryz.pinned (.plain (OpenSpec.ofChange searchEnoughSpec)) searchEnoughCard

/-- THE SECOND FORM's CARD OF 'interleavetop.SearchEnough'. -/
def searchEnoughUptoCard : Claim7 := { stood := { row := searchEnoughUptoRow, standIns := [], harness := (true, "3be76aefaf39f6bef3ed3ad44348fe463da16a4478290b98dfa06b7fde773325"), looks := true }, kinds := [], alts := [], laidByText := true, laidKinds := [.data, .data, .data, .data, .sentinel, .sentinel, .data, .pinned], laidTests := true, laidLooks := .later }
def SearchEnoughUptoCardSaid : Prop := Claim7.holds Tryz.pinned (.plain (OpenSpec.upto searchEnoughSpec)) searchEnoughUptoCard
end Rows
end Go.Proofs.YtlmflgjjamepmaaGreatDoor
