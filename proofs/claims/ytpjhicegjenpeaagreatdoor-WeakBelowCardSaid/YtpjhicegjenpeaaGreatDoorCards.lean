/-
  DERIVED. GIVEN WITH THE SEED: THE CARDS: each row of YtpjhicegjenpeaaGreatDoorRows.lean that lists a variable, with what it lists TIED to the program's text (the seventh form; the later family's looks); each row that meets fmt, with fmt's text TOLD by the authors' own Lean function (tested against real Go, not proved from fmt's source: count such statements apart). THE CARD IS WHAT COUNTS. Prove the row's statement (the work); the ties are given (YtpjhicegjenpeaaGreatDoorTie.lean); close each card by the builder's one call (the guide's Derived/Test/ToyasCard.lean, 'card_holds'). Laid BY PROGRAM, IN A SANDBOX (cutbox-door.mjs). By AI agents, Wed Nov 11 2026. No macro, syntax, notation, axiom, sorry.
-/
import Derived.Test.YtpjhicegjenpeaaGreatDoorRows
import GoSem.ClaimSeven
namespace Go.Proofs.YtpjhicegjenpeaaGreatDoor
namespace Rows

/-- THE TIED CARD OF 'interleavelaw26.WeakBelow'. -/
def weakBelowCard : Claim7 := { stood := { row := weakBelowRow, standIns := [], harness := (true, "55c0617268ec408a7b4182ef3c33eb8c5e5b66fdef50a683a584bcf2994344ef"), looks := false }, kinds := [], alts := [], laidByText := true, laidKinds := [.data], laidTests := true, laidLooks := .later }
def WeakBelowCardSaid : Prop := Claim7.holds Tryz.pinned (.plain (OpenSpec.ofChange weakBelowSpec)) weakBelowCard

/-- THE TIED CARD OF 'interleavelaw26.WeakMore'. -/
def weakMoreCard : Claim7 := { stood := { row := weakMoreRow, standIns := [], harness := (true, "55c0617268ec408a7b4182ef3c33eb8c5e5b66fdef50a683a584bcf2994344ef"), looks := false }, kinds := [], alts := [], laidByText := true, laidKinds := [.data], laidTests := true, laidLooks := .later }
def WeakMoreCardSaid : Prop := Claim7.holds Tryz.pinned (.plain (OpenSpec.ofChange weakMoreSpec)) weakMoreCard

/-- THE SECOND FORM's CARD OF 'interleavelaw26.WeakBelow'. -/
def weakBelowUptoCard : Claim7 := { stood := { row := weakBelowUptoRow, standIns := [], harness := (true, "55c0617268ec408a7b4182ef3c33eb8c5e5b66fdef50a683a584bcf2994344ef"), looks := false }, kinds := [], alts := [], laidByText := true, laidKinds := [.data], laidTests := true, laidLooks := .later }
def WeakBelowUptoCardSaid : Prop := Claim7.holds Tryz.pinned (.plain (OpenSpec.upto weakBelowSpec)) weakBelowUptoCard

/-- THE SECOND FORM's CARD OF 'interleavelaw26.WeakMore'. -/
def weakMoreUptoCard : Claim7 := { stood := { row := weakMoreUptoRow, standIns := [], harness := (true, "55c0617268ec408a7b4182ef3c33eb8c5e5b66fdef50a683a584bcf2994344ef"), looks := false }, kinds := [], alts := [], laidByText := true, laidKinds := [.data], laidTests := true, laidLooks := .later }
def WeakMoreUptoCardSaid : Prop := Claim7.holds Tryz.pinned (.plain (OpenSpec.upto weakMoreSpec)) weakMoreUptoCard
end Rows
end Go.Proofs.YtpjhicegjenpeaaGreatDoor
