/-
  DERIVED. GIVEN WITH THE SEED: THE CARDS: each row of YtlimcnhpkfopcaaGreatDoorRows.lean that lists a variable, with what it lists TIED to the program's text (the seventh form; the later family's looks); each row that meets fmt, with fmt's text TOLD by the authors' own Lean function (tested against real Go, not proved from fmt's source: count such statements apart). THE CARD IS WHAT COUNTS. Prove the row's statement (the work); the ties are given (YtlimcnhpkfopcaaGreatDoorTie.lean); close each card by the builder's one call (the guide's Derived/Test/ToyasCard.lean, 'card_holds'). Laid BY PROGRAM, IN A SANDBOX (cutbox-door.mjs). By AI agents, Wed Nov 11 2026. No macro, syntax, notation, axiom, sorry.
-/
import Derived.Test.YtlimcnhpkfopcaaGreatDoorRows
import GoSem.ClaimSeven
namespace Go.Proofs.YtlimcnhpkfopcaaGreatDoor
namespace Rows

/-- THE TIED CARD OF 'interleavelaw26.WeakRefuses'. -/
def weakRefusesCard : Claim7 := { stood := { row := weakRefusesRow, standIns := [], harness := (true, "b39be834ad29bd15d503b0c9649d60f63e3222975275ddd76affdb942ffe7100"), looks := false }, kinds := [], alts := [], laidByText := true, laidKinds := [.data], laidTests := true, laidLooks := .later }
def WeakRefusesCardSaid : Prop := Claim7.holds Tryz.pinned (.plain (OpenSpec.ofChange weakRefusesSpec)) weakRefusesCard

/-- THE SECOND FORM's CARD OF 'interleavelaw26.WeakRefuses'. -/
def weakRefusesUptoCard : Claim7 := { stood := { row := weakRefusesUptoRow, standIns := [], harness := (true, "b39be834ad29bd15d503b0c9649d60f63e3222975275ddd76affdb942ffe7100"), looks := false }, kinds := [], alts := [], laidByText := true, laidKinds := [.data], laidTests := true, laidLooks := .later }
def WeakRefusesUptoCardSaid : Prop := Claim7.holds Tryz.pinned (.plain (OpenSpec.upto weakRefusesSpec)) weakRefusesUptoCard
end Rows
end Go.Proofs.YtlimcnhpkfopcaaGreatDoor
