/-
  DERIVED. GIVEN WITH THE SEED: THE CARDS: each row of YtiaemgcbndhkfaaGreatDoorRows.lean that lists a variable, with what it lists TIED to the program's text (the seventh form; the later family's looks); each row that meets fmt, with fmt's text TOLD by the authors' own Lean function (tested against real Go, not proved from fmt's source: count such statements apart). THE CARD IS WHAT COUNTS. Prove the row's statement (the work); the ties are given (YtiaemgcbndhkfaaGreatDoorTie.lean); close each card by the builder's one call (the guide's Derived/Test/ToyasCard.lean, 'card_holds'). Laid BY PROGRAM, IN A SANDBOX (cutbox-door.mjs). By AI agents, Wed Nov 11 2026. No macro, syntax, notation, axiom, sorry.
-/
import Derived.Test.YtiaemgcbndhkfaaGreatDoorRows
import GoSem.ClaimSeven
namespace Go.Proofs.YtiaemgcbndhkfaaGreatDoor
namespace Rows

/-- THE TIED CARD OF 'interleavelaw23.HBRefuses'. -/
def hBRefusesCard : Claim7 := { stood := { row := hBRefusesRow, standIns := [], harness := (true, "59be7c7b2eb7ed34fc606af031c800b2f4eab4ec858680f34052490516d6b485"), looks := false }, kinds := [], alts := [], laidByText := true, laidKinds := [.data], laidTests := true, laidLooks := .later }
def HBRefusesCardSaid : Prop := Claim7.holds Tryz.pinned (.plain (OpenSpec.ofChange hBRefusesSpec)) hBRefusesCard

/-- THE TIED CARD OF 'interleavelaw25.ShbRefuses'. -/
def shbRefusesCard : Claim7 := { stood := { row := shbRefusesRow, standIns := [], harness := (true, "59be7c7b2eb7ed34fc606af031c800b2f4eab4ec858680f34052490516d6b485"), looks := false }, kinds := [], alts := [], laidByText := true, laidKinds := [.data], laidTests := true, laidLooks := .later }
def ShbRefusesCardSaid : Prop := Claim7.holds Tryz.pinned (.plain (OpenSpec.ofChange shbRefusesSpec)) shbRefusesCard

/-- THE TIED CARD OF 'interleavelaw24.EpochRefuses'. -/
def epochRefusesCard : Claim7 := { stood := { row := epochRefusesRow, standIns := [], harness := (true, "59be7c7b2eb7ed34fc606af031c800b2f4eab4ec858680f34052490516d6b485"), looks := false }, kinds := [], alts := [], laidByText := true, laidKinds := [.data], laidTests := true, laidLooks := .later }
def EpochRefusesCardSaid : Prop := Claim7.holds Tryz.pinned (.plain (OpenSpec.ofChange epochRefusesSpec)) epochRefusesCard

/-- THE SECOND FORM's CARD OF 'interleavelaw23.HBRefuses'. -/
def hBRefusesUptoCard : Claim7 := { stood := { row := hBRefusesUptoRow, standIns := [], harness := (true, "59be7c7b2eb7ed34fc606af031c800b2f4eab4ec858680f34052490516d6b485"), looks := false }, kinds := [], alts := [], laidByText := true, laidKinds := [.data], laidTests := true, laidLooks := .later }
def HBRefusesUptoCardSaid : Prop := Claim7.holds Tryz.pinned (.plain (OpenSpec.upto hBRefusesSpec)) hBRefusesUptoCard

/-- THE SECOND FORM's CARD OF 'interleavelaw25.ShbRefuses'. -/
def shbRefusesUptoCard : Claim7 := { stood := { row := shbRefusesUptoRow, standIns := [], harness := (true, "59be7c7b2eb7ed34fc606af031c800b2f4eab4ec858680f34052490516d6b485"), looks := false }, kinds := [], alts := [], laidByText := true, laidKinds := [.data], laidTests := true, laidLooks := .later }
def ShbRefusesUptoCardSaid : Prop := Claim7.holds Tryz.pinned (.plain (OpenSpec.upto shbRefusesSpec)) shbRefusesUptoCard

/-- THE SECOND FORM's CARD OF 'interleavelaw24.EpochRefuses'. -/
def epochRefusesUptoCard : Claim7 := { stood := { row := epochRefusesUptoRow, standIns := [], harness := (true, "59be7c7b2eb7ed34fc606af031c800b2f4eab4ec858680f34052490516d6b485"), looks := false }, kinds := [], alts := [], laidByText := true, laidKinds := [.data], laidTests := true, laidLooks := .later }
def EpochRefusesUptoCardSaid : Prop := Claim7.holds Tryz.pinned (.plain (OpenSpec.upto epochRefusesSpec)) epochRefusesUptoCard
end Rows
end Go.Proofs.YtiaemgcbndhkfaaGreatDoor
