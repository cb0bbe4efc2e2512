/-
  DERIVED. GIVEN WITH THE SEED: THE CARDS: each row of YtkagidinekdnoaaGreatDoorRows.lean that lists a variable, with what it lists TIED to the program's text (the seventh form; the later family's looks); each row that meets fmt, with fmt's text TOLD by the authors' own Lean function (tested against real Go, not proved from fmt's source: count such statements apart). THE CARD IS WHAT COUNTS. Prove the row's statement (the work); the ties are given (YtkagidinekdnoaaGreatDoorTie.lean); close each card by the builder's one call (the guide's Derived/Test/ToyasCard.lean, 'card_holds'). Laid BY PROGRAM, IN A SANDBOX (cutbox-door.mjs). By AI agents, Wed Nov 11 2026. No macro, syntax, notation, axiom, sorry.
-/
import Derived.Test.YtkagidinekdnoaaGreatDoorRows
import GoSem.ClaimSeven
namespace Go.Proofs.YtkagidinekdnoaaGreatDoor
namespace Rows

/-- THE TIED CARD OF 'interleavelaw23.HBClocks'. -/
def hBClocksCard : Claim7 := { stood := { row := hBClocksRow, standIns := [], harness := (true, "0cc8402d4383c178db46e594c0e674b2a6892032ca20edd40ececba53617e81e"), looks := false }, kinds := [], alts := [], laidByText := true, laidKinds := [.data], laidTests := true, laidLooks := .later }
def HBClocksCardSaid : Prop := Claim7.holds Tryz.pinned (.plain (OpenSpec.ofChange hBClocksSpec)) hBClocksCard

/-- THE TIED CARD OF 'interleavelaw23.HBRaces'. -/
def hBRacesCard : Claim7 := { stood := { row := hBRacesRow, standIns := [], harness := (true, "0cc8402d4383c178db46e594c0e674b2a6892032ca20edd40ececba53617e81e"), looks := false }, kinds := [], alts := [], laidByText := true, laidKinds := [.data], laidTests := true, laidLooks := .later }
def HBRacesCardSaid : Prop := Claim7.holds Tryz.pinned (.plain (OpenSpec.ofChange hBRacesSpec)) hBRacesCard

/-- THE TIED CARD OF 'interleavelaw23.HBAgrees'. -/
def hBAgreesCard : Claim7 := { stood := { row := hBAgreesRow, standIns := [], harness := (true, "0cc8402d4383c178db46e594c0e674b2a6892032ca20edd40ececba53617e81e"), looks := false }, kinds := [], alts := [], laidByText := true, laidKinds := [.data], laidTests := true, laidLooks := .later }
def HBAgreesCardSaid : Prop := Claim7.holds Tryz.pinned (.plain (OpenSpec.ofChange hBAgreesSpec)) hBAgreesCard

/-- THE TIED CARD OF 'interleavelaw23.HBSync'. -/
def hBSyncCard : Claim7 := { stood := { row := hBSyncRow, standIns := [], harness := (true, "0cc8402d4383c178db46e594c0e674b2a6892032ca20edd40ececba53617e81e"), looks := false }, kinds := [], alts := [], laidByText := true, laidKinds := [.data], laidTests := true, laidLooks := .later }
def HBSyncCardSaid : Prop := Claim7.holds Tryz.pinned (.plain (OpenSpec.ofChange hBSyncSpec)) hBSyncCard

/-- THE TIED CARD OF 'interleavelaw23.HBOrders'. -/
def hBOrdersCard : Claim7 := { stood := { row := hBOrdersRow, standIns := [], harness := (true, "0cc8402d4383c178db46e594c0e674b2a6892032ca20edd40ececba53617e81e"), looks := false }, kinds := [], alts := [], laidByText := true, laidKinds := [.data], laidTests := true, laidLooks := .later }
def HBOrdersCardSaid : Prop := Claim7.holds Tryz.pinned (.plain (OpenSpec.ofChange hBOrdersSpec)) hBOrdersCard

/-- THE TIED CARD OF 'interleavelaw23.HBRefuses'. -/
def hBRefusesCard : Claim7 := { stood := { row := hBRefusesRow, standIns := [], harness := (true, "0cc8402d4383c178db46e594c0e674b2a6892032ca20edd40ececba53617e81e"), looks := false }, kinds := [], alts := [], laidByText := true, laidKinds := [.data], laidTests := true, laidLooks := .later }
def HBRefusesCardSaid : Prop := Claim7.holds Tryz.pinned (.plain (OpenSpec.ofChange hBRefusesSpec)) hBRefusesCard

/-- THE TIED CARD OF 'interleavelaw23.HBPartial'. -/
def hBPartialCard : Claim7 := { stood := { row := hBPartialRow, standIns := [], harness := (true, "0cc8402d4383c178db46e594c0e674b2a6892032ca20edd40ececba53617e81e"), looks := false }, kinds := [], alts := [], laidByText := true, laidKinds := [.data], laidTests := true, laidLooks := .later }
def HBPartialCardSaid : Prop := Claim7.holds Tryz.pinned (.plain (OpenSpec.ofChange hBPartialSpec)) hBPartialCard

/-- THE TIED CARD OF 'interleavelaw23.HBCounts'. -/
def hBCountsCard : Claim7 := { stood := { row := hBCountsRow, standIns := [], harness := (true, "0cc8402d4383c178db46e594c0e674b2a6892032ca20edd40ececba53617e81e"), looks := false }, kinds := [], alts := [], laidByText := true, laidKinds := [.data], laidTests := true, laidLooks := .later }
def HBCountsCardSaid : Prop := Claim7.holds Tryz.pinned (.plain (OpenSpec.ofChange hBCountsSpec)) hBCountsCard

/-- THE SECOND FORM's CARD OF 'interleavelaw23.HBClocks'. -/
def hBClocksUptoCard : Claim7 := { stood := { row := hBClocksUptoRow, standIns := [], harness := (true, "0cc8402d4383c178db46e594c0e674b2a6892032ca20edd40ececba53617e81e"), looks := false }, kinds := [], alts := [], laidByText := true, laidKinds := [.data], laidTests := true, laidLooks := .later }
def HBClocksUptoCardSaid : Prop := Claim7.holds Tryz.pinned (.plain (OpenSpec.upto hBClocksSpec)) hBClocksUptoCard

/-- THE SECOND FORM's CARD OF 'interleavelaw23.HBRaces'. -/
def hBRacesUptoCard : Claim7 := { stood := { row := hBRacesUptoRow, standIns := [], harness := (true, "0cc8402d4383c178db46e594c0e674b2a6892032ca20edd40ececba53617e81e"), looks := false }, kinds := [], alts := [], laidByText := true, laidKinds := [.data], laidTests := true, laidLooks := .later }
def HBRacesUptoCardSaid : Prop := Claim7.holds Tryz.pinned (.plain (OpenSpec.upto hBRacesSpec)) hBRacesUptoCard

/-- THE SECOND FORM's CARD OF 'interleavelaw23.HBAgrees'. -/
def hBAgreesUptoCard : Claim7 := { stood := { row := hBAgreesUptoRow, standIns := [], harness := (true, "0cc8402d4383c178db46e594c0e674b2a6892032ca20edd40ececba53617e81e"), looks := false }, kinds := [], alts := [], laidByText := true, laidKinds := [.data], laidTests := true, laidLooks := .later }
def HBAgreesUptoCardSaid : Prop := Claim7.holds Tryz.pinned (.plain (OpenSpec.upto hBAgreesSpec)) hBAgreesUptoCard

/-- THE SECOND FORM's CARD OF 'interleavelaw23.HBSync'. -/
def hBSyncUptoCard : Claim7 := { stood := { row := hBSyncUptoRow, standIns := [], harness := (true, "0cc8402d4383c178db46e594c0e674b2a6892032ca20edd40ececba53617e81e"), looks := false }, kinds := [], alts := [], laidByText := true, laidKinds := [.data], laidTests := true, laidLooks := .later }
def HBSyncUptoCardSaid : Prop := Claim7.holds Tryz.pinned (.plain (OpenSpec.upto hBSyncSpec)) hBSyncUptoCard

/-- THE SECOND FORM's CARD OF 'interleavelaw23.HBOrders'. -/
def hBOrdersUptoCard : Claim7 := { stood := { row := hBOrdersUptoRow, standIns := [], harness := (true, "0cc8402d4383c178db46e594c0e674b2a6892032ca20edd40ececba53617e81e"), looks := false }, kinds := [], alts := [], laidByText := true, laidKinds := [.data], laidTests := true, laidLooks := .later }
def HBOrdersUptoCardSaid : Prop := Claim7.holds Tryz.pinned (.plain (OpenSpec.upto hBOrdersSpec)) hBOrdersUptoCard

/-- THE SECOND FORM's CARD OF 'interleavelaw23.HBRefuses'. -/
def hBRefusesUptoCard : Claim7 := { stood := { row := hBRefusesUptoRow, standIns := [], harness := (true, "0cc8402d4383c178db46e594c0e674b2a6892032ca20edd40ececba53617e81e"), looks := false }, kinds := [], alts := [], laidByText := true, laidKinds := [.data], laidTests := true, laidLooks := .later }
def HBRefusesUptoCardSaid : Prop := Claim7.holds Tryz.pinned (.plain (OpenSpec.upto hBRefusesSpec)) hBRefusesUptoCard

/-- THE SECOND FORM's CARD OF 'interleavelaw23.HBPartial'. -/
def hBPartialUptoCard : Claim7 := { stood := { row := hBPartialUptoRow, standIns := [], harness := (true, "0cc8402d4383c178db46e594c0e674b2a6892032ca20edd40ececba53617e81e"), looks := false }, kinds := [], alts := [], laidByText := true, laidKinds := [.data], laidTests := true, laidLooks := .later }
def HBPartialUptoCardSaid : Prop := Claim7.holds Tryz.pinned (.plain (OpenSpec.upto hBPartialSpec)) hBPartialUptoCard

/-- THE SECOND FORM's CARD OF 'interleavelaw23.HBCounts'. -/
def hBCountsUptoCard : Claim7 := { stood := { row := hBCountsUptoRow, standIns := [], harness := (true, "0cc8402d4383c178db46e594c0e674b2a6892032ca20edd40ececba53617e81e"), looks := false }, kinds := [], alts := [], laidByText := true, laidKinds := [.data], laidTests := true, laidLooks := .later }
def HBCountsUptoCardSaid : Prop := Claim7.holds Tryz.pinned (.plain (OpenSpec.upto hBCountsSpec)) hBCountsUptoCard
end Rows
end Go.Proofs.YtkagidinekdnoaaGreatDoor
