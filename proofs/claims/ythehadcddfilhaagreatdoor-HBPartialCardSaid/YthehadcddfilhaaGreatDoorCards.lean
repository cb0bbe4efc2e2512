/-
  DERIVED. GIVEN WITH THE SEED: THE CARDS: each row of YthehadcddfilhaaGreatDoorRows.lean that lists a variable, with what it lists TIED to the program's text (the seventh form; the later family's looks); each row that meets fmt, with fmt's text TOLD by the authors' own Lean function (tested against real Go, not proved from fmt's source: count such statements apart). THE CARD IS WHAT COUNTS. Prove the row's statement (the work); the ties are given (YthehadcddfilhaaGreatDoorTie.lean); close each card by the builder's one call (the guide's Derived/Test/ToyasCard.lean, 'card_holds'). Laid BY PROGRAM, IN A SANDBOX (cutbox-door.mjs). By AI agents, Wed Nov 11 2026. No macro, syntax, notation, axiom, sorry.
-/
import Derived.Test.YthehadcddfilhaaGreatDoorRows
import GoSem.ClaimSeven
namespace Go.Proofs.YthehadcddfilhaaGreatDoor
namespace Rows

/-- THE TIED CARD OF 'interleavelaw23.HBRaces'. -/
def hBRacesCard : Claim7 := { stood := { row := hBRacesRow, standIns := [], harness := (true, "b8369a6493e63b70429c9a11f5dce195ef710f1518dbd6e738b84d726f4456b2"), looks := false }, kinds := [], alts := [], laidByText := true, laidKinds := [.data], laidTests := true, laidLooks := .later }
def HBRacesCardSaid : Prop := Claim7.holds Tryz.pinned (.plain (OpenSpec.ofChange hBRacesSpec)) hBRacesCard

/-- THE TIED CARD OF 'interleavelaw23.HBSync'. -/
def hBSyncCard : Claim7 := { stood := { row := hBSyncRow, standIns := [], harness := (true, "b8369a6493e63b70429c9a11f5dce195ef710f1518dbd6e738b84d726f4456b2"), looks := false }, kinds := [], alts := [], laidByText := true, laidKinds := [.data], laidTests := true, laidLooks := .later }
def HBSyncCardSaid : Prop := Claim7.holds Tryz.pinned (.plain (OpenSpec.ofChange hBSyncSpec)) hBSyncCard

/-- THE TIED CARD OF 'interleavelaw23.HBOrders'. -/
def hBOrdersCard : Claim7 := { stood := { row := hBOrdersRow, standIns := [], harness := (true, "b8369a6493e63b70429c9a11f5dce195ef710f1518dbd6e738b84d726f4456b2"), looks := false }, kinds := [], alts := [], laidByText := true, laidKinds := [.data], laidTests := true, laidLooks := .later }
def HBOrdersCardSaid : Prop := Claim7.holds Tryz.pinned (.plain (OpenSpec.ofChange hBOrdersSpec)) hBOrdersCard

/-- THE TIED CARD OF 'interleavelaw23.HBPartial'. -/
def hBPartialCard : Claim7 := { stood := { row := hBPartialRow, standIns := [], harness := (true, "b8369a6493e63b70429c9a11f5dce195ef710f1518dbd6e738b84d726f4456b2"), looks := false }, kinds := [], alts := [], laidByText := true, laidKinds := [.data], laidTests := true, laidLooks := .later }
def HBPartialCardSaid : Prop := Claim7.holds Tryz.pinned (.plain (OpenSpec.ofChange hBPartialSpec)) hBPartialCard

/-- THE SECOND FORM's CARD OF 'interleavelaw23.HBRaces'. -/
def hBRacesUptoCard : Claim7 := { stood := { row := hBRacesUptoRow, standIns := [], harness := (true, "b8369a6493e63b70429c9a11f5dce195ef710f1518dbd6e738b84d726f4456b2"), looks := false }, kinds := [], alts := [], laidByText := true, laidKinds := [.data], laidTests := true, laidLooks := .later }
def HBRacesUptoCardSaid : Prop := Claim7.holds Tryz.pinned (.plain (OpenSpec.upto hBRacesSpec)) hBRacesUptoCard

/-- THE SECOND FORM's CARD OF 'interleavelaw23.HBSync'. -/
def hBSyncUptoCard : Claim7 := { stood := { row := hBSyncUptoRow, standIns := [], harness := (true, "b8369a6493e63b70429c9a11f5dce195ef710f1518dbd6e738b84d726f4456b2"), looks := false }, kinds := [], alts := [], laidByText := true, laidKinds := [.data], laidTests := true, laidLooks := .later }
def HBSyncUptoCardSaid : Prop := Claim7.holds Tryz.pinned (.plain (OpenSpec.upto hBSyncSpec)) hBSyncUptoCard

/-- THE SECOND FORM's CARD OF 'interleavelaw23.HBOrders'. -/
def hBOrdersUptoCard : Claim7 := { stood := { row := hBOrdersUptoRow, standIns := [], harness := (true, "b8369a6493e63b70429c9a11f5dce195ef710f1518dbd6e738b84d726f4456b2"), looks := false }, kinds := [], alts := [], laidByText := true, laidKinds := [.data], laidTests := true, laidLooks := .later }
def HBOrdersUptoCardSaid : Prop := Claim7.holds Tryz.pinned (.plain (OpenSpec.upto hBOrdersSpec)) hBOrdersUptoCard

/-- THE SECOND FORM's CARD OF 'interleavelaw23.HBPartial'. -/
def hBPartialUptoCard : Claim7 := { stood := { row := hBPartialUptoRow, standIns := [], harness := (true, "b8369a6493e63b70429c9a11f5dce195ef710f1518dbd6e738b84d726f4456b2"), looks := false }, kinds := [], alts := [], laidByText := true, laidKinds := [.data], laidTests := true, laidLooks := .later }
def HBPartialUptoCardSaid : Prop := Claim7.holds Tryz.pinned (.plain (OpenSpec.upto hBPartialSpec)) hBPartialUptoCard
end Rows
end Go.Proofs.YthehadcddfilhaaGreatDoor
