/-
  DERIVED. GIVEN WITH THE SEED: THE CARDS: each row of YtcmnmakaoonfgaaGreatDoorRows.lean that lists a variable, with what it lists TIED to the program's text (the seventh form; the later family's looks); each row that meets fmt, with fmt's text TOLD by the authors' own Lean function (tested against real Go, not proved from fmt's source: count such statements apart). THE CARD IS WHAT COUNTS. Prove the row's statement (the work); the ties are given (YtcmnmakaoonfgaaGreatDoorTie.lean); close each card by the builder's one call (the guide's Derived/Test/ToyasCard.lean, 'card_holds'). Laid BY PROGRAM, IN A SANDBOX (cutbox-door.mjs). By AI agents, Wed Nov 11 2026. No macro, syntax, notation, axiom, sorry.
-/
import Derived.Test.YtcmnmakaoonfgaaGreatDoorRows
import GoSem.ClaimSeven
namespace Go.Proofs.YtcmnmakaoonfgaaGreatDoor
namespace Rows

/-- THE TIED CARD OF 'interleavelaw26.WeakRaces'. -/
def weakRacesCard : Claim7 := { stood := { row := weakRacesRow, standIns := [], harness := (true, "e98f90fe87d78f06894d911fa03b8a8ffd949c70a2688c280676dbfac29755f3"), looks := false }, kinds := [], alts := [], laidByText := true, laidKinds := [.data], laidTests := true, laidLooks := .later }
def WeakRacesCardSaid : Prop := Claim7.holds Tryz.pinned (.plain (OpenSpec.ofChange weakRacesSpec)) weakRacesCard

/-- THE TIED CARD OF 'interleavelaw26.WeakClocks'. -/
def weakClocksCard : Claim7 := { stood := { row := weakClocksRow, standIns := [], harness := (true, "e98f90fe87d78f06894d911fa03b8a8ffd949c70a2688c280676dbfac29755f3"), looks := false }, kinds := [], alts := [], laidByText := true, laidKinds := [.data], laidTests := true, laidLooks := .later }
def WeakClocksCardSaid : Prop := Claim7.holds Tryz.pinned (.plain (OpenSpec.ofChange weakClocksSpec)) weakClocksCard

/-- THE TIED CARD OF 'interleavelaw26.WeakCloses'. -/
def weakClosesCard : Claim7 := { stood := { row := weakClosesRow, standIns := [], harness := (true, "e98f90fe87d78f06894d911fa03b8a8ffd949c70a2688c280676dbfac29755f3"), looks := false }, kinds := [], alts := [], laidByText := true, laidKinds := [.data], laidTests := true, laidLooks := .later }
def WeakClosesCardSaid : Prop := Claim7.holds Tryz.pinned (.plain (OpenSpec.ofChange weakClosesSpec)) weakClosesCard

/-- THE TIED CARD OF 'interleavelaw26.WeakSections'. -/
def weakSectionsCard : Claim7 := { stood := { row := weakSectionsRow, standIns := [], harness := (true, "e98f90fe87d78f06894d911fa03b8a8ffd949c70a2688c280676dbfac29755f3"), looks := false }, kinds := [], alts := [], laidByText := true, laidKinds := [.data], laidTests := true, laidLooks := .later }
def WeakSectionsCardSaid : Prop := Claim7.holds Tryz.pinned (.plain (OpenSpec.ofChange weakSectionsSpec)) weakSectionsCard

/-- THE SECOND FORM's CARD OF 'interleavelaw26.WeakRaces'. -/
def weakRacesUptoCard : Claim7 := { stood := { row := weakRacesUptoRow, standIns := [], harness := (true, "e98f90fe87d78f06894d911fa03b8a8ffd949c70a2688c280676dbfac29755f3"), looks := false }, kinds := [], alts := [], laidByText := true, laidKinds := [.data], laidTests := true, laidLooks := .later }
def WeakRacesUptoCardSaid : Prop := Claim7.holds Tryz.pinned (.plain (OpenSpec.upto weakRacesSpec)) weakRacesUptoCard

/-- THE SECOND FORM's CARD OF 'interleavelaw26.WeakClocks'. -/
def weakClocksUptoCard : Claim7 := { stood := { row := weakClocksUptoRow, standIns := [], harness := (true, "e98f90fe87d78f06894d911fa03b8a8ffd949c70a2688c280676dbfac29755f3"), looks := false }, kinds := [], alts := [], laidByText := true, laidKinds := [.data], laidTests := true, laidLooks := .later }
def WeakClocksUptoCardSaid : Prop := Claim7.holds Tryz.pinned (.plain (OpenSpec.upto weakClocksSpec)) weakClocksUptoCard

/-- THE SECOND FORM's CARD OF 'interleavelaw26.WeakCloses'. -/
def weakClosesUptoCard : Claim7 := { stood := { row := weakClosesUptoRow, standIns := [], harness := (true, "e98f90fe87d78f06894d911fa03b8a8ffd949c70a2688c280676dbfac29755f3"), looks := false }, kinds := [], alts := [], laidByText := true, laidKinds := [.data], laidTests := true, laidLooks := .later }
def WeakClosesUptoCardSaid : Prop := Claim7.holds Tryz.pinned (.plain (OpenSpec.upto weakClosesSpec)) weakClosesUptoCard

/-- THE SECOND FORM's CARD OF 'interleavelaw26.WeakSections'. -/
def weakSectionsUptoCard : Claim7 := { stood := { row := weakSectionsUptoRow, standIns := [], harness := (true, "e98f90fe87d78f06894d911fa03b8a8ffd949c70a2688c280676dbfac29755f3"), looks := false }, kinds := [], alts := [], laidByText := true, laidKinds := [.data], laidTests := true, laidLooks := .later }
def WeakSectionsUptoCardSaid : Prop := Claim7.holds Tryz.pinned (.plain (OpenSpec.upto weakSectionsSpec)) weakSectionsUptoCard
end Rows
end Go.Proofs.YtcmnmakaoonfgaaGreatDoor
