/-
  DERIVED. GIVEN WITH THE SEED: THE CARDS: each row of YtjjplipoacljoaaDoorRows.lean that lists a variable, with what it lists TIED to the program's text (the seventh form; the later family's looks); each row that meets fmt, with fmt's text TOLD by the authors' own Lean function (tested against real Go, not proved from fmt's source: count such statements apart). THE CARD IS WHAT COUNTS. Prove the row's statement (the work); the ties are given (YtjjplipoacljoaaDoorTie.lean); close each card by the builder's one call (the guide's Derived/Test/ToyasCard.lean, 'card_holds'). Laid BY PROGRAM, IN A SANDBOX (cutbox-door.mjs). By AI agents, Wed Nov 11 2026. No macro, syntax, notation, axiom, sorry.
-/
import Derived.Test.YtjjplipoacljoaaDoorRows
import GoSem.ClaimSeven
namespace Go.Proofs.YtjjplipoacljoaaDoor
namespace Rows

/-- THE TIED CARD OF 'interleavelaw23.HBStarts'. -/
def hBStartsCard : Claim7 := { stood := { row := hBStartsRow, standIns := [], harness := (true, "5f8ff911b30b5970116e904ffa41c51572534843c8b7200f1f6725916b236f65"), looks := false }, kinds := [], alts := [], laidByText := true, laidKinds := [.data], laidTests := true, laidLooks := .later }
def HBStartsCardSaid : Prop := Claim7.holds Tryd.pinned (.plain (OpenSpec.ofChange hBStartsSpec)) hBStartsCard

/-- THE TIED CARD OF 'interleavelaw23.HBAny'. -/
def hBAnyCard : Claim7 := { stood := { row := hBAnyRow, standIns := [], harness := (true, "5f8ff911b30b5970116e904ffa41c51572534843c8b7200f1f6725916b236f65"), looks := false }, kinds := [], alts := [], laidByText := true, laidKinds := [.data], laidTests := true, laidLooks := .later }
def HBAnyCardSaid : Prop := Claim7.holds Tryd.pinned (.plain (OpenSpec.ofChange hBAnySpec)) hBAnyCard

/-- THE SECOND FORM's CARD OF 'interleavelaw23.HBStarts'. -/
def hBStartsUptoCard : Claim7 := { stood := { row := hBStartsUptoRow, standIns := [], harness := (true, "5f8ff911b30b5970116e904ffa41c51572534843c8b7200f1f6725916b236f65"), looks := false }, kinds := [], alts := [], laidByText := true, laidKinds := [.data], laidTests := true, laidLooks := .later }
def HBStartsUptoCardSaid : Prop := Claim7.holds Tryd.pinned (.plain (OpenSpec.upto hBStartsSpec)) hBStartsUptoCard

/-- THE SECOND FORM's CARD OF 'interleavelaw23.HBAny'. -/
def hBAnyUptoCard : Claim7 := { stood := { row := hBAnyUptoRow, standIns := [], harness := (true, "5f8ff911b30b5970116e904ffa41c51572534843c8b7200f1f6725916b236f65"), looks := false }, kinds := [], alts := [], laidByText := true, laidKinds := [.data], laidTests := true, laidLooks := .later }
def HBAnyUptoCardSaid : Prop := Claim7.holds Tryd.pinned (.plain (OpenSpec.upto hBAnySpec)) hBAnyUptoCard
end Rows
end Go.Proofs.YtjjplipoacljoaaDoor
