/-
  DERIVED. GIVEN WITH THE SEED: THE CARDS: each row of YtloaobgmjdjhhaaGreatDoorRows.lean that lists a variable, with what it lists TIED to the program's text (the seventh form; the later family's looks); each row that meets fmt, with fmt's text TOLD by the authors' own Lean function (tested against real Go, not proved from fmt's source: count such statements apart). THE CARD IS WHAT COUNTS. Prove the row's statement (the work); the ties are given (YtloaobgmjdjhhaaGreatDoorTie.lean); close each card by the builder's one call (the guide's Derived/Test/ToyasCard.lean, 'card_holds'). Laid BY PROGRAM, IN A SANDBOX (cutbox-door.mjs). By AI agents, Wed Nov 11 2026. No macro, syntax, notation, axiom, sorry.
-/
import Derived.Test.YtloaobgmjdjhhaaGreatDoorRows
import GoSem.ClaimSeven
namespace Go.Proofs.YtloaobgmjdjhhaaGreatDoor
namespace Rows

/-- THE TIED CARD OF 'interleavelaw24.EpochFirst'. -/
def epochFirstCard : Claim7 := { stood := { row := epochFirstRow, standIns := [], harness := (true, "a580c0111023db0d144739ad7906528384d4151552b1b621b8a392bbc465d3d5"), looks := false }, kinds := [], alts := [], laidByText := true, laidKinds := [.data], laidTests := true, laidLooks := .later }
def EpochFirstCardSaid : Prop := Claim7.holds Tryz.pinned (.plain (OpenSpec.ofChange epochFirstSpec)) epochFirstCard

/-- THE TIED CARD OF 'interleavelaw24.EpochShadows'. -/
def epochShadowsCard : Claim7 := { stood := { row := epochShadowsRow, standIns := [], harness := (true, "a580c0111023db0d144739ad7906528384d4151552b1b621b8a392bbc465d3d5"), looks := false }, kinds := [], alts := [], laidByText := true, laidKinds := [.data], laidTests := true, laidLooks := .later }
def EpochShadowsCardSaid : Prop := Claim7.holds Tryz.pinned (.plain (OpenSpec.ofChange epochShadowsSpec)) epochShadowsCard

/-- THE TIED CARD OF 'interleavelaw24.EpochQuiet'. -/
def epochQuietCard : Claim7 := { stood := { row := epochQuietRow, standIns := [], harness := (true, "a580c0111023db0d144739ad7906528384d4151552b1b621b8a392bbc465d3d5"), looks := false }, kinds := [], alts := [], laidByText := true, laidKinds := [.data], laidTests := true, laidLooks := .later }
def EpochQuietCardSaid : Prop := Claim7.holds Tryz.pinned (.plain (OpenSpec.ofChange epochQuietSpec)) epochQuietCard

/-- THE TIED CARD OF 'interleavelaw24.EpochAgrees'. -/
def epochAgreesCard : Claim7 := { stood := { row := epochAgreesRow, standIns := [], harness := (true, "a580c0111023db0d144739ad7906528384d4151552b1b621b8a392bbc465d3d5"), looks := false }, kinds := [], alts := [], laidByText := true, laidKinds := [.data], laidTests := true, laidLooks := .later }
def EpochAgreesCardSaid : Prop := Claim7.holds Tryz.pinned (.plain (OpenSpec.ofChange epochAgreesSpec)) epochAgreesCard

/-- THE SECOND FORM's CARD OF 'interleavelaw24.EpochFirst'. -/
def epochFirstUptoCard : Claim7 := { stood := { row := epochFirstUptoRow, standIns := [], harness := (true, "a580c0111023db0d144739ad7906528384d4151552b1b621b8a392bbc465d3d5"), looks := false }, kinds := [], alts := [], laidByText := true, laidKinds := [.data], laidTests := true, laidLooks := .later }
def EpochFirstUptoCardSaid : Prop := Claim7.holds Tryz.pinned (.plain (OpenSpec.upto epochFirstSpec)) epochFirstUptoCard

/-- THE SECOND FORM's CARD OF 'interleavelaw24.EpochShadows'. -/
def epochShadowsUptoCard : Claim7 := { stood := { row := epochShadowsUptoRow, standIns := [], harness := (true, "a580c0111023db0d144739ad7906528384d4151552b1b621b8a392bbc465d3d5"), looks := false }, kinds := [], alts := [], laidByText := true, laidKinds := [.data], laidTests := true, laidLooks := .later }
def EpochShadowsUptoCardSaid : Prop := Claim7.holds Tryz.pinned (.plain (OpenSpec.upto epochShadowsSpec)) epochShadowsUptoCard

/-- THE SECOND FORM's CARD OF 'interleavelaw24.EpochQuiet'. -/
def epochQuietUptoCard : Claim7 := { stood := { row := epochQuietUptoRow, standIns := [], harness := (true, "a580c0111023db0d144739ad7906528384d4151552b1b621b8a392bbc465d3d5"), looks := false }, kinds := [], alts := [], laidByText := true, laidKinds := [.data], laidTests := true, laidLooks := .later }
def EpochQuietUptoCardSaid : Prop := Claim7.holds Tryz.pinned (.plain (OpenSpec.upto epochQuietSpec)) epochQuietUptoCard

/-- THE SECOND FORM's CARD OF 'interleavelaw24.EpochAgrees'. -/
def epochAgreesUptoCard : Claim7 := { stood := { row := epochAgreesUptoRow, standIns := [], harness := (true, "a580c0111023db0d144739ad7906528384d4151552b1b621b8a392bbc465d3d5"), looks := false }, kinds := [], alts := [], laidByText := true, laidKinds := [.data], laidTests := true, laidLooks := .later }
def EpochAgreesUptoCardSaid : Prop := Claim7.holds Tryz.pinned (.plain (OpenSpec.upto epochAgreesSpec)) epochAgreesUptoCard
end Rows
end Go.Proofs.YtloaobgmjdjhhaaGreatDoor
