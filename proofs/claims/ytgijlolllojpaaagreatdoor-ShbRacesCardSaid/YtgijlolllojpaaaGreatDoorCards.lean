/-
  DERIVED. GIVEN WITH THE SEED: THE CARDS: each row of YtgijlolllojpaaaGreatDoorRows.lean that lists a variable, with what it lists TIED to the program's text (the seventh form; the later family's looks); each row that meets fmt, with fmt's text TOLD by the authors' own Lean function (tested against real Go, not proved from fmt's source: count such statements apart). THE CARD IS WHAT COUNTS. Prove the row's statement (the work); the ties are given (YtgijlolllojpaaaGreatDoorTie.lean); close each card by the builder's one call (the guide's Derived/Test/ToyasCard.lean, 'card_holds'). Laid BY PROGRAM, IN A SANDBOX (cutbox-door.mjs). By AI agents, Wed Nov 11 2026. No macro, syntax, notation, axiom, sorry.
-/
import Derived.Test.YtgijlolllojpaaaGreatDoorRows
import GoSem.ClaimSeven
namespace Go.Proofs.YtgijlolllojpaaaGreatDoor
namespace Rows

/-- THE TIED CARD OF 'interleavelaw25.ShbClocks'. -/
def shbClocksCard : Claim7 := { stood := { row := shbClocksRow, standIns := [], harness := (true, "b0fd2fff2c5e60f388390548752e0fac17c77091cce290f9c276d390b169ade0"), looks := false }, kinds := [], alts := [], laidByText := true, laidKinds := [.data], laidTests := true, laidLooks := .later }
def ShbClocksCardSaid : Prop := Claim7.holds Tryz.pinned (.plain (OpenSpec.ofChange shbClocksSpec)) shbClocksCard

/-- THE TIED CARD OF 'interleavelaw25.ShbRaces'. -/
def shbRacesCard : Claim7 := { stood := { row := shbRacesRow, standIns := [], harness := (true, "b0fd2fff2c5e60f388390548752e0fac17c77091cce290f9c276d390b169ade0"), looks := false }, kinds := [], alts := [], laidByText := true, laidKinds := [.data], laidTests := true, laidLooks := .later }
def ShbRacesCardSaid : Prop := Claim7.holds Tryz.pinned (.plain (OpenSpec.ofChange shbRacesSpec)) shbRacesCard

/-- THE TIED CARD OF 'interleavelaw25.ShbReads'. -/
def shbReadsCard : Claim7 := { stood := { row := shbReadsRow, standIns := [], harness := (true, "b0fd2fff2c5e60f388390548752e0fac17c77091cce290f9c276d390b169ade0"), looks := false }, kinds := [], alts := [], laidByText := true, laidKinds := [.data], laidTests := true, laidLooks := .later }
def ShbReadsCardSaid : Prop := Claim7.holds Tryz.pinned (.plain (OpenSpec.ofChange shbReadsSpec)) shbReadsCard

/-- THE TIED CARD OF 'interleavelaw25.ShbStronger'. -/
def shbStrongerCard : Claim7 := { stood := { row := shbStrongerRow, standIns := [], harness := (true, "b0fd2fff2c5e60f388390548752e0fac17c77091cce290f9c276d390b169ade0"), looks := false }, kinds := [], alts := [], laidByText := true, laidKinds := [.data], laidTests := true, laidLooks := .later }
def ShbStrongerCardSaid : Prop := Claim7.holds Tryz.pinned (.plain (OpenSpec.ofChange shbStrongerSpec)) shbStrongerCard

/-- THE TIED CARD OF 'interleavelaw25.ShbFirst'. -/
def shbFirstCard : Claim7 := { stood := { row := shbFirstRow, standIns := [], harness := (true, "b0fd2fff2c5e60f388390548752e0fac17c77091cce290f9c276d390b169ade0"), looks := false }, kinds := [], alts := [], laidByText := true, laidKinds := [.data], laidTests := true, laidLooks := .later }
def ShbFirstCardSaid : Prop := Claim7.holds Tryz.pinned (.plain (OpenSpec.ofChange shbFirstSpec)) shbFirstCard

/-- THE SECOND FORM's CARD OF 'interleavelaw25.ShbClocks'. -/
def shbClocksUptoCard : Claim7 := { stood := { row := shbClocksUptoRow, standIns := [], harness := (true, "b0fd2fff2c5e60f388390548752e0fac17c77091cce290f9c276d390b169ade0"), looks := false }, kinds := [], alts := [], laidByText := true, laidKinds := [.data], laidTests := true, laidLooks := .later }
def ShbClocksUptoCardSaid : Prop := Claim7.holds Tryz.pinned (.plain (OpenSpec.upto shbClocksSpec)) shbClocksUptoCard

/-- THE SECOND FORM's CARD OF 'interleavelaw25.ShbRaces'. -/
def shbRacesUptoCard : Claim7 := { stood := { row := shbRacesUptoRow, standIns := [], harness := (true, "b0fd2fff2c5e60f388390548752e0fac17c77091cce290f9c276d390b169ade0"), looks := false }, kinds := [], alts := [], laidByText := true, laidKinds := [.data], laidTests := true, laidLooks := .later }
def ShbRacesUptoCardSaid : Prop := Claim7.holds Tryz.pinned (.plain (OpenSpec.upto shbRacesSpec)) shbRacesUptoCard

/-- THE SECOND FORM's CARD OF 'interleavelaw25.ShbReads'. -/
def shbReadsUptoCard : Claim7 := { stood := { row := shbReadsUptoRow, standIns := [], harness := (true, "b0fd2fff2c5e60f388390548752e0fac17c77091cce290f9c276d390b169ade0"), looks := false }, kinds := [], alts := [], laidByText := true, laidKinds := [.data], laidTests := true, laidLooks := .later }
def ShbReadsUptoCardSaid : Prop := Claim7.holds Tryz.pinned (.plain (OpenSpec.upto shbReadsSpec)) shbReadsUptoCard

/-- THE SECOND FORM's CARD OF 'interleavelaw25.ShbStronger'. -/
def shbStrongerUptoCard : Claim7 := { stood := { row := shbStrongerUptoRow, standIns := [], harness := (true, "b0fd2fff2c5e60f388390548752e0fac17c77091cce290f9c276d390b169ade0"), looks := false }, kinds := [], alts := [], laidByText := true, laidKinds := [.data], laidTests := true, laidLooks := .later }
def ShbStrongerUptoCardSaid : Prop := Claim7.holds Tryz.pinned (.plain (OpenSpec.upto shbStrongerSpec)) shbStrongerUptoCard

/-- THE SECOND FORM's CARD OF 'interleavelaw25.ShbFirst'. -/
def shbFirstUptoCard : Claim7 := { stood := { row := shbFirstUptoRow, standIns := [], harness := (true, "b0fd2fff2c5e60f388390548752e0fac17c77091cce290f9c276d390b169ade0"), looks := false }, kinds := [], alts := [], laidByText := true, laidKinds := [.data], laidTests := true, laidLooks := .later }
def ShbFirstUptoCardSaid : Prop := Claim7.holds Tryz.pinned (.plain (OpenSpec.upto shbFirstSpec)) shbFirstUptoCard
end Rows
end Go.Proofs.YtgijlolllojpaaaGreatDoor
