/-
  NARROWER THAN 'FOR EVERY INPUT', by the rows' own cells (each row's printed sentence says how): EpochFirst: laid · EpochShadows: laid · EpochQuiet: laid · EpochAgrees: laid.
  DERIVED. THE GIVEN ROWS OF THIS SEAT. 4 by the template 'for every input the law returns true; each argument reads behind the call as it read before'; 0 by the template 'total and deterministic' (their statements: YtloaobgmjdjhhaaGreatDoorTotals.lean).
  GIVEN WITH THE SEED: the statements are not yours to turn. If you find one false, say at which input.
  Laid BY PROGRAM, IN A SANDBOX (cutbox-rows.mjs): the forced cells as the released guide's own fill.sh prints them over the translation c6c6756f7d86e5cc… (all of the seat's roots in one cut). By AI agents, Wed Nov 11 2026. No macro, syntax, notation, axiom, sorry.
-/
import Derived.Test.YtloaobgmjdjhhaaGreatDoorChecked
import GoSem.Claim
import GoSem.ClaimJoined
import GoSem.ClaimMapViews
import Derived.JoinedTies
import Derived.KernelRfl
namespace Go.Proofs.YtloaobgmjdjhhaaGreatDoor
/- THE CELL 'sum', in the pinned program and in every row, IS THE sha256 OF THE DUMP (.gsa) THAT YtloaobgmjdjhhaaGreatDoorProg.lean LOADS. Nothing in Lean hashes anything: it is a label: what it is worth is what the hold of that sum in a sandbox is worth. -/
noncomputable def Tryz.pinned : Pinned := { name := "ytloaobgmjdjhhaagreatdoor", sum := "c6c6756f7d86e5cccec78b2bfb53b75a278d7924b432846bf8cff8c2166a6b09", checked := Tryz.checked }
namespace Rows
def none {H : Type} : Left H := { results := [], args := [] }

/- WHAT THE LISTED PACKAGE-LEVEL VARIABLES READ AS WHEN THE CALL BEGINS. Each datum BY PROGRAM (the guide's laid-datum.mjs) off the statement by which the dump's own 'gosem.cut.vars' lays the variable. In a bare row this is a premise. The card (YtloaobgmjdjhhaaGreatDoorCards.lean) ties it to the program's text. -/
def laid_interleave_token_keywords {H : Type} : DataW H := .agg [.lit (.string [118, 97, 114]), .lit (.string [118, 111, 108, 97, 116, 105, 108, 101]), .lit (.string [109, 117, 116, 101, 120]), .lit (.string [114, 119, 108, 111, 99, 107]), .lit (.string [99, 111, 110, 100]), .lit (.string [102, 117, 116, 117, 114, 101]), .lit (.string [116, 104, 114, 101, 97, 100]), .lit (.string [105, 102]), .lit (.string [101, 108, 115, 101]), .lit (.string [119, 104, 105, 108, 101]), .lit (.string [108, 111, 99, 107]), .lit (.string [114, 101, 97, 100]), .lit (.string [119, 114, 105, 116, 101]), .lit (.string [116, 114, 97, 110, 115, 97, 99, 116, 105, 111, 110]), .lit (.string [97, 116, 111, 109, 105, 99]), .lit (.string [119, 97, 105, 116]), .lit (.string [110, 111, 116, 105, 102, 121]), .lit (.string [110, 111, 116, 105, 102, 121, 97, 108, 108]), .lit (.string [115, 112, 97, 119, 110]), .lit (.string [106, 111, 105, 110]), .lit (.string [115, 101, 116]), .lit (.string [103, 101, 116])]

/-- 'interleavelaw24.EpochFirst': WHATEVER THE INPUT: true; the input reads as it did. -/
def epochFirstSpec : ChangeSpec := { name := "epochFirst", fn := fun _ => fun
  | [d] => { results := [.lit (.bool true)], args := [d] }
  | _ => none }
def epochFirstRow : OpenClaim := { program := "ytloaobgmjdjhhaagreatdoor", sum := "c6c6756f7d86e5cccec78b2bfb53b75a278d7924b432846bf8cff8c2166a6b09", func := "interleave/interleavelaw24.EpochFirst", spec := "epochFirst", unfollowed := true, recurses := true, named := ["interleave/token.keywords"], apart := false, laid := [("interleave/token.keywords", laid_interleave_token_keywords)] }
def EpochFirstSaid : Prop := epochFirstRow.holds Tryz.pinned (OpenSpec.ofChange epochFirstSpec)

/-- ITS FALSE NEIGHBOUR: 'it returns false'. Refute it at one input. -/
def epochFirstWrong : ChangeSpec := { name := "epochFirst", fn := fun _ => fun
  | [d] => { results := [.lit (.bool false)], args := [d] }
  | _ => none }
def EpochFirstWrongFalsely : Prop := epochFirstRow.holds Tryz.pinned (OpenSpec.ofChange epochFirstWrong)

/-- 'interleavelaw24.EpochShadows': WHATEVER THE INPUT: true; the input reads as it did. -/
def epochShadowsSpec : ChangeSpec := { name := "epochShadows", fn := fun _ => fun
  | [d] => { results := [.lit (.bool true)], args := [d] }
  | _ => none }
def epochShadowsRow : OpenClaim := { program := "ytloaobgmjdjhhaagreatdoor", sum := "c6c6756f7d86e5cccec78b2bfb53b75a278d7924b432846bf8cff8c2166a6b09", func := "interleave/interleavelaw24.EpochShadows", spec := "epochShadows", unfollowed := true, recurses := true, named := ["interleave/token.keywords"], apart := false, laid := [("interleave/token.keywords", laid_interleave_token_keywords)] }
def EpochShadowsSaid : Prop := epochShadowsRow.holds Tryz.pinned (OpenSpec.ofChange epochShadowsSpec)

/-- ITS FALSE NEIGHBOUR: 'it returns false'. Refute it at one input. -/
def epochShadowsWrong : ChangeSpec := { name := "epochShadows", fn := fun _ => fun
  | [d] => { results := [.lit (.bool false)], args := [d] }
  | _ => none }
def EpochShadowsWrongFalsely : Prop := epochShadowsRow.holds Tryz.pinned (OpenSpec.ofChange epochShadowsWrong)

/-- 'interleavelaw24.EpochQuiet': WHATEVER THE INPUT: true; the input reads as it did. -/
def epochQuietSpec : ChangeSpec := { name := "epochQuiet", fn := fun _ => fun
  | [d] => { results := [.lit (.bool true)], args := [d] }
  | _ => none }
def epochQuietRow : OpenClaim := { program := "ytloaobgmjdjhhaagreatdoor", sum := "c6c6756f7d86e5cccec78b2bfb53b75a278d7924b432846bf8cff8c2166a6b09", func := "interleave/interleavelaw24.EpochQuiet", spec := "epochQuiet", unfollowed := true, recurses := true, named := ["interleave/token.keywords"], apart := false, laid := [("interleave/token.keywords", laid_interleave_token_keywords)] }
def EpochQuietSaid : Prop := epochQuietRow.holds Tryz.pinned (OpenSpec.ofChange epochQuietSpec)

/-- ITS FALSE NEIGHBOUR: 'it returns false'. Refute it at one input. -/
def epochQuietWrong : ChangeSpec := { name := "epochQuiet", fn := fun _ => fun
  | [d] => { results := [.lit (.bool false)], args := [d] }
  | _ => none }
def EpochQuietWrongFalsely : Prop := epochQuietRow.holds Tryz.pinned (OpenSpec.ofChange epochQuietWrong)

/-- 'interleavelaw24.EpochAgrees': WHATEVER THE INPUT: true; the input reads as it did. -/
def epochAgreesSpec : ChangeSpec := { name := "epochAgrees", fn := fun _ => fun
  | [d] => { results := [.lit (.bool true)], args := [d] }
  | _ => none }
def epochAgreesRow : OpenClaim := { program := "ytloaobgmjdjhhaagreatdoor", sum := "c6c6756f7d86e5cccec78b2bfb53b75a278d7924b432846bf8cff8c2166a6b09", func := "interleave/interleavelaw24.EpochAgrees", spec := "epochAgrees", unfollowed := true, recurses := true, named := ["interleave/token.keywords"], apart := false, laid := [("interleave/token.keywords", laid_interleave_token_keywords)] }
def EpochAgreesSaid : Prop := epochAgreesRow.holds Tryz.pinned (OpenSpec.ofChange epochAgreesSpec)

/-- ITS FALSE NEIGHBOUR: 'it returns false'. Refute it at one input. -/
def epochAgreesWrong : ChangeSpec := { name := "epochAgrees", fn := fun _ => fun
  | [d] => { results := [.lit (.bool false)], args := [d] }
  | _ => none }
def EpochAgreesWrongFalsely : Prop := epochAgreesRow.holds Tryz.pinned (OpenSpec.ofChange epochAgreesWrong)

/- THE SECOND FORM. 'bulk': how many values and letters a reading holds, each counted each time it is reached (what is shared counts as often as it is met; a slice's spare places count too). A statement '..UptoSaid' is the law's where the arguments, and the package variables that the reading takes, are together of bulk at most 1048576: NARROWER than '..Said'. Prove '..Said' where nothing that the law and all that it calls make is longer than what came in: it says more and counts as full. Else prove '..UptoSaid'. A law counts once. -/
mutual
def uptoBulk {H : Type} : DataW H → Nat
  | .lit (.string bytes) => bytes.length + 1
  | .lit _ => 1
  | .nil => 1
  | .ptr d => uptoBulk d + 1
  | .slice elems spare => uptoBulkAll elems + uptoBulkAll spare + 1
  | .agg parts => uptoBulkAll parts + 1
  | .iface _ d => uptoBulk d + 1
  | .map entries => uptoBulkEntries entries + 1
  | .held _ => 1
def uptoBulkAll {H : Type} : List (DataW H) → Nat
  | [] => 0
  | d :: r => uptoBulk d + uptoBulkAll r
def uptoBulkEntries {H : Type} : List (Lit × DataW H) → Nat
  | [] => 0
  | x :: r => uptoBulkEntry x + uptoBulkEntries r
def uptoBulkEntry {H : Type} : Lit × DataW H → Nat
  | (.string bytes, d) => bytes.length + uptoBulk d + 1
  | (_, d) => uptoBulk d + 1
 end
def uptoSmall : (H : Type) → List (DataW H) → Bool := fun _ ds => decide (uptoBulkAll ds ≤ 1048576)
def OpenSpec.upto (s : _root_.Go.ChangeSpec) : _root_.Go.OpenSpec := { _root_.Go.OpenSpec.ofChange s with cond := some uptoSmall }

/-- 'interleavelaw24.EpochFirst', WHERE WHAT IT READS IS OF BULK AT MOST 1048576: true; the input reads as it did. -/
def epochFirstUptoRow : OpenClaim := { program := "ytloaobgmjdjhhaagreatdoor", sum := "c6c6756f7d86e5cccec78b2bfb53b75a278d7924b432846bf8cff8c2166a6b09", func := "interleave/interleavelaw24.EpochFirst", spec := "epochFirst", unfollowed := true, recurses := true, named := ["interleave/token.keywords"], apart := false, laid := [("interleave/token.keywords", laid_interleave_token_keywords)], narrowed := true }
def EpochFirstUptoSaid : Prop := epochFirstUptoRow.holds Tryz.pinned (OpenSpec.upto epochFirstSpec)

/-- 'interleavelaw24.EpochShadows', WHERE WHAT IT READS IS OF BULK AT MOST 1048576: true; the input reads as it did. -/
def epochShadowsUptoRow : OpenClaim := { program := "ytloaobgmjdjhhaagreatdoor", sum := "c6c6756f7d86e5cccec78b2bfb53b75a278d7924b432846bf8cff8c2166a6b09", func := "interleave/interleavelaw24.EpochShadows", spec := "epochShadows", unfollowed := true, recurses := true, named := ["interleave/token.keywords"], apart := false, laid := [("interleave/token.keywords", laid_interleave_token_keywords)], narrowed := true }
def EpochShadowsUptoSaid : Prop := epochShadowsUptoRow.holds Tryz.pinned (OpenSpec.upto epochShadowsSpec)

/-- 'interleavelaw24.EpochQuiet', WHERE WHAT IT READS IS OF BULK AT MOST 1048576: true; the input reads as it did. -/
def epochQuietUptoRow : OpenClaim := { program := "ytloaobgmjdjhhaagreatdoor", sum := "c6c6756f7d86e5cccec78b2bfb53b75a278d7924b432846bf8cff8c2166a6b09", func := "interleave/interleavelaw24.EpochQuiet", spec := "epochQuiet", unfollowed := true, recurses := true, named := ["interleave/token.keywords"], apart := false, laid := [("interleave/token.keywords", laid_interleave_token_keywords)], narrowed := true }
def EpochQuietUptoSaid : Prop := epochQuietUptoRow.holds Tryz.pinned (OpenSpec.upto epochQuietSpec)

/-- 'interleavelaw24.EpochAgrees', WHERE WHAT IT READS IS OF BULK AT MOST 1048576: true; the input reads as it did. -/
def epochAgreesUptoRow : OpenClaim := { program := "ytloaobgmjdjhhaagreatdoor", sum := "c6c6756f7d86e5cccec78b2bfb53b75a278d7924b432846bf8cff8c2166a6b09", func := "interleave/interleavelaw24.EpochAgrees", spec := "epochAgrees", unfollowed := true, recurses := true, named := ["interleave/token.keywords"], apart := false, laid := [("interleave/token.keywords", laid_interleave_token_keywords)], narrowed := true }
def EpochAgreesUptoSaid : Prop := epochAgreesUptoRow.holds Tryz.pinned (OpenSpec.upto epochAgreesSpec)

end Rows
end Go.Proofs.YtloaobgmjdjhhaaGreatDoor
