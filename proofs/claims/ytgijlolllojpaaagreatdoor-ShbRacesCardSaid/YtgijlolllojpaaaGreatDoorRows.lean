/-
  NARROWER THAN 'FOR EVERY INPUT', by the rows' own cells (each row's printed sentence says how): ShbClocks: laid · ShbRaces: laid · ShbReads: laid · ShbStronger: laid · ShbFirst: laid.
  DERIVED. THE GIVEN ROWS OF THIS SEAT. 5 by the template 'for every input the law returns true; each argument reads behind the call as it read before'; 0 by the template 'total and deterministic' (their statements: YtgijlolllojpaaaGreatDoorTotals.lean).
  GIVEN WITH THE SEED: the statements are not yours to turn. If you find one false, say at which input.
  Laid BY PROGRAM, IN A SANDBOX (cutbox-rows.mjs): the forced cells as the released guide's own fill.sh prints them over the translation cdf3f5d4f876dcdc… (all of the seat's roots in one cut). By AI agents, Wed Nov 11 2026. No macro, syntax, notation, axiom, sorry.
-/
import Derived.Test.YtgijlolllojpaaaGreatDoorChecked
import GoSem.Claim
import GoSem.ClaimJoined
import GoSem.ClaimMapViews
import Derived.JoinedTies
import Derived.KernelRfl
namespace Go.Proofs.YtgijlolllojpaaaGreatDoor
/- THE CELL 'sum', in the pinned program and in every row, IS THE sha256 OF THE DUMP (.gsa) THAT YtgijlolllojpaaaGreatDoorProg.lean LOADS. Nothing in Lean hashes anything: it is a label: what it is worth is what the hold of that sum in a sandbox is worth. -/
noncomputable def Tryz.pinned : Pinned := { name := "ytgijlolllojpaaagreatdoor", sum := "cdf3f5d4f876dcdcf91eab05daed1c0fd9e4dfa3350fef711457f75b8fdbb026", checked := Tryz.checked }
namespace Rows
def none {H : Type} : Left H := { results := [], args := [] }

/- WHAT THE LISTED PACKAGE-LEVEL VARIABLES READ AS WHEN THE CALL BEGINS. Each datum BY PROGRAM (the guide's laid-datum.mjs) off the statement by which the dump's own 'gosem.cut.vars' lays the variable. In a bare row this is a premise. The card (YtgijlolllojpaaaGreatDoorCards.lean) ties it to the program's text. -/
def laid_interleave_token_keywords {H : Type} : DataW H := .agg [.lit (.string [118, 97, 114]), .lit (.string [118, 111, 108, 97, 116, 105, 108, 101]), .lit (.string [109, 117, 116, 101, 120]), .lit (.string [114, 119, 108, 111, 99, 107]), .lit (.string [99, 111, 110, 100]), .lit (.string [102, 117, 116, 117, 114, 101]), .lit (.string [116, 104, 114, 101, 97, 100]), .lit (.string [105, 102]), .lit (.string [101, 108, 115, 101]), .lit (.string [119, 104, 105, 108, 101]), .lit (.string [108, 111, 99, 107]), .lit (.string [114, 101, 97, 100]), .lit (.string [119, 114, 105, 116, 101]), .lit (.string [116, 114, 97, 110, 115, 97, 99, 116, 105, 111, 110]), .lit (.string [97, 116, 111, 109, 105, 99]), .lit (.string [119, 97, 105, 116]), .lit (.string [110, 111, 116, 105, 102, 121]), .lit (.string [110, 111, 116, 105, 102, 121, 97, 108, 108]), .lit (.string [115, 112, 97, 119, 110]), .lit (.string [106, 111, 105, 110]), .lit (.string [115, 101, 116]), .lit (.string [103, 101, 116])]

/-- 'interleavelaw25.ShbClocks': WHATEVER THE INPUT: true; the input reads as it did. -/
def shbClocksSpec : ChangeSpec := { name := "shbClocks", fn := fun _ => fun
  | [d] => { results := [.lit (.bool true)], args := [d] }
  | _ => none }
def shbClocksRow : OpenClaim := { program := "ytgijlolllojpaaagreatdoor", sum := "cdf3f5d4f876dcdcf91eab05daed1c0fd9e4dfa3350fef711457f75b8fdbb026", func := "interleave/interleavelaw25.ShbClocks", spec := "shbClocks", unfollowed := true, recurses := true, named := ["interleave/token.keywords"], apart := false, laid := [("interleave/token.keywords", laid_interleave_token_keywords)] }
def ShbClocksSaid : Prop := shbClocksRow.holds Tryz.pinned (OpenSpec.ofChange shbClocksSpec)

/-- ITS FALSE NEIGHBOUR: 'it returns false'. Refute it at one input. -/
def shbClocksWrong : ChangeSpec := { name := "shbClocks", fn := fun _ => fun
  | [d] => { results := [.lit (.bool false)], args := [d] }
  | _ => none }
def ShbClocksWrongFalsely : Prop := shbClocksRow.holds Tryz.pinned (OpenSpec.ofChange shbClocksWrong)

/-- 'interleavelaw25.ShbRaces': WHATEVER THE INPUT: true; the input reads as it did. -/
def shbRacesSpec : ChangeSpec := { name := "shbRaces", fn := fun _ => fun
  | [d] => { results := [.lit (.bool true)], args := [d] }
  | _ => none }
def shbRacesRow : OpenClaim := { program := "ytgijlolllojpaaagreatdoor", sum := "cdf3f5d4f876dcdcf91eab05daed1c0fd9e4dfa3350fef711457f75b8fdbb026", func := "interleave/interleavelaw25.ShbRaces", spec := "shbRaces", unfollowed := true, recurses := true, named := ["interleave/token.keywords"], apart := false, laid := [("interleave/token.keywords", laid_interleave_token_keywords)] }
def ShbRacesSaid : Prop := shbRacesRow.holds Tryz.pinned (OpenSpec.ofChange shbRacesSpec)

/-- ITS FALSE NEIGHBOUR: 'it returns false'. Refute it at one input. -/
def shbRacesWrong : ChangeSpec := { name := "shbRaces", fn := fun _ => fun
  | [d] => { results := [.lit (.bool false)], args := [d] }
  | _ => none }
def ShbRacesWrongFalsely : Prop := shbRacesRow.holds Tryz.pinned (OpenSpec.ofChange shbRacesWrong)

/-- 'interleavelaw25.ShbReads': WHATEVER THE INPUT: true; the input reads as it did. -/
def shbReadsSpec : ChangeSpec := { name := "shbReads", fn := fun _ => fun
  | [d] => { results := [.lit (.bool true)], args := [d] }
  | _ => none }
def shbReadsRow : OpenClaim := { program := "ytgijlolllojpaaagreatdoor", sum := "cdf3f5d4f876dcdcf91eab05daed1c0fd9e4dfa3350fef711457f75b8fdbb026", func := "interleave/interleavelaw25.ShbReads", spec := "shbReads", unfollowed := true, recurses := true, named := ["interleave/token.keywords"], apart := false, laid := [("interleave/token.keywords", laid_interleave_token_keywords)] }
def ShbReadsSaid : Prop := shbReadsRow.holds Tryz.pinned (OpenSpec.ofChange shbReadsSpec)

/-- ITS FALSE NEIGHBOUR: 'it returns false'. Refute it at one input. -/
def shbReadsWrong : ChangeSpec := { name := "shbReads", fn := fun _ => fun
  | [d] => { results := [.lit (.bool false)], args := [d] }
  | _ => none }
def ShbReadsWrongFalsely : Prop := shbReadsRow.holds Tryz.pinned (OpenSpec.ofChange shbReadsWrong)

/-- 'interleavelaw25.ShbStronger': WHATEVER THE INPUT: true; the input reads as it did. -/
def shbStrongerSpec : ChangeSpec := { name := "shbStronger", fn := fun _ => fun
  | [d] => { results := [.lit (.bool true)], args := [d] }
  | _ => none }
def shbStrongerRow : OpenClaim := { program := "ytgijlolllojpaaagreatdoor", sum := "cdf3f5d4f876dcdcf91eab05daed1c0fd9e4dfa3350fef711457f75b8fdbb026", func := "interleave/interleavelaw25.ShbStronger", spec := "shbStronger", unfollowed := true, recurses := true, named := ["interleave/token.keywords"], apart := false, laid := [("interleave/token.keywords", laid_interleave_token_keywords)] }
def ShbStrongerSaid : Prop := shbStrongerRow.holds Tryz.pinned (OpenSpec.ofChange shbStrongerSpec)

/-- ITS FALSE NEIGHBOUR: 'it returns false'. Refute it at one input. -/
def shbStrongerWrong : ChangeSpec := { name := "shbStronger", fn := fun _ => fun
  | [d] => { results := [.lit (.bool false)], args := [d] }
  | _ => none }
def ShbStrongerWrongFalsely : Prop := shbStrongerRow.holds Tryz.pinned (OpenSpec.ofChange shbStrongerWrong)

/-- 'interleavelaw25.ShbFirst': WHATEVER THE INPUT: true; the input reads as it did. -/
def shbFirstSpec : ChangeSpec := { name := "shbFirst", fn := fun _ => fun
  | [d] => { results := [.lit (.bool true)], args := [d] }
  | _ => none }
def shbFirstRow : OpenClaim := { program := "ytgijlolllojpaaagreatdoor", sum := "cdf3f5d4f876dcdcf91eab05daed1c0fd9e4dfa3350fef711457f75b8fdbb026", func := "interleave/interleavelaw25.ShbFirst", spec := "shbFirst", unfollowed := true, recurses := true, named := ["interleave/token.keywords"], apart := false, laid := [("interleave/token.keywords", laid_interleave_token_keywords)] }
def ShbFirstSaid : Prop := shbFirstRow.holds Tryz.pinned (OpenSpec.ofChange shbFirstSpec)

/-- ITS FALSE NEIGHBOUR: 'it returns false'. Refute it at one input. -/
def shbFirstWrong : ChangeSpec := { name := "shbFirst", fn := fun _ => fun
  | [d] => { results := [.lit (.bool false)], args := [d] }
  | _ => none }
def ShbFirstWrongFalsely : Prop := shbFirstRow.holds Tryz.pinned (OpenSpec.ofChange shbFirstWrong)

/- THE SECOND FORM. 'bulk': how many values and letters a reading holds, each counted each time it is reached (what is shared counts as often as it is met; a slice's spare places count too). A statement '..UptoSaid' is the law's where the arguments, and the package variables that the reading takes, are together of bulk at most 1048576: NARROWER than '..Said'. Prove '..Said' where nothing that the law and all that it calls make is longer than what came in: it says more and counts as full. Else prove '..UptoSaid'. A law counts once. -/
mutual
def uptoBulk {H : Type} : DataW H → Nat
  | .lit (.string bytes) => bytes.length + 1
  | .lit _ => 1
  | .nil => 1
  | .ptr d => uptoBulk d + 1
  | .slice elems spare => uptoBulkAll elems + uptoBulkAll spare + 1
  | .agg parts => uptoBulkAll parts + 1
  | .iface _ d => uptoBulk d + 1
  | .map entries => uptoBulkEntries entries + 1
  | .held _ => 1
def uptoBulkAll {H : Type} : List (DataW H) → Nat
  | [] => 0
  | d :: r => uptoBulk d + uptoBulkAll r
def uptoBulkEntries {H : Type} : List (Lit × DataW H) → Nat
  | [] => 0
  | x :: r => uptoBulkEntry x + uptoBulkEntries r
def uptoBulkEntry {H : Type} : Lit × DataW H → Nat
  | (.string bytes, d) => bytes.length + uptoBulk d + 1
  | (_, d) => uptoBulk d + 1
 end
def uptoSmall : (H : Type) → List (DataW H) → Bool := fun _ ds => decide (uptoBulkAll ds ≤ 1048576)
def OpenSpec.upto (s : _root_.Go.ChangeSpec) : _root_.Go.OpenSpec := { _root_.Go.OpenSpec.ofChange s with cond := some uptoSmall }

/-- 'interleavelaw25.ShbClocks', WHERE WHAT IT READS IS OF BULK AT MOST 1048576: true; the input reads as it did. -/
def shbClocksUptoRow : OpenClaim := { program := "ytgijlolllojpaaagreatdoor", sum := "cdf3f5d4f876dcdcf91eab05daed1c0fd9e4dfa3350fef711457f75b8fdbb026", func := "interleave/interleavelaw25.ShbClocks", spec := "shbClocks", unfollowed := true, recurses := true, named := ["interleave/token.keywords"], apart := false, laid := [("interleave/token.keywords", laid_interleave_token_keywords)], narrowed := true }
def ShbClocksUptoSaid : Prop := shbClocksUptoRow.holds Tryz.pinned (OpenSpec.upto shbClocksSpec)

/-- 'interleavelaw25.ShbRaces', WHERE WHAT IT READS IS OF BULK AT MOST 1048576: true; the input reads as it did. -/
def shbRacesUptoRow : OpenClaim := { program := "ytgijlolllojpaaagreatdoor", sum := "cdf3f5d4f876dcdcf91eab05daed1c0fd9e4dfa3350fef711457f75b8fdbb026", func := "interleave/interleavelaw25.ShbRaces", spec := "shbRaces", unfollowed := true, recurses := true, named := ["interleave/token.keywords"], apart := false, laid := [("interleave/token.keywords", laid_interleave_token_keywords)], narrowed := true }
def ShbRacesUptoSaid : Prop := shbRacesUptoRow.holds Tryz.pinned (OpenSpec.upto shbRacesSpec)

/-- 'interleavelaw25.ShbReads', WHERE WHAT IT READS IS OF BULK AT MOST 1048576: true; the input reads as it did. -/
def shbReadsUptoRow : OpenClaim := { program := "ytgijlolllojpaaagreatdoor", sum := "cdf3f5d4f876dcdcf91eab05daed1c0fd9e4dfa3350fef711457f75b8fdbb026", func := "interleave/interleavelaw25.ShbReads", spec := "shbReads", unfollowed := true, recurses := true, named := ["interleave/token.keywords"], apart := false, laid := [("interleave/token.keywords", laid_interleave_token_keywords)], narrowed := true }
def ShbReadsUptoSaid : Prop := shbReadsUptoRow.holds Tryz.pinned (OpenSpec.upto shbReadsSpec)

/-- 'interleavelaw25.ShbStronger', WHERE WHAT IT READS IS OF BULK AT MOST 1048576: true; the input reads as it did. -/
def shbStrongerUptoRow : OpenClaim := { program := "ytgijlolllojpaaagreatdoor", sum := "cdf3f5d4f876dcdcf91eab05daed1c0fd9e4dfa3350fef711457f75b8fdbb026", func := "interleave/interleavelaw25.ShbStronger", spec := "shbStronger", unfollowed := true, recurses := true, named := ["interleave/token.keywords"], apart := false, laid := [("interleave/token.keywords", laid_interleave_token_keywords)], narrowed := true }
def ShbStrongerUptoSaid : Prop := shbStrongerUptoRow.holds Tryz.pinned (OpenSpec.upto shbStrongerSpec)

/-- 'interleavelaw25.ShbFirst', WHERE WHAT IT READS IS OF BULK AT MOST 1048576: true; the input reads as it did. -/
def shbFirstUptoRow : OpenClaim := { program := "ytgijlolllojpaaagreatdoor", sum := "cdf3f5d4f876dcdcf91eab05daed1c0fd9e4dfa3350fef711457f75b8fdbb026", func := "interleave/interleavelaw25.ShbFirst", spec := "shbFirst", unfollowed := true, recurses := true, named := ["interleave/token.keywords"], apart := false, laid := [("interleave/token.keywords", laid_interleave_token_keywords)], narrowed := true }
def ShbFirstUptoSaid : Prop := shbFirstUptoRow.holds Tryz.pinned (OpenSpec.upto shbFirstSpec)

end Rows
end Go.Proofs.YtgijlolllojpaaaGreatDoor
