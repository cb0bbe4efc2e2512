/-
  NARROWER THAN 'FOR EVERY INPUT', by the rows' own cells (each row's printed sentence says how): ShbSchedules: laid.
  DERIVED. THE GIVEN ROWS OF THIS SEAT. 1 by the template 'for every input the law returns true; each argument reads behind the call as it read before'; 0 by the template 'total and deterministic' (their statements: YtocjfbiifiaagaaGreatDoorTotals.lean).
  GIVEN WITH THE SEED: the statements are not yours to turn. If you find one false, say at which input.
  Laid BY PROGRAM, IN A SANDBOX (cutbox-rows.mjs): the forced cells as the released guide's own fill.sh prints them over the translation eb07adc8a7b040e5… (all of the seat's roots in one cut). By AI agents, Wed Nov 11 2026. No macro, syntax, notation, axiom, sorry.
-/
import Derived.Test.YtocjfbiifiaagaaGreatDoorChecked
import GoSem.Claim
import GoSem.ClaimJoined
import GoSem.ClaimMapViews
import Derived.JoinedTies
import Derived.KernelRfl
namespace Go.Proofs.YtocjfbiifiaagaaGreatDoor
/- THE CELL 'sum', in the pinned program and in every row, IS THE sha256 OF THE DUMP (.gsa) THAT YtocjfbiifiaagaaGreatDoorProg.lean LOADS. Nothing in Lean hashes anything: it is a label: what it is worth is what the hold of that sum in a sandbox is worth. -/
noncomputable def Tryz.pinned : Pinned := { name := "ytocjfbiifiaagaagreatdoor", sum := "eb07adc8a7b040e5bd97b2fd17ef449bbc183d77df021b9bea69de4b7a7acd29", checked := Tryz.checked }
namespace Rows
def none {H : Type} : Left H := { results := [], args := [] }

/- WHAT THE LISTED PACKAGE-LEVEL VARIABLES READ AS WHEN THE CALL BEGINS. Each datum BY PROGRAM (the guide's laid-datum.mjs) off the statement by which the dump's own 'gosem.cut.vars' lays the variable. In a bare row this is a premise. The card (YtocjfbiifiaagaaGreatDoorCards.lean) ties it to the program's text. -/
def laid_interleave_token_keywords {H : Type} : DataW H := .agg [.lit (.string [118, 97, 114]), .lit (.string [118, 111, 108, 97, 116, 105, 108, 101]), .lit (.string [109, 117, 116, 101, 120]), .lit (.string [114, 119, 108, 111, 99, 107]), .lit (.string [99, 111, 110, 100]), .lit (.string [102, 117, 116, 117, 114, 101]), .lit (.string [116, 104, 114, 101, 97, 100]), .lit (.string [105, 102]), .lit (.string [101, 108, 115, 101]), .lit (.string [119, 104, 105, 108, 101]), .lit (.string [108, 111, 99, 107]), .lit (.string [114, 101, 97, 100]), .lit (.string [119, 114, 105, 116, 101]), .lit (.string [116, 114, 97, 110, 115, 97, 99, 116, 105, 111, 110]), .lit (.string [97, 116, 111, 109, 105, 99]), .lit (.string [119, 97, 105, 116]), .lit (.string [110, 111, 116, 105, 102, 121]), .lit (.string [110, 111, 116, 105, 102, 121, 97, 108, 108]), .lit (.string [115, 112, 97, 119, 110]), .lit (.string [106, 111, 105, 110]), .lit (.string [115, 101, 116]), .lit (.string [103, 101, 116])]

/-- 'interleavelaw25.ShbSchedules': WHATEVER THE INPUT: true; the input reads as it did. -/
def shbSchedulesSpec : ChangeSpec := { name := "shbSchedules", fn := fun _ => fun
  | [d1, d2] => { results := [.lit (.bool true)], args := [d1, d2] }
  | _ => none }
def shbSchedulesRow : OpenClaim := { program := "ytocjfbiifiaagaagreatdoor", sum := "eb07adc8a7b040e5bd97b2fd17ef449bbc183d77df021b9bea69de4b7a7acd29", func := "interleave/interleavelaw25.ShbSchedules", spec := "shbSchedules", unfollowed := true, recurses := true, named := ["interleave/token.keywords"], apart := false, laid := [("interleave/token.keywords", laid_interleave_token_keywords)] }
def ShbSchedulesSaid : Prop := shbSchedulesRow.holds Tryz.pinned (OpenSpec.ofChange shbSchedulesSpec)

/-- ITS FALSE NEIGHBOUR: 'it returns false'. Refute it at one input. -/
def shbSchedulesWrong : ChangeSpec := { name := "shbSchedules", fn := fun _ => fun
  | [d1, d2] => { results := [.lit (.bool false)], args := [d1, d2] }
  | _ => none }
def ShbSchedulesWrongFalsely : Prop := shbSchedulesRow.holds Tryz.pinned (OpenSpec.ofChange shbSchedulesWrong)

/- THE SECOND FORM. 'bulk': how many values and letters a reading holds, each counted each time it is reached (what is shared counts as often as it is met; a slice's spare places count too). A statement '..UptoSaid' is the law's where the arguments, and the package variables that the reading takes, are together of bulk at most 1048576: NARROWER than '..Said'. Prove '..Said' where nothing that the law and all that it calls make is longer than what came in: it says more and counts as full. Else prove '..UptoSaid'. A law counts once. -/
mutual
def uptoBulk {H : Type} : DataW H → Nat
  | .lit (.string bytes) => bytes.length + 1
  | .lit _ => 1
  | .nil => 1
  | .ptr d => uptoBulk d + 1
  | .slice elems spare => uptoBulkAll elems + uptoBulkAll spare + 1
  | .agg parts => uptoBulkAll parts + 1
  | .iface _ d => uptoBulk d + 1
  | .map entries => uptoBulkEntries entries + 1
  | .held _ => 1
def uptoBulkAll {H : Type} : List (DataW H) → Nat
  | [] => 0
  | d :: r => uptoBulk d + uptoBulkAll r
def uptoBulkEntries {H : Type} : List (Lit × DataW H) → Nat
  | [] => 0
  | x :: r => uptoBulkEntry x + uptoBulkEntries r
def uptoBulkEntry {H : Type} : Lit × DataW H → Nat
  | (.string bytes, d) => bytes.length + uptoBulk d + 1
  | (_, d) => uptoBulk d + 1
 end
def uptoSmall : (H : Type) → List (DataW H) → Bool := fun _ ds => decide (uptoBulkAll ds ≤ 1048576)
def OpenSpec.upto (s : _root_.Go.ChangeSpec) : _root_.Go.OpenSpec := { _root_.Go.OpenSpec.ofChange s with cond := some uptoSmall }

/-- 'interleavelaw25.ShbSchedules', WHERE WHAT IT READS IS OF BULK AT MOST 1048576: true; the input reads as it did. -/
def shbSchedulesUptoRow : OpenClaim := { program := "ytocjfbiifiaagaagreatdoor", sum := "eb07adc8a7b040e5bd97b2fd17ef449bbc183d77df021b9bea69de4b7a7acd29", func := "interleave/interleavelaw25.ShbSchedules", spec := "shbSchedules", unfollowed := true, recurses := true, named := ["interleave/token.keywords"], apart := false, laid := [("interleave/token.keywords", laid_interleave_token_keywords)], narrowed := true }
def ShbSchedulesUptoSaid : Prop := shbSchedulesUptoRow.holds Tryz.pinned (OpenSpec.upto shbSchedulesSpec)

end Rows
end Go.Proofs.YtocjfbiifiaagaaGreatDoor
