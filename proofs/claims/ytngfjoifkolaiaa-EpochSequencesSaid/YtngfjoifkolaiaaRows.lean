/-
  No cell of these rows narrows 'for every input' (looked for: loops, veiled, ifaces, maps, wideKeys, modest, calm, conditions, laid).
  DERIVED. THE GIVEN ROWS OF THIS SEAT. 15 by the template 'for every input the law returns true; each argument reads behind the call as it read before'; 0 by the template 'total and deterministic' (their statements: YtngfjoifkolaiaaTotals.lean).
  GIVEN WITH THE SEED: the statements are not yours to turn. If you find one false, say at which input.
  Laid BY PROGRAM, IN A SANDBOX (cutbox-rows.mjs): the forced cells as the released guide's own fill.sh prints them over the translation 0366b5bb4d75e4ae… (all of the seat's roots in one cut). By AI agents, Wed Nov 11 2026. No macro, syntax, notation, axiom, sorry.
-/
import Derived.Test.YtngfjoifkolaiaaChecked
import GoSem.Claim
import GoSem.ClaimJoined
import GoSem.ClaimMapViews
import Derived.JoinedTies
import Derived.KernelRfl
namespace Go.Proofs.Ytngfjoifkolaiaa
/- THE CELL 'sum', in the pinned program and in every row, IS THE sha256 OF THE DUMP (.gsa) THAT YtngfjoifkolaiaaProg.lean LOADS. Nothing in Lean hashes anything: it is a label: what it is worth is what the hold of that sum in a sandbox is worth. -/
noncomputable def Try.pinned : Pinned := { name := "ytngfjoifkolaiaa", sum := "0366b5bb4d75e4ae43ee9dc5fb3b3ad09c06ce04b9bb4ae987604a2a02504121", checked := Try.checked }
namespace Rows
def none {H : Type} : Left H := { results := [], args := [] }

/-- 'interleavelaw22.ClockEntries': WHATEVER THE INPUT: true; the input reads as it did. -/
def clockEntriesSpec : ChangeSpec := { name := "clockEntries", fn := fun _ => fun
  | [d1, d2] => { results := [.lit (.bool true)], args := [d1, d2] }
  | _ => none }
def clockEntriesRow : OpenClaim := { program := "ytngfjoifkolaiaa", sum := "0366b5bb4d75e4ae43ee9dc5fb3b3ad09c06ce04b9bb4ae987604a2a02504121", func := "interleave/interleavelaw22.ClockEntries", spec := "clockEntries", apart := false }
def ClockEntriesSaid : Prop := clockEntriesRow.holds Try.pinned (OpenSpec.ofChange clockEntriesSpec)

/-- ITS FALSE NEIGHBOUR: 'it returns false'. Refute it at one input. -/
def clockEntriesWrong : ChangeSpec := { name := "clockEntries", fn := fun _ => fun
  | [d1, d2] => { results := [.lit (.bool false)], args := [d1, d2] }
  | _ => none }
def ClockEntriesWrongFalsely : Prop := clockEntriesRow.holds Try.pinned (OpenSpec.ofChange clockEntriesWrong)

/-- 'interleavelaw22.ClockJoins': WHATEVER THE INPUT: true; the input reads as it did. -/
def clockJoinsSpec : ChangeSpec := { name := "clockJoins", fn := fun _ => fun
  | [d1, d2] => { results := [.lit (.bool true)], args := [d1, d2] }
  | _ => none }
def clockJoinsRow : OpenClaim := { program := "ytngfjoifkolaiaa", sum := "0366b5bb4d75e4ae43ee9dc5fb3b3ad09c06ce04b9bb4ae987604a2a02504121", func := "interleave/interleavelaw22.ClockJoins", spec := "clockJoins", apart := false }
def ClockJoinsSaid : Prop := clockJoinsRow.holds Try.pinned (OpenSpec.ofChange clockJoinsSpec)

/-- ITS FALSE NEIGHBOUR: 'it returns false'. Refute it at one input. -/
def clockJoinsWrong : ChangeSpec := { name := "clockJoins", fn := fun _ => fun
  | [d1, d2] => { results := [.lit (.bool false)], args := [d1, d2] }
  | _ => none }
def ClockJoinsWrongFalsely : Prop := clockJoinsRow.holds Try.pinned (OpenSpec.ofChange clockJoinsWrong)

/-- 'interleavelaw22.ClockCompares': WHATEVER THE INPUT: true; the input reads as it did. -/
def clockComparesSpec : ChangeSpec := { name := "clockCompares", fn := fun _ => fun
  | [d1, d2] => { results := [.lit (.bool true)], args := [d1, d2] }
  | _ => none }
def clockComparesRow : OpenClaim := { program := "ytngfjoifkolaiaa", sum := "0366b5bb4d75e4ae43ee9dc5fb3b3ad09c06ce04b9bb4ae987604a2a02504121", func := "interleave/interleavelaw22.ClockCompares", spec := "clockCompares", apart := false }
def ClockComparesSaid : Prop := clockComparesRow.holds Try.pinned (OpenSpec.ofChange clockComparesSpec)

/-- ITS FALSE NEIGHBOUR: 'it returns false'. Refute it at one input. -/
def clockComparesWrong : ChangeSpec := { name := "clockCompares", fn := fun _ => fun
  | [d1, d2] => { results := [.lit (.bool false)], args := [d1, d2] }
  | _ => none }
def ClockComparesWrongFalsely : Prop := clockComparesRow.holds Try.pinned (OpenSpec.ofChange clockComparesWrong)

/-- 'interleavelaw22.ClockCovers': WHATEVER THE INPUT: true; the input reads as it did. -/
def clockCoversSpec : ChangeSpec := { name := "clockCovers", fn := fun _ => fun
  | [d1, d2, d3] => { results := [.lit (.bool true)], args := [d1, d2, d3] }
  | _ => none }
def clockCoversRow : OpenClaim := { program := "ytngfjoifkolaiaa", sum := "0366b5bb4d75e4ae43ee9dc5fb3b3ad09c06ce04b9bb4ae987604a2a02504121", func := "interleave/interleavelaw22.ClockCovers", spec := "clockCovers", apart := false }
def ClockCoversSaid : Prop := clockCoversRow.holds Try.pinned (OpenSpec.ofChange clockCoversSpec)

/-- ITS FALSE NEIGHBOUR: 'it returns false'. Refute it at one input. -/
def clockCoversWrong : ChangeSpec := { name := "clockCovers", fn := fun _ => fun
  | [d1, d2, d3] => { results := [.lit (.bool false)], args := [d1, d2, d3] }
  | _ => none }
def ClockCoversWrongFalsely : Prop := clockCoversRow.holds Try.pinned (OpenSpec.ofChange clockCoversWrong)

/-- 'interleavelaw22.ClockBounds': WHATEVER THE INPUT: true; the input reads as it did. -/
def clockBoundsSpec : ChangeSpec := { name := "clockBounds", fn := fun _ => fun
  | [d1, d2, d3] => { results := [.lit (.bool true)], args := [d1, d2, d3] }
  | _ => none }
def clockBoundsRow : OpenClaim := { program := "ytngfjoifkolaiaa", sum := "0366b5bb4d75e4ae43ee9dc5fb3b3ad09c06ce04b9bb4ae987604a2a02504121", func := "interleave/interleavelaw22.ClockBounds", spec := "clockBounds", apart := false }
def ClockBoundsSaid : Prop := clockBoundsRow.holds Try.pinned (OpenSpec.ofChange clockBoundsSpec)

/-- ITS FALSE NEIGHBOUR: 'it returns false'. Refute it at one input. -/
def clockBoundsWrong : ChangeSpec := { name := "clockBounds", fn := fun _ => fun
  | [d1, d2, d3] => { results := [.lit (.bool false)], args := [d1, d2, d3] }
  | _ => none }
def ClockBoundsWrongFalsely : Prop := clockBoundsRow.holds Try.pinned (OpenSpec.ofChange clockBoundsWrong)

/-- 'interleavelaw22.ClockAlgebra': WHATEVER THE INPUT: true; the input reads as it did. -/
def clockAlgebraSpec : ChangeSpec := { name := "clockAlgebra", fn := fun _ => fun
  | [d1, d2, d3] => { results := [.lit (.bool true)], args := [d1, d2, d3] }
  | _ => none }
def clockAlgebraRow : OpenClaim := { program := "ytngfjoifkolaiaa", sum := "0366b5bb4d75e4ae43ee9dc5fb3b3ad09c06ce04b9bb4ae987604a2a02504121", func := "interleave/interleavelaw22.ClockAlgebra", spec := "clockAlgebra", apart := false }
def ClockAlgebraSaid : Prop := clockAlgebraRow.holds Try.pinned (OpenSpec.ofChange clockAlgebraSpec)

/-- ITS FALSE NEIGHBOUR: 'it returns false'. Refute it at one input. -/
def clockAlgebraWrong : ChangeSpec := { name := "clockAlgebra", fn := fun _ => fun
  | [d1, d2, d3] => { results := [.lit (.bool false)], args := [d1, d2, d3] }
  | _ => none }
def ClockAlgebraWrongFalsely : Prop := clockAlgebraRow.holds Try.pinned (OpenSpec.ofChange clockAlgebraWrong)

/-- 'interleavelaw22.ClockPacks': WHATEVER THE INPUT: true; the input reads as it did. -/
def clockPacksSpec : ChangeSpec := { name := "clockPacks", fn := fun _ => fun
  | [d1, d2, d3] => { results := [.lit (.bool true)], args := [d1, d2, d3] }
  | _ => none }
def clockPacksRow : OpenClaim := { program := "ytngfjoifkolaiaa", sum := "0366b5bb4d75e4ae43ee9dc5fb3b3ad09c06ce04b9bb4ae987604a2a02504121", func := "interleave/interleavelaw22.ClockPacks", spec := "clockPacks", apart := false }
def ClockPacksSaid : Prop := clockPacksRow.holds Try.pinned (OpenSpec.ofChange clockPacksSpec)

/-- ITS FALSE NEIGHBOUR: 'it returns false'. Refute it at one input. -/
def clockPacksWrong : ChangeSpec := { name := "clockPacks", fn := fun _ => fun
  | [d1, d2, d3] => { results := [.lit (.bool false)], args := [d1, d2, d3] }
  | _ => none }
def ClockPacksWrongFalsely : Prop := clockPacksRow.holds Try.pinned (OpenSpec.ofChange clockPacksWrong)

/-- 'interleavelaw22.ClockUnpacks': WHATEVER THE INPUT: true; the input reads as it did. -/
def clockUnpacksSpec : ChangeSpec := { name := "clockUnpacks", fn := fun _ => fun
  | [d1, d2] => { results := [.lit (.bool true)], args := [d1, d2] }
  | _ => none }
def clockUnpacksRow : OpenClaim := { program := "ytngfjoifkolaiaa", sum := "0366b5bb4d75e4ae43ee9dc5fb3b3ad09c06ce04b9bb4ae987604a2a02504121", func := "interleave/interleavelaw22.ClockUnpacks", spec := "clockUnpacks", apart := false }
def ClockUnpacksSaid : Prop := clockUnpacksRow.holds Try.pinned (OpenSpec.ofChange clockUnpacksSpec)

/-- ITS FALSE NEIGHBOUR: 'it returns false'. Refute it at one input. -/
def clockUnpacksWrong : ChangeSpec := { name := "clockUnpacks", fn := fun _ => fun
  | [d1, d2] => { results := [.lit (.bool false)], args := [d1, d2] }
  | _ => none }
def ClockUnpacksWrongFalsely : Prop := clockUnpacksRow.holds Try.pinned (OpenSpec.ofChange clockUnpacksWrong)

/-- 'interleavelaw22.ClockTicks': WHATEVER THE INPUT: true; the input reads as it did. -/
def clockTicksSpec : ChangeSpec := { name := "clockTicks", fn := fun _ => fun
  | [d1, d2] => { results := [.lit (.bool true)], args := [d1, d2] }
  | _ => none }
def clockTicksRow : OpenClaim := { program := "ytngfjoifkolaiaa", sum := "0366b5bb4d75e4ae43ee9dc5fb3b3ad09c06ce04b9bb4ae987604a2a02504121", func := "interleave/interleavelaw22.ClockTicks", spec := "clockTicks", apart := false }
def ClockTicksSaid : Prop := clockTicksRow.holds Try.pinned (OpenSpec.ofChange clockTicksSpec)

/-- ITS FALSE NEIGHBOUR: 'it returns false'. Refute it at one input. -/
def clockTicksWrong : ChangeSpec := { name := "clockTicks", fn := fun _ => fun
  | [d1, d2] => { results := [.lit (.bool false)], args := [d1, d2] }
  | _ => none }
def ClockTicksWrongFalsely : Prop := clockTicksRow.holds Try.pinned (OpenSpec.ofChange clockTicksWrong)

/-- 'interleavelaw22.ClockSaturates': WHATEVER THE INPUT: true; the input reads as it did. -/
def clockSaturatesSpec : ChangeSpec := { name := "clockSaturates", fn := fun _ => fun
  | [d] => { results := [.lit (.bool true)], args := [d] }
  | _ => none }
def clockSaturatesRow : OpenClaim := { program := "ytngfjoifkolaiaa", sum := "0366b5bb4d75e4ae43ee9dc5fb3b3ad09c06ce04b9bb4ae987604a2a02504121", func := "interleave/interleavelaw22.ClockSaturates", spec := "clockSaturates", apart := false }
def ClockSaturatesSaid : Prop := clockSaturatesRow.holds Try.pinned (OpenSpec.ofChange clockSaturatesSpec)

/-- ITS FALSE NEIGHBOUR: 'it returns false'. Refute it at one input. -/
def clockSaturatesWrong : ChangeSpec := { name := "clockSaturates", fn := fun _ => fun
  | [d] => { results := [.lit (.bool false)], args := [d] }
  | _ => none }
def ClockSaturatesWrongFalsely : Prop := clockSaturatesRow.holds Try.pinned (OpenSpec.ofChange clockSaturatesWrong)

/-- 'interleavelaw22.ClockGrows': WHATEVER THE INPUT: true; the input reads as it did. -/
def clockGrowsSpec : ChangeSpec := { name := "clockGrows", fn := fun _ => fun
  | [d1, d2, d3, d4] => { results := [.lit (.bool true)], args := [d1, d2, d3, d4] }
  | _ => none }
def clockGrowsRow : OpenClaim := { program := "ytngfjoifkolaiaa", sum := "0366b5bb4d75e4ae43ee9dc5fb3b3ad09c06ce04b9bb4ae987604a2a02504121", func := "interleave/interleavelaw22.ClockGrows", spec := "clockGrows", apart := false }
def ClockGrowsSaid : Prop := clockGrowsRow.holds Try.pinned (OpenSpec.ofChange clockGrowsSpec)

/-- ITS FALSE NEIGHBOUR: 'it returns false'. Refute it at one input. -/
def clockGrowsWrong : ChangeSpec := { name := "clockGrows", fn := fun _ => fun
  | [d1, d2, d3, d4] => { results := [.lit (.bool false)], args := [d1, d2, d3, d4] }
  | _ => none }
def ClockGrowsWrongFalsely : Prop := clockGrowsRow.holds Try.pinned (OpenSpec.ofChange clockGrowsWrong)

/-- 'interleavelaw24.EpochReads': WHATEVER THE INPUT: true; the input reads as it did. -/
def epochReadsSpec : ChangeSpec := { name := "epochReads", fn := fun _ => fun
  | [d1, d2, d3] => { results := [.lit (.bool true)], args := [d1, d2, d3] }
  | _ => none }
def epochReadsRow : OpenClaim := { program := "ytngfjoifkolaiaa", sum := "0366b5bb4d75e4ae43ee9dc5fb3b3ad09c06ce04b9bb4ae987604a2a02504121", func := "interleave/interleavelaw24.EpochReads", spec := "epochReads", apart := false }
def EpochReadsSaid : Prop := epochReadsRow.holds Try.pinned (OpenSpec.ofChange epochReadsSpec)

/-- ITS FALSE NEIGHBOUR: 'it returns false'. Refute it at one input. -/
def epochReadsWrong : ChangeSpec := { name := "epochReads", fn := fun _ => fun
  | [d1, d2, d3] => { results := [.lit (.bool false)], args := [d1, d2, d3] }
  | _ => none }
def EpochReadsWrongFalsely : Prop := epochReadsRow.holds Try.pinned (OpenSpec.ofChange epochReadsWrong)

/-- 'interleavelaw24.EpochWrites': WHATEVER THE INPUT: true; the input reads as it did. -/
def epochWritesSpec : ChangeSpec := { name := "epochWrites", fn := fun _ => fun
  | [d1, d2, d3] => { results := [.lit (.bool true)], args := [d1, d2, d3] }
  | _ => none }
def epochWritesRow : OpenClaim := { program := "ytngfjoifkolaiaa", sum := "0366b5bb4d75e4ae43ee9dc5fb3b3ad09c06ce04b9bb4ae987604a2a02504121", func := "interleave/interleavelaw24.EpochWrites", spec := "epochWrites", apart := false }
def EpochWritesSaid : Prop := epochWritesRow.holds Try.pinned (OpenSpec.ofChange epochWritesSpec)

/-- ITS FALSE NEIGHBOUR: 'it returns false'. Refute it at one input. -/
def epochWritesWrong : ChangeSpec := { name := "epochWrites", fn := fun _ => fun
  | [d1, d2, d3] => { results := [.lit (.bool false)], args := [d1, d2, d3] }
  | _ => none }
def EpochWritesWrongFalsely : Prop := epochWritesRow.holds Try.pinned (OpenSpec.ofChange epochWritesWrong)

/-- 'interleavelaw24.EpochSequences': WHATEVER THE INPUT: true; the input reads as it did. -/
def epochSequencesSpec : ChangeSpec := { name := "epochSequences", fn := fun _ => fun
  | [d] => { results := [.lit (.bool true)], args := [d] }
  | _ => none }
def epochSequencesRow : OpenClaim := { program := "ytngfjoifkolaiaa", sum := "0366b5bb4d75e4ae43ee9dc5fb3b3ad09c06ce04b9bb4ae987604a2a02504121", func := "interleave/interleavelaw24.EpochSequences", spec := "epochSequences", apart := false }
def EpochSequencesSaid : Prop := epochSequencesRow.holds Try.pinned (OpenSpec.ofChange epochSequencesSpec)

/-- ITS FALSE NEIGHBOUR: 'it returns false'. Refute it at one input. -/
def epochSequencesWrong : ChangeSpec := { name := "epochSequences", fn := fun _ => fun
  | [d] => { results := [.lit (.bool false)], args := [d] }
  | _ => none }
def EpochSequencesWrongFalsely : Prop := epochSequencesRow.holds Try.pinned (OpenSpec.ofChange epochSequencesWrong)

/-- 'interleavelaw24.EpochCompact': WHATEVER THE INPUT: true; the input reads as it did. -/
def epochCompactSpec : ChangeSpec := { name := "epochCompact", fn := fun _ => fun
  | [d1, d2] => { results := [.lit (.bool true)], args := [d1, d2] }
  | _ => none }
def epochCompactRow : OpenClaim := { program := "ytngfjoifkolaiaa", sum := "0366b5bb4d75e4ae43ee9dc5fb3b3ad09c06ce04b9bb4ae987604a2a02504121", func := "interleave/interleavelaw24.EpochCompact", spec := "epochCompact", apart := false }
def EpochCompactSaid : Prop := epochCompactRow.holds Try.pinned (OpenSpec.ofChange epochCompactSpec)

/-- ITS FALSE NEIGHBOUR: 'it returns false'. Refute it at one input. -/
def epochCompactWrong : ChangeSpec := { name := "epochCompact", fn := fun _ => fun
  | [d1, d2] => { results := [.lit (.bool false)], args := [d1, d2] }
  | _ => none }
def EpochCompactWrongFalsely : Prop := epochCompactRow.holds Try.pinned (OpenSpec.ofChange epochCompactWrong)

/- THE SECOND FORM. 'bulk': how many values and letters a reading holds, each counted each time it is reached (what is shared counts as often as it is met; a slice's spare places count too). A statement '..UptoSaid' is the law's where the arguments, and the package variables that the reading takes, are together of bulk at most 1048576: NARROWER than '..Said'. Prove '..Said' where nothing that the law and all that it calls make is longer than what came in: it says more and counts as full. Else prove '..UptoSaid'. A law counts once. -/
mutual
def uptoBulk {H : Type} : DataW H → Nat
  | .lit (.string bytes) => bytes.length + 1
  | .lit _ => 1
  | .nil => 1
  | .ptr d => uptoBulk d + 1
  | .slice elems spare => uptoBulkAll elems + uptoBulkAll spare + 1
  | .agg parts => uptoBulkAll parts + 1
  | .iface _ d => uptoBulk d + 1
  | .map entries => uptoBulkEntries entries + 1
  | .held _ => 1
def uptoBulkAll {H : Type} : List (DataW H) → Nat
  | [] => 0
  | d :: r => uptoBulk d + uptoBulkAll r
def uptoBulkEntries {H : Type} : List (Lit × DataW H) → Nat
  | [] => 0
  | x :: r => uptoBulkEntry x + uptoBulkEntries r
def uptoBulkEntry {H : Type} : Lit × DataW H → Nat
  | (.string bytes, d) => bytes.length + uptoBulk d + 1
  | (_, d) => uptoBulk d + 1
 end
def uptoSmall : (H : Type) → List (DataW H) → Bool := fun _ ds => decide (uptoBulkAll ds ≤ 1048576)
def OpenSpec.upto (s : _root_.Go.ChangeSpec) : _root_.Go.OpenSpec := { _root_.Go.OpenSpec.ofChange s with cond := some uptoSmall }

/-- 'interleavelaw22.ClockEntries', WHERE WHAT IT READS IS OF BULK AT MOST 1048576: true; the input reads as it did. -/
def clockEntriesUptoRow : OpenClaim := { program := "ytngfjoifkolaiaa", sum := "0366b5bb4d75e4ae43ee9dc5fb3b3ad09c06ce04b9bb4ae987604a2a02504121", func := "interleave/interleavelaw22.ClockEntries", spec := "clockEntries", apart := false, narrowed := true }
def ClockEntriesUptoSaid : Prop := clockEntriesUptoRow.holds Try.pinned (OpenSpec.upto clockEntriesSpec)

/-- 'interleavelaw22.ClockJoins', WHERE WHAT IT READS IS OF BULK AT MOST 1048576: true; the input reads as it did. -/
def clockJoinsUptoRow : OpenClaim := { program := "ytngfjoifkolaiaa", sum := "0366b5bb4d75e4ae43ee9dc5fb3b3ad09c06ce04b9bb4ae987604a2a02504121", func := "interleave/interleavelaw22.ClockJoins", spec := "clockJoins", apart := false, narrowed := true }
def ClockJoinsUptoSaid : Prop := clockJoinsUptoRow.holds Try.pinned (OpenSpec.upto clockJoinsSpec)

/-- 'interleavelaw22.ClockCompares', WHERE WHAT IT READS IS OF BULK AT MOST 1048576: true; the input reads as it did. -/
def clockComparesUptoRow : OpenClaim := { program := "ytngfjoifkolaiaa", sum := "0366b5bb4d75e4ae43ee9dc5fb3b3ad09c06ce04b9bb4ae987604a2a02504121", func := "interleave/interleavelaw22.ClockCompares", spec := "clockCompares", apart := false, narrowed := true }
def ClockComparesUptoSaid : Prop := clockComparesUptoRow.holds Try.pinned (OpenSpec.upto clockComparesSpec)

/-- 'interleavelaw22.ClockCovers', WHERE WHAT IT READS IS OF BULK AT MOST 1048576: true; the input reads as it did. -/
def clockCoversUptoRow : OpenClaim := { program := "ytngfjoifkolaiaa", sum := "0366b5bb4d75e4ae43ee9dc5fb3b3ad09c06ce04b9bb4ae987604a2a02504121", func := "interleave/interleavelaw22.ClockCovers", spec := "clockCovers", apart := false, narrowed := true }
def ClockCoversUptoSaid : Prop := clockCoversUptoRow.holds Try.pinned (OpenSpec.upto clockCoversSpec)

/-- 'interleavelaw22.ClockBounds', WHERE WHAT IT READS IS OF BULK AT MOST 1048576: true; the input reads as it did. -/
def clockBoundsUptoRow : OpenClaim := { program := "ytngfjoifkolaiaa", sum := "0366b5bb4d75e4ae43ee9dc5fb3b3ad09c06ce04b9bb4ae987604a2a02504121", func := "interleave/interleavelaw22.ClockBounds", spec := "clockBounds", apart := false, narrowed := true }
def ClockBoundsUptoSaid : Prop := clockBoundsUptoRow.holds Try.pinned (OpenSpec.upto clockBoundsSpec)

/-- 'interleavelaw22.ClockAlgebra', WHERE WHAT IT READS IS OF BULK AT MOST 1048576: true; the input reads as it did. -/
def clockAlgebraUptoRow : OpenClaim := { program := "ytngfjoifkolaiaa", sum := "0366b5bb4d75e4ae43ee9dc5fb3b3ad09c06ce04b9bb4ae987604a2a02504121", func := "interleave/interleavelaw22.ClockAlgebra", spec := "clockAlgebra", apart := false, narrowed := true }
def ClockAlgebraUptoSaid : Prop := clockAlgebraUptoRow.holds Try.pinned (OpenSpec.upto clockAlgebraSpec)

/-- 'interleavelaw22.ClockPacks', WHERE WHAT IT READS IS OF BULK AT MOST 1048576: true; the input reads as it did. -/
def clockPacksUptoRow : OpenClaim := { program := "ytngfjoifkolaiaa", sum := "0366b5bb4d75e4ae43ee9dc5fb3b3ad09c06ce04b9bb4ae987604a2a02504121", func := "interleave/interleavelaw22.ClockPacks", spec := "clockPacks", apart := false, narrowed := true }
def ClockPacksUptoSaid : Prop := clockPacksUptoRow.holds Try.pinned (OpenSpec.upto clockPacksSpec)

/-- 'interleavelaw22.ClockUnpacks', WHERE WHAT IT READS IS OF BULK AT MOST 1048576: true; the input reads as it did. -/
def clockUnpacksUptoRow : OpenClaim := { program := "ytngfjoifkolaiaa", sum := "0366b5bb4d75e4ae43ee9dc5fb3b3ad09c06ce04b9bb4ae987604a2a02504121", func := "interleave/interleavelaw22.ClockUnpacks", spec := "clockUnpacks", apart := false, narrowed := true }
def ClockUnpacksUptoSaid : Prop := clockUnpacksUptoRow.holds Try.pinned (OpenSpec.upto clockUnpacksSpec)

/-- 'interleavelaw22.ClockTicks', WHERE WHAT IT READS IS OF BULK AT MOST 1048576: true; the input reads as it did. -/
def clockTicksUptoRow : OpenClaim := { program := "ytngfjoifkolaiaa", sum := "0366b5bb4d75e4ae43ee9dc5fb3b3ad09c06ce04b9bb4ae987604a2a02504121", func := "interleave/interleavelaw22.ClockTicks", spec := "clockTicks", apart := false, narrowed := true }
def ClockTicksUptoSaid : Prop := clockTicksUptoRow.holds Try.pinned (OpenSpec.upto clockTicksSpec)

/-- 'interleavelaw22.ClockSaturates', WHERE WHAT IT READS IS OF BULK AT MOST 1048576: true; the input reads as it did. -/
def clockSaturatesUptoRow : OpenClaim := { program := "ytngfjoifkolaiaa", sum := "0366b5bb4d75e4ae43ee9dc5fb3b3ad09c06ce04b9bb4ae987604a2a02504121", func := "interleave/interleavelaw22.ClockSaturates", spec := "clockSaturates", apart := false, narrowed := true }
def ClockSaturatesUptoSaid : Prop := clockSaturatesUptoRow.holds Try.pinned (OpenSpec.upto clockSaturatesSpec)

/-- 'interleavelaw22.ClockGrows', WHERE WHAT IT READS IS OF BULK AT MOST 1048576: true; the input reads as it did. -/
def clockGrowsUptoRow : OpenClaim := { program := "ytngfjoifkolaiaa", sum := "0366b5bb4d75e4ae43ee9dc5fb3b3ad09c06ce04b9bb4ae987604a2a02504121", func := "interleave/interleavelaw22.ClockGrows", spec := "clockGrows", apart := false, narrowed := true }
def ClockGrowsUptoSaid : Prop := clockGrowsUptoRow.holds Try.pinned (OpenSpec.upto clockGrowsSpec)

/-- 'interleavelaw24.EpochReads', WHERE WHAT IT READS IS OF BULK AT MOST 1048576: true; the input reads as it did. -/
def epochReadsUptoRow : OpenClaim := { program := "ytngfjoifkolaiaa", sum := "0366b5bb4d75e4ae43ee9dc5fb3b3ad09c06ce04b9bb4ae987604a2a02504121", func := "interleave/interleavelaw24.EpochReads", spec := "epochReads", apart := false, narrowed := true }
def EpochReadsUptoSaid : Prop := epochReadsUptoRow.holds Try.pinned (OpenSpec.upto epochReadsSpec)

/-- 'interleavelaw24.EpochWrites', WHERE WHAT IT READS IS OF BULK AT MOST 1048576: true; the input reads as it did. -/
def epochWritesUptoRow : OpenClaim := { program := "ytngfjoifkolaiaa", sum := "0366b5bb4d75e4ae43ee9dc5fb3b3ad09c06ce04b9bb4ae987604a2a02504121", func := "interleave/interleavelaw24.EpochWrites", spec := "epochWrites", apart := false, narrowed := true }
def EpochWritesUptoSaid : Prop := epochWritesUptoRow.holds Try.pinned (OpenSpec.upto epochWritesSpec)

/-- 'interleavelaw24.EpochSequences', WHERE WHAT IT READS IS OF BULK AT MOST 1048576: true; the input reads as it did. -/
def epochSequencesUptoRow : OpenClaim := { program := "ytngfjoifkolaiaa", sum := "0366b5bb4d75e4ae43ee9dc5fb3b3ad09c06ce04b9bb4ae987604a2a02504121", func := "interleave/interleavelaw24.EpochSequences", spec := "epochSequences", apart := false, narrowed := true }
def EpochSequencesUptoSaid : Prop := epochSequencesUptoRow.holds Try.pinned (OpenSpec.upto epochSequencesSpec)

/-- 'interleavelaw24.EpochCompact', WHERE WHAT IT READS IS OF BULK AT MOST 1048576: true; the input reads as it did. -/
def epochCompactUptoRow : OpenClaim := { program := "ytngfjoifkolaiaa", sum := "0366b5bb4d75e4ae43ee9dc5fb3b3ad09c06ce04b9bb4ae987604a2a02504121", func := "interleave/interleavelaw24.EpochCompact", spec := "epochCompact", apart := false, narrowed := true }
def EpochCompactUptoSaid : Prop := epochCompactUptoRow.holds Try.pinned (OpenSpec.upto epochCompactSpec)

end Rows
end Go.Proofs.Ytngfjoifkolaiaa
