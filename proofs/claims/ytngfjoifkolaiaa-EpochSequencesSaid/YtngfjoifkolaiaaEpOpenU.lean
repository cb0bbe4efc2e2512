/-
  How a slice of arrays of three bytes that comes in is opened. No condition.
-/
import Derived.Test.YtngfjoifkolaiaaEpOpenB
import Derived.Test.YtngfjoifkolaiaaEpSeq
import Derived.Deep.Slices
import Derived.OpenShut
namespace Go.Proofs.Ytngfjoifkolaiaa
open Go.ChangeShapes Go.WideShapes Go.ChangeAt Go.RowKit Go.Joins

theorem wf_u8 {x : Int} (h : (Lit.int .u8 x).wf = true) : 0 ≤ x ∧ x ≤ 255 :=
  ⟨of_decide_eq_true (Bool.and_eq_true_iff.1 h).1, of_decide_eq_true (Bool.and_eq_true_iff.1 h).2⟩

theorem rdU3_of_trod {H : Type} {enc : TypeId × Value → H} {W : World} {base : Nat} {sp : Nat → Bool} {hd : Bool} {fuel : Nat} {v : Value} {x : DataW H × List MemPlace}
    (h : DataW.trod enc Try.prog W base sp hd fuel 51 [v] = some x) (hsp : ∀ b, sp b = true) : ∃ A n c xs, v = .slice A n c ∧ RdU3 W A n c xs := by
  rcases Go.Deep.open_slice Try.underlying51 h with ⟨hcs, _⟩ | ⟨a, len, cap, m, n, D, Pl, hcs, hb, hl, hm, hmm, _, hi⟩
  · simp only [List.cons.injEq, and_true] at hcs
    exact ⟨none, 0, 0, [], hcs, rfl, Nat.le_refl _, by unfold maxLen; omega, by simp, fun h => absurd h (by omega)⟩
  · simp only [List.cons.injEq, and_true] at hcs
    have c3 : Try.prog.cellsOf 53 = 3 := by kernel_rfl
    have c1 : Try.prog.cellsOf 5 = 1 := by kernel_rfl
    rw [hsp, if_pos rfl] at hmm
    have hb1 : ∀ i, i < len → ∃ t : Int × Int × Int, ((0 ≤ t.1 ∧ t.1 ≤ 255) ∧ (0 ≤ t.2.1 ∧ t.2.1 ≤ 255) ∧ (0 ≤ t.2.2 ∧ t.2.2 ≤ 255)) ∧ W.cell? (a.add (i * 3)) = some (.int .u8 t.1) ∧ W.cell? (a.add (i * 3 + 1)) = some (.int .u8 t.2.1) ∧ W.cell? (a.add (i * 3 + 2)) = some (.int .u8 t.2.2) := by
      intro i hil
      obtain ⟨cs', hc, ht⟩ := hi i (by omega)
      rw [c3] at hc
      obtain ⟨_, hcl, hat⟩ := World.cells?_some hc
      match cs', hcl with
      | [p0, p1, p2], _ =>
        obtain ⟨ys, k, _, _, _, hlen, hg⟩ := DataW.trod_array Try.underlying53 ht
        have h0 := hg 0 (by omega)
        have h1 := hg 1 (by omega)
        have h2 := hg 2 (by omega)
        rw [List.getElem?_eq_getElem (by omega)] at h0 h1 h2
        simp only [c1] at h0 h1 h2
        obtain ⟨b0, e0, _, w0⟩ := DataW.trod_int Try.underlying5 h0
        obtain ⟨b1, e1, _, w1⟩ := DataW.trod_int Try.underlying5 h1
        obtain ⟨b2, e2, _, w2⟩ := DataW.trod_int Try.underlying5 h2
        simp at e0 e1 e2
        subst e0 e1 e2
        have q0 := hat 0 (by omega)
        have q1 := hat 1 (by omega)
        have q2 := hat 2 (by omega)
        rw [Go.Deep.add_add] at q0 q1 q2
        exact ⟨(b0, b1, b2), ⟨wf_u8 w0, wf_u8 w1, wf_u8 w2⟩, by simpa using q0, by simpa using q1, by simpa using q2⟩
    obtain ⟨bs, hbl, hbc⟩ := choose_list (0, 0, 0) (fun i (t : Int × Int × Int) => ((0 ≤ t.1 ∧ t.1 ≤ 255) ∧ (0 ≤ t.2.1 ∧ t.2.1 ≤ 255) ∧ (0 ≤ t.2.2 ∧ t.2.2 ≤ 255)) ∧ W.cell? (a.add (i * 3)) = some (.int .u8 t.1) ∧ W.cell? (a.add (i * 3 + 1)) = some (.int .u8 t.2.1) ∧ W.cell? (a.add (i * 3 + 2)) = some (.int .u8 t.2.2)) len hb1
    refine ⟨some a, len, cap, bs, hcs, hbl, hl, hm, fun y hy => ?_, fun hn => ⟨a, rfl, ?_, fun j hj => (hbc j hj).2⟩⟩
    · obtain ⟨j, hj, rfl⟩ := List.getElem_of_mem hy
      have := (hbc j (by omega)).1
      simpa [List.getD_eq_getElem?_getD, List.getElem?_eq_getElem hj] using this
    · have := World.block_lt_of_cell? W _ (hbc 0 hn).2.1
      simpa [Addr.add] using this

end Go.Proofs.Ytngfjoifkolaiaa
