/-
  How a slice of bools that comes in is opened. No condition.
-/
import Derived.Test.YtngfjoifkolaiaaEpOpen
import Derived.Test.YtngfjoifkolaiaaLawEpochCompact
import Derived.Deep.Slices
namespace Go.Proofs.Ytngfjoifkolaiaa
open Go.ChangeShapes Go.WideShapes Go.ChangeAt Go.RowKit Go.Joins

theorem choose_list {α : Type} (z : α) (P : Nat → α → Prop) : ∀ n : Nat, (∀ i, i < n → ∃ a, P i a) → ∃ l : List α, l.length = n ∧ ∀ i, i < n → P i (l.getD i z)
  | 0, _ => ⟨[], rfl, fun i h => absurd h (by omega)⟩
  | n + 1, h => by
    obtain ⟨l, hl, hp⟩ := choose_list z P n (fun i hi => h i (by omega))
    obtain ⟨a, ha⟩ := h n (by omega)
    refine ⟨l ++ [a], by simp [hl], fun i hi => ?_⟩
    rw [List.getD_eq_getElem?_getD]
    rcases Nat.lt_or_ge i n with h1 | h1
    · rw [List.getElem?_append_left (by omega), ← List.getD_eq_getElem?_getD]; exact hp i h1
    · have : i = n := by omega
      subst this
      rw [List.getElem?_append_right (by omega), hl]; simpa using ha

theorem rdB_of_trod {H : Type} {enc : TypeId × Value → H} {W : World} {base : Nat} {sp : Nat → Bool} {hd : Bool} {fuel : Nat} {v : Value} {x : DataW H × List MemPlace}
    (h : DataW.trod enc Try.prog W base sp hd fuel 55 [v] = some x) (hsp : ∀ b, sp b = true) : ∃ A n c bs, v = .slice A n c ∧ RdB W A n c bs := by
  rcases Go.Deep.open_slice Try.underlying55 h with ⟨hcs, _⟩ | ⟨a, len, cap, m, n, D, Pl, hcs, hb, hl, hm, hmm, _, hi⟩
  · simp only [List.cons.injEq, and_true] at hcs
    exact ⟨none, 0, 0, [], hcs, rfl, Nat.le_refl _, by unfold maxLen; omega, fun h => absurd h (by omega)⟩
  · simp only [List.cons.injEq, and_true] at hcs
    have c1 : Try.prog.cellsOf 4 = 1 := by kernel_rfl
    rw [hsp, if_pos rfl] at hmm
    have hb1 : ∀ i, i < len → ∃ b : Bool, W.cell? (a.add i) = some (.bool b) := by
      intro i hil
      obtain ⟨cs', hc, ht⟩ := hi i (by omega)
      obtain ⟨b, rfl, _⟩ := DataW.trod_bool Try.underlying4 ht
      rw [c1] at hc
      obtain ⟨_, _, hat⟩ := World.cells?_some hc
      have := hat 0 (by omega)
      simp only [Nat.mul_one, Addr.add, if_true] at this
      exact ⟨b, by simpa [Addr.add] using this⟩
    obtain ⟨bs, hbl, hbc⟩ := choose_list false (fun i b => W.cell? (a.add i) = some (.bool b)) len hb1
    refine ⟨some a, len, cap, bs, hcs, hbl, hl, hm, fun hn => ⟨a, rfl, ?_, hbc⟩⟩
    have := World.block_lt_of_cell? W _ (hbc 0 hn)
    simpa [Addr.add] using this

end Go.Proofs.Ytngfjoifkolaiaa
