/-
  How a shadow that comes in by value is opened: four numbers and a slice that reads as a list. No condition.
-/
import Derived.Test.YtngfjoifkolaiaaRows
import Derived.Test.YtngfjoifkolaiaaClkBase
import Derived.WalkKit
import Derived.ProofKit
import Derived.OpenShut
import Derived.Lib.SmallJoins
namespace Go.Proofs.Ytngfjoifkolaiaa
open Go.ChangeShapes Go.WideShapes Go.ChangeAt Go.RowKit Go.Joins

theorem wf_i64 {x : Int} (h : (Lit.int .i64 x).wf = true) : -9223372036854775808 ≤ x ∧ x ≤ 9223372036854775807 :=
  ⟨of_decide_eq_true (Bool.and_eq_true_iff.1 h).1, of_decide_eq_true (Bool.and_eq_true_iff.1 h).2⟩

/-- a slice of integers that came in reads as a list -/
theorem rd_of_trod {H : Type} {enc : TypeId × Value → H} {W : World} {base : Nat} {sp : Nat → Bool} {hd : Bool} {fuel : Nat} {v : Value} {x : DataW H × List MemPlace}
    (h : DataW.trod enc Try.prog W base sp hd fuel 22 [v] = some x) (hsp : ∀ b, sp b = true) : ∃ A n c xs, v = .slice A n c ∧ RdI W A n c xs := by
  rcases open_ints Try.underlying22 Try.underlying3 (by kernel_rfl) h with ⟨hcs, _⟩ | ⟨ad, l, c, zs, hcs, _, hl, hm, hz, _, hcell, hwz⟩
  · simp only [List.cons.injEq, and_true] at hcs
    exact ⟨none, 0, 0, [], hcs, RdI.nil_ W⟩
  · simp only [List.cons.injEq, and_true] at hcs
    have hzl : zs.length = c := by simpa [hsp] using hz
    refine ⟨some ad, l, c, zs.take l, hcs, by rw [List.length_take]; omega, hl, hm, fun y hy => wf_i64 (hwz y (List.mem_of_mem_take hy)), fun hn => ⟨ad, rfl, ?_, fun j hj => ?_⟩, fun h => by cases h⟩
    · have := World.block_lt_of_cell? W _ (hcell 0 (by omega))
      simpa [Addr.add] using this
    · rw [hcell j (by omega)]
      simp [hj]

theorem epoch_of_trod {H : Type} {enc : TypeId × Value → H} {W : World} {base : Nat} {sp : Nat → Bool} {hd : Bool} {fuel : Nat} {a b : Value} {x : DataW H × List MemPlace}
    (h : DataW.trod enc Try.prog W base sp hd fuel 31 [a, b] = some x) : ∃ s t : Int, a = .int .i64 s ∧ b = .int .i64 t ∧ (Lit.int .i64 s).wf = true ∧ (Lit.int .i64 t).wf = true := by
  obtain ⟨xs, n, _, _, _, hlen, hf⟩ := DataW.trod_struct Try.underlying31 h
  have h0 := hf 0 _ rfl
  have h1 := hf 1 _ rfl
  have e0 : xs[0]? = some (xs[0]'(by rw [hlen]; simp)) := List.getElem?_eq_getElem _
  have e1 : xs[1]? = some (xs[1]'(by rw [hlen]; simp)) := List.getElem?_eq_getElem _
  rw [e0] at h0
  rw [e1] at h1
  have h0' : DataW.trod enc Try.prog W base sp hd n 3 [a] = some (xs[0]'(by rw [hlen]; simp)) := h0
  have h1' : DataW.trod enc Try.prog W base sp hd n 3 [b] = some (xs[1]'(by rw [hlen]; simp)) := h1
  obtain ⟨s, es, _, ws⟩ := DataW.trod_int Try.underlying3 h0'
  obtain ⟨t, et, _, wt⟩ := DataW.trod_int Try.underlying3 h1'
  simp only [List.cons.injEq, and_true] at es et
  exact ⟨s, t, es, et, ws, wt⟩

theorem open_shadow {H : Type} {enc : TypeId × Value → H} {W : World} {r : Reach} {b0 base : Nat} {sp : Nat → Bool} {hd : Bool} {v : Value} {d : DataW H} {p : List MemPlace}
    (hv : Value.okWide Try.prog W r b0 45 v) (h : DataW.Trod enc Try.prog W base sp hd 45 v d p) (hsp : ∀ b, sp b = true) :
    ∃ (wt wh rt rh : Int) (A : Option Addr) (n c : Nat) (xs : List Int), v = .agg #[.int .i64 wt, .int .i64 wh, .int .i64 rt, .int .i64 rh, .slice A n c] ∧ RdI W A n c xs ∧ (-9223372036854775808 ≤ rt ∧ rt ≤ 9223372036854775807) := by
  obtain ⟨cs, rfl, hsz⟩ := okWide_struct Try.underlying45 hv
  obtain ⟨l⟩ := cs
  have hl5 : l.length = 5 := hsz.trans (by kernel_rfl)
  match l, hl5 with
  | [c0, c1, c2, c3, c4], _ =>
    obtain ⟨fuel, hf⟩ := h
    obtain ⟨ys, n, _, _, _, hlen, hg⟩ := DataW.trod_struct Try.underlying45 hf
    have h0 := hg 0 _ rfl
    have h1 := hg 1 _ rfl
    have h2 := hg 2 _ rfl
    have e0 : ys[0]? = some (ys[0]'(by rw [hlen]; simp)) := List.getElem?_eq_getElem _
    have e1 : ys[1]? = some (ys[1]'(by rw [hlen]; simp)) := List.getElem?_eq_getElem _
    have e2 : ys[2]? = some (ys[2]'(by rw [hlen]; simp)) := List.getElem?_eq_getElem _
    rw [e0] at h0
    rw [e1] at h1
    rw [e2] at h2
    have ce : Try.prog.cellsOf 31 = 2 := by kernel_rfl
    have cs : Try.prog.cellsOf 22 = 1 := by kernel_rfl
    have h0' : DataW.trod enc Try.prog W base sp hd n 31 [c0, c1] = some (ys[0]'(by rw [hlen]; simp)) := by simpa [Value.cells, ce] using h0
    have h1' : DataW.trod enc Try.prog W base sp hd n 31 [c2, c3] = some (ys[1]'(by rw [hlen]; simp)) := by simpa [Value.cells, ce] using h1
    have h2' : DataW.trod enc Try.prog W base sp hd n 22 [c4] = some (ys[2]'(by rw [hlen]; simp)) := by simpa [Value.cells, cs] using h2
    obtain ⟨wt, wh, rfl, rfl, _, _⟩ := epoch_of_trod h0'
    obtain ⟨rt, rh, rfl, rfl, wrt, _⟩ := epoch_of_trod h1'
    obtain ⟨A, m, c, xs, rfl, hrd⟩ := rd_of_trod h2' hsp
    exact ⟨wt, wh, rt, rh, A, m, c, xs, rfl, hrd, wf_i64 wrt⟩

end Go.Proofs.Ytngfjoifkolaiaa
