/-
  What spare and kept of the statements on clocks do. No condition.
-/
import Derived.Test.YtngfjoifkolaiaaClkVals
namespace Go.Proofs.Ytngfjoifkolaiaa
open Go.RowKit

theorem RdI.src2 {w : World} {A : Option Addr} {n c : Nat} {xs : List Int} (h : RdI w A n c xs) : ∀ ad, A = some ad → ∀ j u, (ints xs)[j]? = some u → w.cell? (ad.add j) = some u := by
  intro ad ha j u hu
  have hp : 0 < (ints xs).length := by
    rcases Nat.lt_or_ge j (ints xs).length with h1 | h1
    · omega
    · rw [List.getElem?_eq_none h1] at hu; cases hu
  obtain ⟨ad', h1, h2⟩ := h.src hp
  rw [ha] at h1
  injection h1 with h1
  subst h1
  exact h2 j u hu
theorem RdI.none2 {w : World} {A : Option Addr} {n c : Nat} {xs : List Int} (h : RdI w A n c xs) : A = none → n = 0 ∧ c = 0 := by
  intro ha
  refine ⟨?_, h.2.2.2.2.2 ha⟩
  rcases Nat.eq_zero_or_pos n with h0 | h0
  · exact h0
  · obtain ⟨ad, h1, _⟩ := h.2.2.2.2.1 h0
    rw [ha] at h1; cases h1

/-- a copy of xs at block g with 77 behind it, in a row of two cells more -/
def SpareAt (w : World) (base g n : Nat) (xs : List Int) : Prop := w.ownsRow base 3 1 (.slice (some ⟨g, 0, none⟩) (n + 1) (n + 2)) (n + 1) (ints (xs ++ [77]))
theorem SpareAt.rd {w : World} {base g n : Nat} {xs : List Int} (h : SpareAt w base g n xs) (hi : InI xs) : RdI w (some ⟨g, 0, none⟩) n (n + 2) xs := by
  have hl : xs.length = n := by have := h.1; simp [ints] at this; omega
  rcases h.2 with ⟨h1, _⟩ | ⟨g', cap, cur, h1, _, hg, _, hm, _, _⟩
  · simp at h1
  · simp only [Value.slice.injEq, Option.some.injEq, Addr.mk.injEq, and_true, true_and] at h1
    obtain ⟨rfl, rfl⟩ := h1
    refine ⟨hl, by omega, hm, hi, fun hn => ⟨_, rfl, (Array.getElem?_eq_some_iff.1 hg).1, fun j hj => ?_⟩, fun h => by cases h⟩
    rw [add_zero_addr, h.cellAt j (by omega), ints_get, List.getElem?_append_left (by omega), List.getElem?_eq_getElem (by omega)]
    simp [List.getElem?_eq_getElem (show j < xs.length by omega)]
theorem SpareAt.last {w : World} {base g n : Nat} {xs : List Int} (h : SpareAt w base g n xs) : w.cell? ⟨g, n, none⟩ = some (.int .i64 77) := by
  have hl : xs.length = n := by have := h.1; simp [ints] at this; omega
  rw [h.cellAt n (by omega), ints_get, ← hl, List.getElem?_append_right (Nat.le_refl _)]
  simp
theorem SpareAt.lt {w : World} {base g n : Nat} {xs : List Int} (h : SpareAt w base g n xs) : base ≤ g ∧ g < w.heap.size := World.ownsRow.lt h g rfl
theorem SpareAt.below {w w' : World} {base g n : Nat} {xs : List Int} (h : SpareAt w base g n xs) (hb : Below w.heap.size w w') : SpareAt w' base g n xs :=
  World.ownsRow.kept h (w' := w') (row := none) ⟨hb.os, hb.tape, hb.output, hb.size, fun k hk _ => hb.block k hk⟩ (.inr (by simp [Value.ownBlock]))

set_option maxHeartbeats 1000000 in
theorem spare_any (A : Option Addr) (n c : Nat) (xs : List Int) (w : World) (h : RdI w A n c xs) (hn : n ≤ 65536) :
    Calls Try.prog 22 #[.slice A n c] w fun e w' => e = .returned (.slice (some ⟨w.heap.size, 0, none⟩) n (n + 2)) ∧ SpareAt w' w.heap.size w.heap.size n xs ∧ Below w.heap.size w w' := by
  obtain ⟨i0, hi, hz0, hz1, hz2⟩ := info_parts int_info
  have H := Lib.hid h; clear h
  go_enter Try.func22, Try.ntmps22
  go_wp2_with (first
    | (at_make
       refine wpList_make_own _ rfl _ _ 22 rfl w.heap.size 3 i0 (.int .i64 0) 1 Try.underlying22 hi hz0 hz1 _ _ _ (n + 2) rfl rfl (by omega) (by rw [hz2]; omega) (by unfold maxLen; omega) (Nat.le_refl _) ?_
       intro w1 hown1 hgrow1
       have hb1 : Below w.heap.size w w1 := (Below.refl _ _).grown hgrow1 (Nat.le_refl _) (by simp)
       have O1 := Lib.hid hown1
       have H1 := Lib.hid (H.out.below hb1)
       clear hown1 hgrow1)
    | (at_builtin
       refine wpList_append_fits_any _ rfl (.tmp 6) (.tmp 7) 22 rfl w.heap.size 3 i0 1 Try.underlying22 hi hz1 w.heap.size 0 (n + 2) [] rfl O1.out A n c (ints xs) rfl (by rw [ints_length, H1.out.1]; omega) H1.out.none2 H1.out.src2 (ints_one xs) (by omega) ?_
       intro w2 hown2 hgrow2
       have hb2 : Below w.heap.size w w2 := hb1.grown hgrow2 hb1.size (by simp)
       have O2 := Lib.hid hown2
       simp only [Nat.zero_add, List.nil_append] at O2
       clear hown2 hgrow2)
    | (at_builtin
       refine wpList_append_fits_any _ rfl (.tmp 8) (.tmp 9) 22 rfl w.heap.size 3 i0 1 Try.underlying22 hi hz1 w.heap.size n (n + 2) (ints xs) rfl (O2.out.alloc _) (some ⟨w2.heap.size, 0, none⟩) 1 1 (ints [77]) rfl rfl (by simp) (RdI.lit w2 3 [77] (InI_lit (by decide)) (by simp)).src2 (ints_one _) (by omega) ?_
       intro w3 hown3 hgrow3
       have hb3 : Below w.heap.size w w3 := (bal hb2 _).grown hgrow3 (bal hb2 _).size (by simp)
       have O3 := Lib.hid hown3
       rw [← ints_append] at O3
       clear hown3 hgrow3))
  go_ret
  exact ⟨rfl, O3.out, hb3⟩

set_option maxHeartbeats 1000000 in
theorem kept_yes (g base : Nat) (A : Option Addr) (n c : Nat) (xs : List Int) (w : World) (h : RdI w A n c xs) (s : SpareAt w base g n xs) (hn : n ≤ 65536) :
    Calls Try.prog 26 #[.slice (some ⟨g, 0, none⟩) n (n + 2), .slice A n c] w fun e w' => e = .returned (.bool true) ∧ Below w.heap.size w w' := by
  have hlast := s.last
  have H := Lib.hid h
  have S := Lib.hid s
  clear h s
  go_enter Try.func26, Try.ntmps26
  go_wp2_with fail
  refine (EqualB_any _ n (n + 2) xs A n c xs w (S.out.rd H.out.inI) H.out).mono ?_
  rintro e w1 ⟨rfl, hb1⟩
  rw [show eqL xs xs = true from by simp [eqL]]
  have hlast1 : w1.cell? ⟨g, n, none⟩ = some (.int .i64 77) := (hb1.cell (p := ⟨g, n, none⟩) S.out.lt.2).trans hlast
  clear hlast
  go_wp2
  go_ret
  exact ⟨rfl, hb1⟩

end Go.Proofs.Ytngfjoifkolaiaa
