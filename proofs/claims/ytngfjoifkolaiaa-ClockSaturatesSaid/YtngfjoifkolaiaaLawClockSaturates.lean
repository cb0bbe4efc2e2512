/-
  The statement ClockSaturates returns true for every input: the walk. No condition.
-/
import Derived.Test.YtngfjoifkolaiaaClkVals
namespace Go.Proofs.Ytngfjoifkolaiaa
open Go.RowKit

theorem made4 (w : World) : (Instr.makeSlice 22 (.int .i64 4) (.int .i64 4)).run Try.prog w = .ok (.slice (some ⟨w.heap.size, 0, none⟩) 4 4) (w.alloc (.cells #[.int .i64 0, .int .i64 0, .int .i64 0, .int .i64 0] 3)) := by kernel_rfl

set_option maxHeartbeats 2000000 in
theorem ClockSaturates_at (T : Nat) (hT : T < 4) (w : World) (xs ys : List Int)
    (hx : #[Value.int .i64 0, Value.int .i64 0, Value.int .i64 0, Value.int .i64 0].setIfInBounds T (.int .i64 9223372036854775807) = (ints xs).toArray)
    (hy : Hid (xs.set T 9223372036854775806 = ys)) (hix : Hid (InI xs)) (hiy : Hid (InI ys)) (hlx : Hid (xs.length = 4))
    (hg0 : Hid (xs[T]? = some 9223372036854775807))
    (htx : Hid ((tickC xs T).length = 4 ∧ (tickC xs T)[T]? = some 9223372036854775807)) (hty : Hid ((tickC ys T).length = 4 ∧ (tickC ys T)[T]? = some 9223372036854775807)) :
    Calls Try.prog 12 #[.int .i64 (T : Int)] w fun e w' => e = .returned (.bool true) ∧ Below w.heap.size w w' := by
  have hmk := made4
  have hT' : (T : Int) < 4 := by omega
  go_enter Try.func12, Try.ntmps12
  go_wp2_with fail
  have r0 : RdI (w.alloc (.cells (ints xs).toArray 3)) (some ⟨w.heap.size, 0, none⟩) 4 4 xs := by
    have := RdI.lit w 3 xs hix.out (by rw [hlx.out]; omega)
    rw [hlx.out] at this; exact this
  refine (Tick_any _ 4 4 xs T _ r0 (by omega)).mono ?_
  rintro e w1 ⟨v1, rfl, ho1, hb1⟩
  rw [htx.out.1] at ho1
  obtain ⟨A1, c1, hv1, _⟩ := RdI.of_own ho1 (tickC_in hix.out T)
  subst hv1
  obtain ⟨g1, hA1, hgb1, hgs1⟩ := own_form ho1 (by omega)
  subst hA1
  have hblk : w1.heap[w.heap.size]? = some (.cells (ints xs).toArray 3 (0, 0)) := (hb1.block _ (by simp)).trans (heap_alloc_new w _)
  have own0 : w1.ownsRow w.heap.size 3 1 (.slice (some ⟨w.heap.size, 0, none⟩) 4 4) 4 (ints xs) :=
    own_of_block (Nat.le_refl _) hblk (Nat.le_refl _) (by unfold maxLen; omega) (by simp [ints_length, hlx.out]) (by rw [List.take_of_length_le (by simp [ints_length, hlx.out])])
  have hne : g1 ≠ w.heap.size := by simp at hgb1; omega
  have hcell0 : w1.cell? ⟨w.heap.size, T, none⟩ = some (.int .i64 9223372036854775807) := by rw [own0.cellAt T (by omega), ints_get, hg0.out]; rfl
  have hfr0 := own0.frozenAt T
  have hz1 : w.heap.size < w1.heap.size := by have := hb1.size; simp at this; omega
  have HB1 := Lib.hid hb1
  have O1 := Lib.hid ho1
  have O0 := Lib.hid own0
  clear hb1 ho1 own0 hblk
  go_wp2_with fail
  obtain ⟨hst, hgr⟩ := O0.out.stored T (.int .i64 9223372036854775806)
  rw [ints_set, hy.out] at hst
  have ho1' : (w1.setCell ⟨w.heap.size, T, none⟩ (.int .i64 9223372036854775806)).ownsRow (w.alloc (.cells (ints xs).toArray 3)).heap.size 3 1 (.slice (some ⟨g1, 0, none⟩) 4 c1) 4 (ints (tickC xs T)) :=
    O1.out.kept hgr (.inr (by simp [Value.ownBlock]; exact hne))
  obtain ⟨A2, c2, hv2, r2⟩ := RdI.of_own hst hiy.out
  injection hv2 with e1 _ e3
  subst e1 e3
  have hB1 : Below w.heap.size w (w1.setCell ⟨w.heap.size, T, none⟩ (.int .i64 9223372036854775806)) := (btr (bal (Below.refl _ _) _) HB1.out).setCell (Nat.le_refl _) _
  obtain ⟨w2, hw2⟩ : ∃ w2, w2 = w1.setCell ⟨w.heap.size, T, none⟩ (.int .i64 9223372036854775806) := ⟨_, rfl⟩
  rw [← hw2] at hst ho1' r2 hB1 ⊢
  refine (Tick_any _ 4 4 ys T _ r2 (by omega)).mono ?_
  rintro e w3 ⟨v3, rfl, ho3, hb3⟩
  rw [hty.out.1] at ho3
  obtain ⟨A3, c3, hv3, _⟩ := RdI.of_own ho3 (tickC_in hiy.out T)
  subst hv3
  obtain ⟨g3, hA3, hgb3, hgs3⟩ := own_form ho3 (by omega)
  subst hA3
  have hca : w3.cell? ⟨g1, T, none⟩ = some (.int .i64 9223372036854775807) := by
    rw [hb3.cell (p := ⟨g1, T, none⟩) (by rw [hw2]; simpa using hgs1), ho1'.cellAt T (by omega), ints_get, htx.out.2]; rfl
  have hcb : w3.cell? ⟨g3, T, none⟩ = some (.int .i64 9223372036854775807) := by
    rw [ho3.cellAt T (by omega), ints_get, hty.out.2]; rfl
  have HB3 := Lib.hid (btr hB1 hb3)
  clear hst ho1' r2 hB1 ho3 hb3 hw2 hcell0 hfr0 hmk hx hgr r0
  go_wp2_with fail
  refine (awake22_any _).mono ?_
  rintro e w5 ⟨rfl, hb5⟩
  go_wp2
  go_ret
  exact ⟨rfl, btr HB3.out hb5⟩

set_option maxHeartbeats 2000000 in
theorem ClockSaturates_walk (t : Int) (w : World) :
    Calls Try.prog 12 #[.int .i64 t] w fun e w' => e = .returned (.bool true) ∧ Below w.heap.size w w' := by
  by_cases h0 : t < 0
  · go_enter Try.func12, Try.ntmps12
    go_wp2_with fail
    refine (awake22_any _).mono ?_
    rintro e w5 ⟨rfl, hb5⟩
    go_wp2
    go_ret
    exact ⟨rfl, hb5⟩
  · by_cases h1 : 4 ≤ t
    · go_enter Try.func12, Try.ntmps12
      go_wp2_with fail
      refine (awake22_any _).mono ?_
      rintro e w5 ⟨rfl, hb5⟩
      go_wp2
      go_ret
      exact ⟨rfl, hb5⟩
    · have h4 : t = 0 ∨ t = 1 ∨ t = 2 ∨ t = 3 := by omega
      rcases h4 with rfl | rfl | rfl | rfl
      · exact ClockSaturates_at 0 (by omega) w [9223372036854775807, 0, 0, 0] [9223372036854775806, 0, 0, 0] rfl (show _ = _ from rfl) (InI_lit (by decide)) (InI_lit (by decide)) (show _ = _ from rfl) (show _ = _ from rfl) (show _ ∧ _ from by decide) (show _ ∧ _ from by decide)
      · exact ClockSaturates_at 1 (by omega) w [0, 9223372036854775807, 0, 0] [0, 9223372036854775806, 0, 0] rfl (show _ = _ from rfl) (InI_lit (by decide)) (InI_lit (by decide)) (show _ = _ from rfl) (show _ = _ from rfl) (show _ ∧ _ from by decide) (show _ ∧ _ from by decide)
      · exact ClockSaturates_at 2 (by omega) w [0, 0, 9223372036854775807, 0] [0, 0, 9223372036854775806, 0] rfl (show _ = _ from rfl) (InI_lit (by decide)) (InI_lit (by decide)) (show _ = _ from rfl) (show _ = _ from rfl) (show _ ∧ _ from by decide) (show _ ∧ _ from by decide)
      · exact ClockSaturates_at 3 (by omega) w [0, 0, 0, 9223372036854775807] [0, 0, 0, 9223372036854775806] rfl (show _ = _ from rfl) (InI_lit (by decide)) (InI_lit (by decide)) (show _ = _ from rfl) (show _ = _ from rfl) (show _ ∧ _ from by decide) (show _ ∧ _ from by decide)

end Go.Proofs.Ytngfjoifkolaiaa
