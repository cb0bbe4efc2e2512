/-
  The statement ClockUnpacks returns true for every input: the walk. No condition.
-/
import Derived.Test.YtngfjoifkolaiaaClkVals
namespace Go.Proofs.Ytngfjoifkolaiaa
open Go.RowKit

set_option maxHeartbeats 2000000 in
theorem ClockUnpacks_in (time thread : Int) (w : World) (h0 : 0 ≤ time) (h1 : time < 400) (h2 : 0 ≤ thread) (h3 : thread < 4) :
    Calls Try.prog 10 #[.int .i64 time, .int .i64 thread] w fun e w' => e = .returned (.bool true) ∧ Below w.heap.size w w' := by
  have e1 : (time * 4 + thread) / 4 = time := by omega
  have e2 : (time * 4 + thread) % 4 = thread := by omega
  have E1 := Lib.hid e1; clear e1
  have E2 := Lib.hid e2; clear e2
  go_enter Try.func10, Try.ntmps10
  go_wp2_with fail
  refine (Pack_yes time thread _ h2 h3 h0 (by omega)).mono ?_
  rintro e w1 ⟨rfl, hb1⟩
  have hq0 : w1.cell? ⟨w.heap.size, 0, none⟩ = some (.int .i64 time) := (hb1.cell (by simp)).trans (World.cell?_alloc_at _ _ _ _ rfl)
  have hq1 : w1.cell? ⟨w.heap.size, 1, none⟩ = some (.int .i64 thread) := (hb1.cell (by simp)).trans (World.cell?_alloc_at _ _ _ _ rfl)
  have hz1 : w.heap.size < w1.heap.size := by have := hb1.size; simp at this; omega
  go_wp2_with fail
  refine (Pack_yes (time + 1) thread _ h2 h3 (by omega) (by omega)).mono ?_
  rintro e w2 ⟨rfl, hb2⟩
  have hr0 : w2.cell? ⟨w.heap.size, 0, none⟩ = some (.int .i64 time) := (hb2.cell hz1).trans hq0
  have hr1 : w2.cell? ⟨w.heap.size, 1, none⟩ = some (.int .i64 thread) := (hb2.cell hz1).trans hq1
  have hz2 : w.heap.size < w2.heap.size := by have := hb2.size; omega
  clear hq0 hq1
  go_wp2_with fail
  refine (Unpack_yes (time * 4 + thread) _ (by omega) (by omega)).mono ?_
  rintro e w3 ⟨rfl, hb3⟩
  rw [E1.out, E2.out]
  have hs0 : w3.cell? ⟨w.heap.size, 0, none⟩ = some (.int .i64 time) := (hb3.cell hz2).trans hr0
  have hs1 : w3.cell? ⟨w.heap.size, 1, none⟩ = some (.int .i64 thread) := (hb3.cell hz2).trans hr1
  have hz3 : w.heap.size < w3.heap.size := by have := hb3.size; omega
  clear hr0 hr1
  go_wp2_with fail
  refine (awake22_any _).mono ?_
  rintro e w5 ⟨rfl, hb5⟩
  go_wp2
  go_ret
  exact ⟨rfl, btr (bal (btr (btr (btr (bal (Below.refl _ _) _) hb1) hb2) hb3) _) hb5⟩

set_option maxHeartbeats 2000000 in
theorem ClockUnpacks_walk (time thread : Int) (w : World) :
    Calls Try.prog 10 #[.int .i64 time, .int .i64 thread] w fun e w' => e = .returned (.bool true) ∧ Below w.heap.size w w' := by
  by_cases h0 : time < 0
  · go_enter Try.func10, Try.ntmps10
    go_wp2_with fail
    refine (awake22_any _).mono ?_
    rintro e w5 ⟨rfl, hb5⟩
    go_wp2
    go_ret
    exact ⟨rfl, hb5⟩
  · by_cases h1 : 400 ≤ time
    · go_enter Try.func10, Try.ntmps10
      go_wp2_with fail
      refine (awake22_any _).mono ?_
      rintro e w5 ⟨rfl, hb5⟩
      go_wp2
      go_ret
      exact ⟨rfl, hb5⟩
    · by_cases h2 : thread < 0
      · go_enter Try.func10, Try.ntmps10
        go_wp2_with fail
        refine (awake22_any _).mono ?_
        rintro e w5 ⟨rfl, hb5⟩
        go_wp2
        go_ret
        exact ⟨rfl, hb5⟩
      · by_cases h3 : 4 ≤ thread
        · go_enter Try.func10, Try.ntmps10
          go_wp2_with fail
          refine (awake22_any _).mono ?_
          rintro e w5 ⟨rfl, hb5⟩
          go_wp2
          go_ret
          exact ⟨rfl, hb5⟩
        · exact ClockUnpacks_in time thread w (by omega) (by omega) (by omega) (by omega)

end Go.Proofs.Ytngfjoifkolaiaa
