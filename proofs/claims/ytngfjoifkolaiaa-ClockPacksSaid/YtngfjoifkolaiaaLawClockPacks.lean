/-
  The statement ClockPacks returns true for every input: the walk. No condition.
-/
import Derived.Test.YtngfjoifkolaiaaClkVals
namespace Go.Proofs.Ytngfjoifkolaiaa
open Go.RowKit

set_option maxHeartbeats 2000000 in
theorem ClockPacks_tail (time thread n : Int) (x : Int) (ok : Bool) (u v : Int) (fine : Bool) (w : World)
    (c1 : ∀ w, Calls Try.prog 32 #[.agg #[.int .i64 time, .int .i64 thread]] w fun e w' => e = .returned (.tuple #[.int .i64 x, .bool ok]) ∧ Below w.heap.size w w')
    (c2 : ∀ w, Calls Try.prog 33 #[.agg #[.int .i64 time, .int .i64 thread]] w fun e w' => e = .returned (.tuple #[.int .i64 x, .bool ok]) ∧ Below w.heap.size w w')
    (c3 : ∀ w, Calls Try.prog 34 #[.int .i64 n] w fun e w' => e = .returned (.tuple #[.agg #[.int .i64 u, .int .i64 v], .bool fine]) ∧ Below w.heap.size w w')
    (c4 : ∀ w, Calls Try.prog 35 #[.int .i64 n] w fun e w' => e = .returned (.tuple #[.agg #[.int .i64 u, .int .i64 v], .bool fine]) ∧ Below w.heap.size w w') :
    Calls Try.prog 9 #[.int .i64 time, .int .i64 thread, .int .i64 n] w fun e w' => e = .returned (.bool true) ∧ Below w.heap.size w w' := by
  have C1 := Lib.hid c1; clear c1
  have C2 := Lib.hid c2; clear c2
  have C3 := Lib.hid c3; clear c3
  have C4 := Lib.hid c4; clear c4
  go_enter Try.func9, Try.ntmps9
  go_wp2_with fail
  refine (C1.out _).mono ?_
  rintro e w1 ⟨rfl, hb1⟩
  go_wp2_with fail
  refine (C2.out _).mono ?_
  rintro e w2 ⟨rfl, hb2⟩
  go_wp2_with fail
  refine (C3.out _).mono ?_
  rintro e w3 ⟨rfl, hb3⟩
  go_wp2_with fail
  refine (C4.out _).mono ?_
  rintro e w4 ⟨rfl, hb4⟩
  have hq0 : w4.cell? ⟨w3.heap.size, 0, none⟩ = some (.int .i64 u) := (hb4.cell (by simp)).trans (World.cell?_alloc_at _ _ _ _ rfl)
  have hq1 : w4.cell? ⟨w3.heap.size, 1, none⟩ = some (.int .i64 v) := (hb4.cell (by simp)).trans (World.cell?_alloc_at _ _ _ _ rfl)
  have hz : w3.heap.size < w4.heap.size := by have := hb4.size; simp at this; omega
  go_wp2_with fail
  refine (awake22_any _).mono ?_
  rintro e w5 ⟨rfl, hb5⟩
  go_wp2
  go_ret
  exact ⟨rfl, btr (bal (btr (bal (btr (btr hb1 hb2) hb3) _) hb4) _) hb5⟩

theorem ClockPacks_walk (time thread n : Int) (w : World) (hlo : -9223372036854775808 ≤ n) (hhi : n ≤ 9223372036854775807) :
    Calls Try.prog 9 #[.int .i64 time, .int .i64 thread, .int .i64 n] w fun e w' => e = .returned (.bool true) ∧ Below w.heap.size w w' := by
  by_cases h1 : 0 ≤ thread ∧ thread < 4 ∧ 0 ≤ time ∧ time ≤ 400
  · by_cases h2 : 0 ≤ n ∧ n / 4 ≤ 400
    · exact ClockPacks_tail time thread n _ _ _ _ _ w (fun w => Pack_yes time thread w h1.1 h1.2.1 h1.2.2.1 h1.2.2.2) (fun w => rPack_yes time thread w h1.1 h1.2.1 h1.2.2.1 h1.2.2.2) (fun w => Unpack_yes n w h2.1 h2.2) (fun w => rUnpack_yes n w h2.1 h2.2)
    · exact ClockPacks_tail time thread n _ _ _ _ _ w (fun w => Pack_yes time thread w h1.1 h1.2.1 h1.2.2.1 h1.2.2.2) (fun w => rPack_yes time thread w h1.1 h1.2.1 h1.2.2.1 h1.2.2.2) (fun w => Unpack_no n w hlo hhi h2) (fun w => rUnpack_no n w hlo hhi h2)
  · by_cases h2 : 0 ≤ n ∧ n / 4 ≤ 400
    · exact ClockPacks_tail time thread n _ _ _ _ _ w (fun w => Pack_no time thread w h1) (fun w => rPack_no time thread w h1) (fun w => Unpack_yes n w h2.1 h2.2) (fun w => rUnpack_yes n w h2.1 h2.2)
    · exact ClockPacks_tail time thread n _ _ _ _ _ w (fun w => Pack_no time thread w h1) (fun w => rPack_no time thread w h1) (fun w => Unpack_no n w hlo hhi h2) (fun w => rUnpack_no n w hlo hhi h2)

end Go.Proofs.Ytngfjoifkolaiaa
