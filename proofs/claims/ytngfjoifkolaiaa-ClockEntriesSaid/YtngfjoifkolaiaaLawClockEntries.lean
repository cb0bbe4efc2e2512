/-
  The statement ClockEntries returns true for every input: the walk. No condition.
-/
import Derived.Test.YtngfjoifkolaiaaClkAwake
namespace Go.Proofs.Ytngfjoifkolaiaa
open Go.RowKit

set_option maxHeartbeats 1000000 in
theorem ClockEntries_walk (A : Option Addr) (n c : Nat) (xs : List Int) (t : Int) (w : World) (h : RdI w A n c xs) :
    Calls Try.prog 3 #[.slice A n c, .int .i64 t] w fun e w' => e = .returned (.bool true) ∧ Below w.heap.size w w' := by
  have hn := h.le
  have H := Lib.hid h; clear h
  by_cases hl : 60 < n
  · go_enter Try.func3, Try.ntmps3
    go_wp2_with fail
    refine (long_yes A n c w hl).mono ?_
    rintro e w' ⟨rfl, rfl⟩
    go_wp2_with fail
    refine (awake22_any _).mono ?_
    rintro e w1 ⟨rfl, hb1⟩
    go_wp2
    go_ret
    exact ⟨rfl, hb1⟩
  · go_enter Try.func3, Try.ntmps3
    go_wp2_with fail
    refine (long_no A n c w hl).mono ?_
    rintro e w' ⟨rfl, rfl⟩
    go_wp2
    go_loop [5] (fun i => ∃ k : Int, -1 ≤ k ∧ k ≤ n + 1 ∧ i = .int .i64 k) (fun i => (n + 1 - intOf i).toNat)
    case atStart => exact ⟨-1, by omega, by omega, rfl⟩
    case round =>
      obtain ⟨k, hk0, hk1, rfl⟩ := hrel
      by_cases hkn : k ≤ n
      · go_wp2_with fail
        refine (At_any A n c xs k _ H.out).mono ?_
        rintro e w' ⟨rfl, rfl⟩
        go_wp2_with fail
        refine (rAt_any A n c xs k _ H.out).mono ?_
        rintro e w' ⟨rfl, rfl⟩
        go_wp2
        go_round
        case rel => exact ⟨k + 1, by omega, by omega, rfl⟩
        case measure => simp [intOf]; omega
      · go_wp2_with fail
        refine (At_any A n c xs t _ H.out).mono ?_
        rintro e w' ⟨rfl, rfl⟩
        go_wp2_with fail
        refine (rAt_any A n c xs t _ H.out).mono ?_
        rintro e w' ⟨rfl, rfl⟩
        go_wp2_with fail
        refine (awake22_any _).mono ?_
        rintro e w1 ⟨rfl, hb1⟩
        go_wp2
        go_ret
        exact ⟨rfl, hb1⟩

end Go.Proofs.Ytngfjoifkolaiaa
