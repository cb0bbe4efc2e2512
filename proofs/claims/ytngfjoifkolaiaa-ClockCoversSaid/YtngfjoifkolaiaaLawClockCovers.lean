/-
  The statement ClockCovers returns true for every input: the walk. No condition.
-/
import Derived.Test.YtngfjoifkolaiaaClkVals
import Derived.Deep.RegionHeld3
namespace Go.Proofs.Ytngfjoifkolaiaa
open Go.RowKit

set_option maxHeartbeats 4000000 in
theorem ClockCovers_in (A : Option Addr) (n c : Nat) (xs : List Int) (time thread : Int) (w : World) (h : RdI w A n c xs) (hl : ¬ 60 < n) (ht0 : -9223372036854775808 ≤ time) (ht1 : time ≤ 9223372036854775807) :
    Calls Try.prog 6 #[.slice A n c, .int .i64 time, .int .i64 thread] w fun e w' => e = .returned (.bool true) ∧ Below w.heap.size w w' := by
  have H := Lib.hid h
  clear h
  go_enter Try.func6, Try.ntmps6
  go_wp2_with fail
  refine (long_no A n c w hl).mono ?_
  rintro e w' ⟨rfl, rfl⟩
  go_wp2
  go_loopw [7] (fun i wr => ∃ k : Int, -1 ≤ k ∧ k ≤ n + 1 ∧ i = .int .i64 k ∧ Below w.heap.size w wr) (fun i _ => (n + 1 - intOf i).toNat)
  case atStart => exact ⟨-1, by omega, by omega, rfl, Below.refl _ _⟩
  case round =>
    obtain ⟨k, hk0, hk1, rfl, hB⟩ := hrel
    have HR := Lib.hid (H.out.below hB)
    by_cases hkn : k ≤ n
    · obtain ⟨wo, hwo⟩ : ∃ wo : World, wo = wr := ⟨_, rfl⟩
      subst hwo
      go_wp2_with fail
      refine (rAt_any A n c xs k _ HR.out).mono ?_
      rintro e w' ⟨rfl, rfl⟩
      obtain ⟨x, hx⟩ : ∃ x, x = atC xs k := ⟨_, rfl⟩
      rw [← hx]
      have hxb : -9223372036854775808 ≤ x ∧ x ≤ 9223372036854775807 := by rw [hx]; exact atC_in H.out.inI k
      have hus : InI [time, x] := by
        intro y hy
        simp only [List.mem_cons, List.not_mem_nil, or_false] at hy
        omega
      have L0 := Lib.hid (RdI.lit wo 3 [time, x] hus (by simp))
      clear hus hx hxb
      go_wp2
      go_loopw [27] (fun i wr => ∃ j : Nat, j ≤ 2 ∧ i = .int .i64 j ∧ Below (wo.heap.size + 1) (wo.alloc (.cells (ints [time, x]).toArray 3)) wr) (fun i _ => 2 - (intOf i).toNat)
      case atStart => exact ⟨0, by omega, rfl, Below.refl _ _⟩
      case round =>
        obtain ⟨j, hj, rfl, hBi⟩ := hrel
        have hBw : Below w.heap.size w wr := (bal hB _).trans (hBi.mono (by have := hB.size; omega))
        have HI := Lib.hid (H.out.below hBw)
        by_cases hj2 : j < 2
        · obtain ⟨u, hu⟩ : ∃ u, u = [time, x].getD j 0 := ⟨_, rfl⟩
          have hcu : wr.cell? ⟨wo.heap.size, j, none⟩ = some (.int .i64 u) := by
            obtain ⟨ad, e1, _, e3⟩ := L0.out.cellAt (k := j) (by simpa using hj2)
            injection e1 with e1
            subst e1
            rw [add_zero_addr] at e3
            rw [hBi.cell (p := ⟨wo.heap.size, j, none⟩) (by simp), e3, hu]
          clear hu
          go_wp2
          have HA : Hid (RdI (wr.alloc (.cells #[.int .i64 u, .int .i64 k] 31)).drew A n c xs) := HI.out.alloc _
          go_region_held3 (fun w' => w'.cell? ⟨wr.heap.size, 0, none⟩ = some (.int .i64 u) ∧ w'.cell? ⟨wr.heap.size, 1, none⟩ = some (.int .i64 k)) (first | exact ⟨qB0, qB1⟩ | exact ⟨qA0, qA1⟩ | go_keep)
            (first | (go_at_call 30; refine (Covers_any A n c xs u k _ ?_).mono ?_; (exact HA.out); rintro e wA ⟨rfl, hbA⟩; have qA0 : wA.cell? ⟨wr.heap.size, 0, none⟩ = some (.int .i64 u) := (hbA.cell (by simp)).trans (World.cell?_alloc_at _ _ _ _ rfl); have qA1 : wA.cell? ⟨wr.heap.size, 1, none⟩ = some (.int .i64 k) := (hbA.cell (by simp)).trans (World.cell?_alloc_at _ _ _ _ rfl); have hzA : wr.heap.size < wA.heap.size := by have := hbA.size; simp at this; omega) | (go_at_call 31; refine (rCovers_any A n c xs u k _ ?_).mono ?_; (exact HA.out.below hbA); rintro e wB ⟨rfl, hbB⟩; have qB0 : wB.cell? ⟨wr.heap.size, 0, none⟩ = some (.int .i64 u) := (hbB.cell hzA).trans qA0; have qB1 : wB.cell? ⟨wr.heap.size, 1, none⟩ = some (.int .i64 k) := (hbB.cell hzA).trans qA1))
          go_wp2
          go_roundw
          case rel =>
            have hb1 : Below wr.heap.size wr wB := btr (btr (bal (Below.refl _ _) _) (show Below (wr.alloc (.cells #[.int .i64 u, .int .i64 k] 31)).heap.size (wr.alloc (.cells #[.int .i64 u, .int .i64 k] 31)) wA from ⟨hbA.os, hbA.tape, hbA.output, hbA.size, hbA.block⟩)) hbB
            exact ⟨j + 1, by omega, by go_num, hBi.trans (hb1.mono (by have := hBi.size; simpa using this))⟩
          case measure => simp [intOf]; omega
        · go_wp2
          go_roundw
          case rel => exact ⟨k + 1, by omega, by omega, rfl, hBw⟩
          case measure => simp [intOf]; omega
    · have HA : Hid (RdI (wr.alloc (.cells #[.int .i64 time, .int .i64 thread] 31)).drew A n c xs) := HR.out.alloc _
      go_wp2
      go_region_held3 (fun w' => w'.cell? ⟨wr.heap.size, 0, none⟩ = some (.int .i64 time) ∧ w'.cell? ⟨wr.heap.size, 1, none⟩ = some (.int .i64 thread)) (first | exact ⟨qC0, qC1⟩ | exact ⟨qB0, qB1⟩ | exact ⟨qA0, qA1⟩ | go_keep)
        (first | (go_at_call 30; refine (Covers_any A n c xs time thread _ ?_).mono ?_; (exact HA.out); rintro e wA ⟨rfl, hbA⟩; have qA0 : wA.cell? ⟨wr.heap.size, 0, none⟩ = some (.int .i64 time) := (hbA.cell (by simp)).trans (World.cell?_alloc_at _ _ _ _ rfl); have qA1 : wA.cell? ⟨wr.heap.size, 1, none⟩ = some (.int .i64 thread) := (hbA.cell (by simp)).trans (World.cell?_alloc_at _ _ _ _ rfl); have hzA : wr.heap.size < wA.heap.size := by have := hbA.size; simp at this; omega) | (go_at_call 31; refine (rCovers_any A n c xs time thread _ ?_).mono ?_; (exact HA.out.below hbA); rintro e wB ⟨rfl, hbB⟩; have qB0 : wB.cell? ⟨wr.heap.size, 0, none⟩ = some (.int .i64 time) := (hbB.cell hzA).trans qA0; have qB1 : wB.cell? ⟨wr.heap.size, 1, none⟩ = some (.int .i64 thread) := (hbB.cell hzA).trans qA1; have hzB : wr.heap.size < wB.heap.size := by have := hbB.size; omega) | (go_at_call 19; refine (awake22_any _).mono ?_; rintro e wC ⟨rfl, hbC⟩; have qC0 : wC.cell? ⟨wr.heap.size, 0, none⟩ = some (.int .i64 time) := (hbC.cell hzB).trans qB0; have qC1 : wC.cell? ⟨wr.heap.size, 1, none⟩ = some (.int .i64 thread) := (hbC.cell hzB).trans qB1))
      go_wp2
      go_ret
      have hb1 : Below wr.heap.size wr wB := btr (btr (bal (Below.refl _ _) _) (show Below (wr.alloc (.cells #[.int .i64 time, .int .i64 thread] 31)).heap.size (wr.alloc (.cells #[.int .i64 time, .int .i64 thread] 31)) wA from ⟨hbA.os, hbA.tape, hbA.output, hbA.size, hbA.block⟩)) hbB
      exact ⟨rfl, btr (btr hB hb1) hbC⟩

set_option maxHeartbeats 2000000 in
theorem ClockCovers_walk (A : Option Addr) (n c : Nat) (xs : List Int) (time thread : Int) (w : World) (h : RdI w A n c xs) (ht0 : -9223372036854775808 ≤ time) (ht1 : time ≤ 9223372036854775807) :
    Calls Try.prog 6 #[.slice A n c, .int .i64 time, .int .i64 thread] w fun e w' => e = .returned (.bool true) ∧ Below w.heap.size w w' := by
  have hn := h.le
  have H := Lib.hid h; clear h
  by_cases hl0 : 60 < n
  · go_enter Try.func6, Try.ntmps6
    go_wp2_with fail
    refine (long_yes A n c w hl0).mono ?_
    rintro e w' ⟨rfl, rfl⟩
    go_wp2_with fail
    refine (awake22_any _).mono ?_
    rintro e wz ⟨rfl, hbz⟩
    go_wp2
    go_ret
    exact ⟨rfl, hbz⟩
  · exact ClockCovers_in A n c xs time thread w H.out hl0 ht0 ht1

end Go.Proofs.Ytngfjoifkolaiaa
