/-
  The statement ClockGrows returns true for every input: the walk. No condition.
-/
import Derived.Test.YtngfjoifkolaiaaClkVals
namespace Go.Proofs.Ytngfjoifkolaiaa
open Go.RowKit

theorem atC_mono {xs ys : List Int} (h : leqC xs ys = true) (t : Int) : atC xs t ≤ atC ys t := by
  by_cases h0 : t < 0
  · unfold atC; rw [if_pos h0, if_pos h0]; omega
  · obtain ⟨T, rfl⟩ := Int.eq_ofNat_of_zero_le (show 0 ≤ t by omega)
    exact (leqC_iff xs ys).1 h T
theorem bump_gt {x : Int} (h : x < 9223372036854775807) : bump x = x + 1 := by unfold bump; rw [if_pos h]
theorem leqC_tick {xs : List Int} {T : Nat} (hT : T < 4) (hx : atC xs T < 9223372036854775807) : leqC xs (tickC xs T) = true := by
  rw [leqC_iff]; intro i; rw [atC_tick xs T hT i]; split
  · rename_i h; subst h; rw [bump_gt hx]; omega
  · omega
theorem not_leqC_tick {xs : List Int} {T : Nat} (hT : T < 4) (hx : atC xs T < 9223372036854775807) : leqC (tickC xs T) xs = false := by
  rw [Bool.eq_false_iff]
  intro h
  have := (leqC_iff _ _).1 h T
  rw [atC_tick xs T hT T, if_pos rfl, bump_gt hx] at this
  omega
theorem Covers_val (A : Option Addr) (n c : Nat) (xs : List Int) (time thread : Int) (w : World) (b : Bool) (hb : Hid (coversC xs time thread = b)) (h : RdI w A n c xs) :
    Calls Try.prog 30 #[.slice A n c, .agg #[.int .i64 time, .int .i64 thread]] w fun e w' => e = .returned (.bool b) ∧ Below w.heap.size w w' := by
  rw [← hb.out]; exact Covers_any A n c xs time thread w h
theorem At_val (A : Option Addr) (n c : Nat) (xs : List Int) (t : Int) (w : World) (x : Int) (hx : Hid (atC xs t = x)) (h : RdI w A n c xs) :
    Calls Try.prog 20 #[.slice A n c, .int .i64 t] w fun e w' => e = .returned (.int .i64 x) ∧ w = w' := by
  rw [← hx.out]; exact At_any A n c xs t w h

set_option maxHeartbeats 4000000 in
theorem ClockGrows_in (A : Option Addr) (n c : Nat) (xs : List Int) (T : Nat) (time thread : Int) (w : World) (h : RdI w A n c xs) (hl : ¬ 60 < n) (hT : T < 4) (hx : atC xs T < 9223372036854775807) :
    Calls Try.prog 13 #[.slice A n c, .int .i64 (T : Int), .int .i64 time, .int .i64 thread] w fun e w' => e = .returned (.bool true) ∧ Below w.heap.size w w' := by
  have hT' : (T : Int) < 4 := by omega
  obtain ⟨x, hxe⟩ : ∃ x, atC xs T = x := ⟨_, rfl⟩
  have hxlo : -9223372036854775808 ≤ x := by rw [← hxe]; exact (atC_in h.inI T).1
  have hxhi : x < 9223372036854775807 := by rw [← hxe]; exact hx
  have K1 := Lib.hid (leqC_tick hT hx)
  have K2 := Lib.hid (not_leqC_tick hT hx)
  have K3 : Hid (atC (tickC xs T) T = x + 1) := by show _ = _; rw [atC_tick xs T hT T, if_pos rfl, bump_gt hx, hxe]
  have K4 := Lib.hid hxe
  have HT4 := Lib.hid (tick_len_le (xs := xs) (t := T) (k := 64) (by rw [h.1]; omega) (by omega))
  have hd0 : decide ((T : Int) < 0) = false := by simp
  have hd4 : decide ((4 : Int) ≤ (T : Int)) = false := by simp; omega
  have hne : (x == 9223372036854775807) = false := beq_eq_false_iff_ne.2 (by omega)
  have HX := Lib.hid hx
  obtain ⟨L, hL⟩ : ∃ L, L = (tickC xs T).length := ⟨_, rfl⟩
  have hL64 : L ≤ 64 := by rw [hL]; exact HT4.out
  have HL := Lib.hid hL
  have H := Lib.hid h
  clear h hx hxe hL
  obtain ⟨b, hb⟩ : ∃ b, coversC xs time thread = b := ⟨_, rfl⟩
  have KB := Lib.hid hb
  clear hb
  have hKC : b = true → coversC (tickC xs T) time thread = true := by
    intro hbt
    have h1 := KB.out
    rw [hbt] at h1
    unfold coversC at h1 ⊢
    have h2 := atC_mono K1.out thread
    simp only [decide_eq_true_eq] at h1 ⊢
    omega
  have KC := Lib.hid hKC
  clear hKC
  cases b
  all_goals
    go_enter Try.func13, Try.ntmps13
    go_wp2_with fail
    refine (long_no A n c w hl).mono ?_
    rintro e w' ⟨rfl, rfl⟩
    go_wp2_with fail
    refine (rAt_any A n c xs T w H.out).mono ?_
    rintro e w' ⟨rfl, rfl⟩
    rw [K4.out]
    go_wp2_with fail
    refine (Tick_any A n c xs T w H.out (by omega)).mono ?_
    rintro e w1 ⟨v1, rfl, ho1, hb1⟩
    rw [← HL.out] at ho1
    obtain ⟨J, cj, hv1, hr1⟩ := RdI.of_own ho1 (tickC_in H.out.inI T)
    subst hv1
    have D1 := Lib.hid hr1
    have H1 := Lib.hid (H.out.below hb1)
    clear ho1 hr1
    go_wp2_with fail
    refine (Leq_val A n c xs J L cj (tickC xs T) _ _ K1 (H1.out.alloc _) (D1.out.alloc _)).mono ?_
    rintro e w' ⟨rfl, rfl⟩
    go_wp2_with fail
    refine (Leq_val J L cj (tickC xs T) A n c xs _ _ K2 (D1.out.alloc _) (H1.out.alloc _)).mono ?_
    rintro e w' ⟨rfl, rfl⟩
    go_wp2_with fail
    refine (Covers_val A n c xs time thread _ _ KB (H1.out.alloc _)).mono ?_
    rintro e w2 ⟨rfl, hb2⟩
    have hB2 := btr (bal hb1 _) hb2
    have D2 := Lib.hid ((D1.out.alloc _).below hb2)
    have H2 := Lib.hid ((H1.out.alloc _).below hb2)
    have hq0 : w2.cell? ⟨w1.heap.size, 0, none⟩ = some (.int .i64 time) := (hb2.cell (by simp)).trans (World.cell?_alloc_at _ _ _ _ rfl)
    have hq1 : w2.cell? ⟨w1.heap.size, 1, none⟩ = some (.int .i64 thread) := (hb2.cell (by simp)).trans (World.cell?_alloc_at _ _ _ _ rfl)
    have hz2 : w1.heap.size < w2.heap.size := by have := hb2.size; simp at this; omega
    clear hb2
  · go_wp2_with fail
    refine (At_val J L cj (tickC xs T) T _ _ K3 D2.out).mono ?_
    rintro e w' ⟨rfl, rfl⟩
    go_wp2_with fail
    refine (At_val A n c xs T _ _ K4 H2.out).mono ?_
    rintro e w' ⟨rfl, rfl⟩
    go_wp2
    go_loop [11] (fun i => ∃ k : Nat, k ≤ L ∧ i = .int .i64 k) (fun i => L - (intOf i).toNat)
    case atStart => exact ⟨0, by omega, rfl⟩
    case round =>
      obtain ⟨k, hk, rfl⟩ := hrel
      by_cases hkL : k < L
      · by_cases hkT : k = T
        · have hkT' : ((k : Int) != (T : Int)) = false := by simp; omega
          go_wp2
          go_round
          case rel => exact ⟨k + 1, by omega, by go_num⟩
          case measure => simp [intOf]; omega
        · have hkT' : ((k : Int) != (T : Int)) = true := by simp; omega
          have KK : Hid (atC (tickC xs T) k = atC xs k) := by show _ = _; rw [atC_tick xs T hT k, if_neg hkT]
          go_wp2_with fail
          refine (At_val J L cj (tickC xs T) k _ _ KK D2.out).mono ?_
          rintro e w' ⟨rfl, rfl⟩
          go_wp2_with fail
          refine (At_any A n c xs k _ H2.out).mono ?_
          rintro e w' ⟨rfl, rfl⟩
          go_wp2
          go_round
          case rel => exact ⟨k + 1, by omega, by go_num⟩
          case measure => simp [intOf]; omega
      · go_wp2_with fail
        refine (awake22_any _).mono ?_
        rintro e w5 ⟨rfl, hb5⟩
        go_wp2
        go_ret
        exact ⟨rfl, btr hB2 hb5⟩
  · go_wp2_with fail
    refine (Covers_val J L cj (tickC xs T) time thread _ _ (Lib.hid (KC.out (by first | exact trivial | rfl))) D2.out).mono ?_
    rintro e w3 ⟨rfl, hb3⟩
    have hB3 := btr hB2 hb3
    have D3 := Lib.hid (D2.out.below hb3)
    have H3 := Lib.hid (H2.out.below hb3)
    clear hb3 hq0 hq1
    go_wp2_with fail
    refine (At_val J L cj (tickC xs T) T _ _ K3 D3.out).mono ?_
    rintro e w' ⟨rfl, rfl⟩
    go_wp2_with fail
    refine (At_val A n c xs T _ _ K4 H3.out).mono ?_
    rintro e w' ⟨rfl, rfl⟩
    go_wp2
    go_loop [11] (fun i => ∃ k : Nat, k ≤ L ∧ i = .int .i64 k) (fun i => L - (intOf i).toNat)
    case atStart => exact ⟨0, by omega, rfl⟩
    case round =>
      obtain ⟨k, hk, rfl⟩ := hrel
      by_cases hkL : k < L
      · by_cases hkT : k = T
        · have hkT' : ((k : Int) != (T : Int)) = false := by simp; omega
          go_wp2
          go_round
          case rel => exact ⟨k + 1, by omega, by go_num⟩
          case measure => simp [intOf]; omega
        · have hkT' : ((k : Int) != (T : Int)) = true := by simp; omega
          have KK : Hid (atC (tickC xs T) k = atC xs k) := by show _ = _; rw [atC_tick xs T hT k, if_neg hkT]
          go_wp2_with fail
          refine (At_val J L cj (tickC xs T) k _ _ KK D3.out).mono ?_
          rintro e w' ⟨rfl, rfl⟩
          go_wp2_with fail
          refine (At_any A n c xs k _ H3.out).mono ?_
          rintro e w' ⟨rfl, rfl⟩
          go_wp2
          go_round
          case rel => exact ⟨k + 1, by omega, by go_num⟩
          case measure => simp [intOf]; omega
      · go_wp2_with fail
        refine (awake22_any _).mono ?_
        rintro e w5 ⟨rfl, hb5⟩
        go_wp2
        go_ret
        exact ⟨rfl, btr hB3 hb5⟩

set_option maxHeartbeats 2000000 in
theorem ClockGrows_walk (A : Option Addr) (n c : Nat) (xs : List Int) (t time thread : Int) (w : World) (h : RdI w A n c xs) :
    Calls Try.prog 13 #[.slice A n c, .int .i64 t, .int .i64 time, .int .i64 thread] w fun e w' => e = .returned (.bool true) ∧ Below w.heap.size w w' := by
  have hn := h.le
  have H := Lib.hid h
  clear h
  by_cases hl : 60 < n
  · go_enter Try.func13, Try.ntmps13
    go_wp2_with fail
    refine (long_yes A n c w hl).mono ?_
    rintro e w' ⟨rfl, rfl⟩
    go_wp2_with fail
    refine (awake22_any _).mono ?_
    rintro e w5 ⟨rfl, hb5⟩
    go_wp2
    go_ret
    exact ⟨rfl, hb5⟩
  · by_cases h0 : t < 0
    · go_enter Try.func13, Try.ntmps13
      go_wp2_with fail
      refine (long_no A n c w hl).mono ?_
      rintro e w' ⟨rfl, rfl⟩
      go_wp2_with fail
      refine (awake22_any _).mono ?_
      rintro e w5 ⟨rfl, hb5⟩
      go_wp2
      go_ret
      exact ⟨rfl, hb5⟩
    · by_cases h4 : 4 ≤ t
      · go_enter Try.func13, Try.ntmps13
        go_wp2_with fail
        refine (long_no A n c w hl).mono ?_
        rintro e w' ⟨rfl, rfl⟩
        go_wp2_with fail
        refine (awake22_any _).mono ?_
        rintro e w5 ⟨rfl, hb5⟩
        go_wp2
        go_ret
        exact ⟨rfl, hb5⟩
      · obtain ⟨T, rfl⟩ := Int.eq_ofNat_of_zero_le (show 0 ≤ t by omega)
        by_cases hx : atC xs T < 9223372036854775807
        · exact ClockGrows_in A n c xs T time thread w H.out hl (by omega) hx
        · have hxe : atC xs T = 9223372036854775807 := by have := (atC_in H.out.inI T).2; omega
          have K4 := Lib.hid hxe
          clear hx hxe
          go_enter Try.func13, Try.ntmps13
          go_wp2_with fail
          refine (long_no A n c w hl).mono ?_
          rintro e w' ⟨rfl, rfl⟩
          go_wp2_with fail
          refine (rAt_any A n c xs T w H.out).mono ?_
          rintro e w' ⟨rfl, rfl⟩
          rw [K4.out]
          go_wp2_with fail
          refine (awake22_any _).mono ?_
          rintro e w5 ⟨rfl, hb5⟩
          go_wp2
          go_ret
          exact ⟨rfl, hb5⟩

end Go.Proofs.Ytngfjoifkolaiaa
