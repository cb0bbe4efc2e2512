/-
  What the functions of package clock and of its reference compute: the contracts of At, Leq, Join. No condition.
-/
import Derived.Test.YtngfjoifkolaiaaProg
import Derived.Test.YtngfjoifkolaiaaClkBase
import Derived.WalkKit
import Derived.WalkSpells
import Derived.WalkLawsBesides
import Derived.Lib.Hide
import Derived.Deep.QuietTactic
import Derived.BigQuiet
namespace Go.Proofs.Ytngfjoifkolaiaa
open Go.RowKit

theorem int_info : (Try.prog.info? 3).map (fun i => (i.zero, i.size, i.bytes)) = some (some (.int .i64 0), 1, 8) := by kernel_rfl

set_option maxHeartbeats 400000 in
theorem At_any (A : Option Addr) (n c : Nat) (xs : List Int) (t : Int) (w : World) (h : RdI w A n c xs) :
    Calls Try.prog 20 #[.slice A n c, .int .i64 t] w fun e w' => e = .returned (.int .i64 (atC xs t)) ∧ w = w' := by
  obtain ⟨hl, hnc, hc, hb, hr, _⟩ := h
  by_cases h0 : t < 0
  · have H := Lib.hid hl; clear hl hb hr
    go_enter Try.func20, Try.ntmps20
    go_wp2
    go_ret
    exact ⟨ret_int (by simp [atC, h0]), rfl⟩
  · by_cases h1 : (n : Int) ≤ t
    · have H := Lib.hid hl; clear hl hb hr
      go_enter Try.func20, Try.ntmps20
      go_wp2
      go_ret
      exact ⟨ret_int (by have := H.out; simp [atC, h0]; rw [List.getElem?_eq_none (by omega)]; rfl), rfl⟩
    · obtain ⟨ad, rfl, hbk, hcell⟩ := hr (by omega)
      have hc1 := hcell t.toNat (by omega)
      have H := Lib.hid hl; clear hl hcell hr hb
      go_enter Try.func20, Try.ntmps20
      go_wp2
      go_ret
      exact ⟨ret_int (by unfold atC; rw [if_neg (by omega)]; simp), rfl⟩

set_option maxHeartbeats 400000 in
theorem rAt_any (A : Option Addr) (n c : Nat) (xs : List Int) (t : Int) (w : World) (h : RdI w A n c xs) :
    Calls Try.prog 21 #[.slice A n c, .int .i64 t] w fun e w' => e = .returned (.int .i64 (atC xs t)) ∧ w = w' := by
  obtain ⟨hl, hnc, hc, hb, hr, _⟩ := h
  by_cases h0 : t < 0
  · have H := Lib.hid hl; clear hl hb hr
    go_enter Try.func21, Try.ntmps21
    go_wp2
    go_ret
    exact ⟨ret_int (by simp [atC, h0]), rfl⟩
  · by_cases h1 : (n : Int) ≤ t
    · have H := Lib.hid hl; clear hl hb hr
      go_enter Try.func21, Try.ntmps21
      go_wp2
      go_ret
      exact ⟨ret_int (by have := H.out; simp [atC, h0]; rw [List.getElem?_eq_none (by omega)]; rfl), rfl⟩
    · obtain ⟨ad, rfl, hbk, hcell⟩ := hr (by omega)
      have hc1 := hcell t.toNat (by omega)
      have H := Lib.hid hl; clear hl hcell hr hb
      go_enter Try.func21, Try.ntmps21
      go_wp2
      go_ret
      exact ⟨ret_int (by unfold atC; rw [if_neg (by omega)]; simp), rfl⟩

set_option maxHeartbeats 1000000 in
theorem Leq_any (A : Option Addr) (n c : Nat) (xs : List Int) (B : Option Addr) (m d : Nat) (ys : List Int) (w : World) (h : RdI w A n c xs) (g : RdI w B m d ys) :
    Calls Try.prog 28 #[.slice A n c, .slice B m d] w fun e w' => e = .returned (.bool (leqC xs ys)) ∧ w = w' := by
  have hn := h.le
  have hm := g.le
  have H := Lib.hid h; clear h
  have G := Lib.hid g; clear g
  go_enter Try.func28, Try.ntmps28
  go_wp2
  all_goals
    go_loop [11] (fun i => ∃ k : Nat, k ≤ max n m ∧ i = .int .i64 k ∧ leqTo xs ys k = true) (fun i => max n m - (intOf i).toNat)
    case atStart => exact ⟨0, by omega, rfl, rfl⟩
    case round =>
      obtain ⟨k, hk, rfl, hlt⟩ := hrel
      have L := Lib.hid hlt; clear hlt
      by_cases hkm : k < max n m
      · go_wp2_with (go_at_call 20; first | ((with_reducible refine (At_any _ _ _ _ _ _ H.out).mono ?_); rintro e w' ⟨rfl, rfl⟩) | ((with_reducible refine (At_any _ _ _ _ _ _ G.out).mono ?_); rintro e w' ⟨rfl, rfl⟩))
        · go_ret
          have hgt : atC ys k < atC xs k := by assumption
          exact ⟨ret_bool (leqC_of_gt hgt (by rw [H.out.1, G.out.1]; exact hkm)).symm, rfl⟩
        · go_round
          case rel =>
            have hle : atC xs k ≤ atC ys k := by assumption
            exact ⟨k + 1, by omega, by go_num, by rw [leqTo_step, L.out]; simpa using hle⟩
          case measure => simp [intOf]; omega
      · go_wp2
        go_ret
        refine ⟨ret_bool ?_, rfl⟩
        rw [leqC, H.out.1, G.out.1, show max n m = k from by omega]; exact L.out.symm

set_option maxHeartbeats 1000000 in
theorem rLeq_any (A : Option Addr) (n c : Nat) (xs : List Int) (B : Option Addr) (m d : Nat) (ys : List Int) (w : World) (h : RdI w A n c xs) (g : RdI w B m d ys) :
    Calls Try.prog 27 #[.slice A n c, .slice B m d] w fun e w' => e = .returned (.bool (leqC xs ys)) ∧ w = w' := by
  have hn := h.le
  have hm := g.le
  have H := Lib.hid h; clear h
  have G := Lib.hid g; clear g
  go_enter Try.func27, Try.ntmps27
  go_wp2
  go_loop [5] (fun i => ∃ k : Nat, k ≤ max n m ∧ i = .int .i64 k ∧ leqTo xs ys k = true) (fun i => max n m - (intOf i).toNat)
  case atStart => exact ⟨0, by omega, rfl, rfl⟩
  case round =>
    obtain ⟨k, hk, rfl, hlt⟩ := hrel
    have L := Lib.hid hlt; clear hlt
    by_cases hkm : k < max n m
    · go_wp2_with (go_at_call 21; first | ((with_reducible refine (rAt_any _ _ _ _ _ _ H.out).mono ?_); rintro e w' ⟨rfl, rfl⟩) | ((with_reducible refine (rAt_any _ _ _ _ _ _ G.out).mono ?_); rintro e w' ⟨rfl, rfl⟩))
      all_goals first
        | (go_ret
           have hgt : atC ys k < atC xs k := by assumption
           exact ⟨ret_bool (leqC_of_gt hgt (by rw [H.out.1, G.out.1]; exact hkm)).symm, rfl⟩)
        | (go_round
           case rel =>
             have hle : atC xs k ≤ atC ys k := by assumption
             exact ⟨k + 1, by omega, by go_num, by rw [leqTo_step, L.out]; simpa using hle⟩
           case measure => simp [intOf]; omega)
    · go_wp2
      all_goals
        go_ret
        refine ⟨ret_bool ?_, rfl⟩
        rw [leqC, H.out.1, G.out.1, show max n m = k from by omega]; exact L.out.symm

set_option maxHeartbeats 1000000 in
theorem Join_any (A : Option Addr) (n c : Nat) (xs : List Int) (B : Option Addr) (m d : Nat) (ys : List Int) (w : World) (h : RdI w A n c xs) (g : RdI w B m d ys) (hn : n ≤ 65536) (hm : m ≤ 65536) :
    Calls Try.prog 23 #[.slice A n c, .slice B m d] w fun e w' => ∃ v, e = .returned v ∧ w'.ownsRow w.heap.size 3 1 v (joinC xs ys).length (ints (joinC xs ys)) ∧ Below w.heap.size w w' := by
  obtain ⟨i0, hi, hz0, hz1, hz2⟩ := info_parts int_info
  obtain ⟨N, hN⟩ : ∃ N, N = max n m := ⟨_, rfl⟩
  have hN1 : n ≤ N := by omega
  have hN2 : m ≤ N := by omega
  have hN3 : N ≤ 65536 := by omega
  have HN := Lib.hid hN; clear hN
  have H := Lib.hid h; clear h
  have G := Lib.hid g; clear g
  go_enter Try.func23, Try.ntmps23
  go_wp2_with (at_make; refine wpList_make_full _ rfl _ _ 22 rfl w.heap.size 3 i0 (.int .i64 0) 1 Try.underlying22 hi hz0 hz1 _ _ _ _ N rfl rfl (by have := HN.out; omega) (by have := HN.out; omega) (by rw [hz2]; omega) (by unfold maxLen; omega) (Nat.le_refl _) ?_; intro w1 hown1 hgrow1)
  all_goals
    have hb1 : Below w.heap.size w w1 := (Below.refl _ _).grown hgrow1 (Nat.le_refl _) (by simp)
    have O1 : Hid (w1.ownsRow w.heap.size 3 1 (.slice (some ⟨w.heap.size, 0, none⟩) N N) N (ints (joinTo xs ys 0 ++ List.replicate (N - 0) 0))) := by
      have e : (madeCells (Value.int IntKind.i64 0).cells (N * 1)).toList = ints (joinTo xs ys 0 ++ List.replicate (N - 0) 0) := by
        rw [Nat.mul_one]; show (madeCells #[Value.int IntKind.i64 0] N).toList = _
        rw [toList_madeCells_one]; simp [joinTo, ints]
      rw [← e]; exact hown1
    clear hown1 hgrow1
    go_wp2
    go_loopw [15] (fun i wr => ∃ k : Nat, k ≤ N ∧ i = .int .i64 k ∧ Hid (wr.ownsRow w.heap.size 3 1 (.slice (some ⟨w.heap.size, 0, none⟩) N N) N (ints (joinTo xs ys k ++ List.replicate (N - k) 0))) ∧ Below w.heap.size w wr) (fun i _ => N - (intOf i).toNat)
    case atStart => exact ⟨0, by omega, rfl, O1, hb1⟩
    case round =>
      obtain ⟨k, hk, rfl, hO, hB⟩ := hrel
      by_cases hkN : k < N
      · have hr1 := H.out.below hB
        have hr2 := G.out.below hB
        have R1 := Lib.hid hr1; clear hr1
        have R2 := Lib.hid hr2; clear hr2
        have hcell : ∃ u, wr.cell? ⟨w.heap.size, k, none⟩ = some u := by
          rw [hO.out.cellAt k (by omega)]
          exact ⟨_, List.getElem?_eq_getElem (by rw [ints_length]; simp [joinTo_length]; omega)⟩
        obtain ⟨u, hu⟩ := hcell
        have hfr := hO.out.frozenAt k
        go_wp2_with (go_at_call 20; first | ((with_reducible refine (At_any _ _ _ _ _ _ R1.out).mono ?_); rintro e w' ⟨rfl, rfl⟩) | ((with_reducible refine (At_any _ _ _ _ _ _ R2.out).mono ?_); rintro e w' ⟨rfl, rfl⟩))
        all_goals
          go_roundw
          case rel =>
            refine ⟨k + 1, by omega, by go_num, ?_, hB.setCell (Nat.le_refl _) _⟩
            have h1 := (hO.out.stored k (.int .i64 (max (atC xs k) (atC ys k)))).1
            have e1 : (joinTo xs ys k ++ List.replicate (N - k) 0).set k (max (atC xs k) (atC ys k)) = joinTo xs ys (k + 1) ++ List.replicate (N - (k + 1)) 0 := by
              have := set_fill (joinTo xs ys k) N (max (atC xs k) (atC ys k)) (by rw [joinTo_length]; exact hkN)
              rw [joinTo_length] at this
              rw [this, joinTo_step]
            rw [ints_set, e1] at h1
            rw [imax_if] at h1
            exact h1
          case measure => simp [intOf]; omega
      · obtain rfl : k = N := by omega
        go_wp2
        go_ret
        have e2 : joinTo xs ys k ++ List.replicate (k - k) 0 = joinC xs ys := by
          rw [Nat.sub_self, joinC, H.out.1, G.out.1, ← HN.out]; simp
        refine ⟨_, rfl, ?_, hB⟩
        have h3 := hO.out
        rw [e2] at h3
        have e4 : (joinC xs ys).length = k := by rw [joinC_length, H.out.1, G.out.1, ← HN.out]
        rw [e4]; exact h3

set_option maxHeartbeats 1000000 in
theorem rJoin_any (A : Option Addr) (n c : Nat) (xs : List Int) (B : Option Addr) (m d : Nat) (ys : List Int) (w : World) (h : RdI w A n c xs) (g : RdI w B m d ys) (hn : n ≤ 65536) (hm : m ≤ 65536) :
    Calls Try.prog 25 #[.slice A n c, .slice B m d] w fun e w' => ∃ v, e = .returned v ∧ w'.ownsRow w.heap.size 3 1 v (joinC xs ys).length (ints (joinC xs ys)) ∧ Below w.heap.size w w' := by
  obtain ⟨i0, hi, hz0, hz1, hz2⟩ := info_parts int_info
  obtain ⟨N, hN⟩ : ∃ N, N = max n m := ⟨_, rfl⟩
  have hN1 : n ≤ N := by omega
  have hN2 : m ≤ N := by omega
  have hN3 : N ≤ 65536 := by omega
  have HN := Lib.hid hN; clear hN
  have H := Lib.hid h; clear h
  have G := Lib.hid g; clear g
  go_enter Try.func25, Try.ntmps25
  go_wp2_with (at_make; refine wpList_make_full _ rfl _ _ 22 rfl w.heap.size 3 i0 (.int .i64 0) 1 Try.underlying22 hi hz0 hz1 _ _ _ _ N rfl rfl (by have := HN.out; omega) (by have := HN.out; omega) (by rw [hz2]; omega) (by unfold maxLen; omega) (Nat.le_refl _) ?_; intro w1 hown1 hgrow1)
  all_goals
    have hb1 : Below w.heap.size w w1 := (Below.refl _ _).grown hgrow1 (Nat.le_refl _) (by simp)
    have O1 : Hid (w1.ownsRow w.heap.size 3 1 (.slice (some ⟨w.heap.size, 0, none⟩) N N) N (ints (joinTo xs ys 0 ++ List.replicate (N - 0) 0))) := by
      have e : (madeCells (Value.int IntKind.i64 0).cells (N * 1)).toList = ints (joinTo xs ys 0 ++ List.replicate (N - 0) 0) := by
        rw [Nat.mul_one]; show (madeCells #[Value.int IntKind.i64 0] N).toList = _
        rw [toList_madeCells_one]; simp [joinTo, ints]
      rw [← e]; exact hown1
    clear hown1 hgrow1
    go_wp2
    go_loopw [15] (fun i wr => ∃ k : Nat, k ≤ N ∧ i = .int .i64 k ∧ Hid (wr.ownsRow w.heap.size 3 1 (.slice (some ⟨w.heap.size, 0, none⟩) N N) N (ints (joinTo xs ys k ++ List.replicate (N - k) 0))) ∧ Below w.heap.size w wr) (fun i _ => N - (intOf i).toNat)
    case atStart => exact ⟨0, by omega, rfl, O1, hb1⟩
    case round =>
      obtain ⟨k, hk, rfl, hO, hB⟩ := hrel
      by_cases hkN : k < N
      · have hr1 := H.out.below hB
        have hr2 := G.out.below hB
        have R1 := Lib.hid hr1; clear hr1
        have R2 := Lib.hid hr2; clear hr2
        have hcell : ∃ u, wr.cell? ⟨w.heap.size, k, none⟩ = some u := by
          rw [hO.out.cellAt k (by omega)]
          exact ⟨_, List.getElem?_eq_getElem (by rw [ints_length]; simp [joinTo_length]; omega)⟩
        obtain ⟨u, hu⟩ := hcell
        have hfr := hO.out.frozenAt k
        go_wp2_with (go_at_call 21; first | ((with_reducible refine (rAt_any _ _ _ _ _ _ R1.out).mono ?_); rintro e w' ⟨rfl, rfl⟩) | ((with_reducible refine (rAt_any _ _ _ _ _ _ R2.out).mono ?_); rintro e w' ⟨rfl, rfl⟩))
        all_goals
          go_roundw
          case rel =>
            refine ⟨k + 1, by omega, by go_num, ?_, hB.setCell (Nat.le_refl _) _⟩
            have h1 := (hO.out.stored k (.int .i64 (max (atC xs k) (atC ys k)))).1
            have e1 : (joinTo xs ys k ++ List.replicate (N - k) 0).set k (max (atC xs k) (atC ys k)) = joinTo xs ys (k + 1) ++ List.replicate (N - (k + 1)) 0 := by
              have := set_fill (joinTo xs ys k) N (max (atC xs k) (atC ys k)) (by rw [joinTo_length]; exact hkN)
              rw [joinTo_length] at this
              rw [this, joinTo_step]
            rw [ints_set, e1] at h1
            rw [imax_if] at h1
            exact h1
          case measure => simp [intOf]; omega
      · obtain rfl : k = N := by omega
        go_wp2
        go_ret
        have e2 : joinTo xs ys k ++ List.replicate (k - k) 0 = joinC xs ys := by
          rw [Nat.sub_self, joinC, H.out.1, G.out.1, ← HN.out]; simp
        refine ⟨_, rfl, ?_, hB⟩
        have h3 := hO.out
        rw [e2] at h3
        have e4 : (joinC xs ys).length = k := by rw [joinC_length, H.out.1, G.out.1, ← HN.out]
        rw [e4]; exact h3

end Go.Proofs.Ytngfjoifkolaiaa
