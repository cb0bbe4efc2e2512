/-
  What Equal, Concurrent, Covers, Pack, Unpack of package clock and of its reference compute. No condition.
-/
import Derived.Test.YtngfjoifkolaiaaClkWalk
namespace Go.Proofs.Ytngfjoifkolaiaa
open Go.RowKit

theorem take_eq_step {xs ys : List Int} {k : Nat} (h : xs.take k = ys.take k) (hx : k < xs.length) (hy : k < ys.length) (he : xs[k]?.getD 0 = ys[k]?.getD 0) : xs.take (k + 1) = ys.take (k + 1) := by
  rw [List.take_succ_eq_append_getElem hx, List.take_succ_eq_append_getElem hy, h]
  rw [List.getElem?_eq_getElem hx, List.getElem?_eq_getElem hy] at he
  have e : xs[k] = ys[k] := by simpa using he
  rw [e]
theorem ne_of_getD {xs ys : List Int} {k : Nat} (he : xs[k]?.getD 0 ≠ ys[k]?.getD 0) : decide (xs = ys) = false := by
  simp only [decide_eq_false_iff_not]; intro h; subst h; exact he rfl

def eqL (xs ys : List Int) : Bool := decide (xs = ys)

set_option maxHeartbeats 1000000 in
theorem Equal_any (A : Option Addr) (n c : Nat) (xs : List Int) (B : Option Addr) (m d : Nat) (ys : List Int) (w : World) (h : RdI w A n c xs) (g : RdI w B m d ys) :
    Calls Try.prog 24 #[.slice A n c, .slice B m d] w fun e w' => e = .returned (.bool (eqL xs ys)) ∧ ∃ q, w' = w.drewN q := by
  have hn := h.le
  have hm := g.le
  have H := Lib.hid h; clear h
  have G := Lib.hid g; clear g
  by_cases hnm : n = m
  · subst hnm
    go_enter Try.func24, Try.ntmps24
    go_wp2
    go_loopw [13] (fun i wr => ∃ k : Nat, k ≤ n ∧ i = .int .i64 k ∧ Hid (xs.take k = ys.take k) ∧ ∃ q, wr = w.drewN q) (fun i _ => n - (intOf i).toNat)
    case atStart => exact ⟨0, by omega, rfl, rfl, 0, rfl⟩
    case round =>
      obtain ⟨k, hk, rfl, hT, q, rfl⟩ := hrel
      by_cases hkn : k < n
      · obtain ⟨ad, rfl, _, hc1⟩ := H.out.cellAt hkn
        obtain ⟨bd, rfl, _, hc2⟩ := G.out.cellAt hkn
        go_wp2
        go_quiet (fail)
        go_wp2
        · go_ret
          have hne : (xs[k]?.getD 0 != ys[k]?.getD 0) = true := by assumption
          exact ⟨ret_bool (ne_of_getD (k := k) (by simpa using hne)).symm, _, World.drewN_drewN _ _ _⟩
        · go_roundw
          case rel =>
            have he : (xs[k]?.getD 0 != ys[k]?.getD 0) = false := by assumption
            exact ⟨k + 1, by omega, by go_num, take_eq_step hT.out (by rw [H.out.1]; omega) (by rw [G.out.1]; omega) (by simpa using he), _, rfl⟩
          case measure => simp [intOf]; omega
      · go_wp2
        go_ret
        refine ⟨ret_bool ?_, _, rfl⟩
        have h1 := hT.out
        rw [List.take_of_length_le (by rw [H.out.1]; omega), List.take_of_length_le (by rw [G.out.1]; omega)] at h1
        simp [eqL, h1]
  · have hnm' : ((n : Int) != (m : Int)) = true := by simp; omega
    go_enter Try.func24, Try.ntmps24
    go_wp2
    go_ret
    refine ⟨ret_bool ?_, 0, rfl⟩
    unfold eqL
    simp only [Bool.false_eq, decide_eq_false_iff_not]
    intro he; apply hnm; rw [← H.out.1, ← G.out.1, he]

theorem EqualB_any (A : Option Addr) (n c : Nat) (xs : List Int) (B : Option Addr) (m d : Nat) (ys : List Int) (w : World) (h : RdI w A n c xs) (g : RdI w B m d ys) :
    Calls Try.prog 24 #[.slice A n c, .slice B m d] w fun e w' => e = .returned (.bool (eqL xs ys)) ∧ Below w.heap.size w w' :=
  (Equal_any A n c xs B m d ys w h g).mono fun _ _ ⟨he, q, hq⟩ => ⟨he, by rw [hq]; exact bdr (Below.refl _ _) q⟩

set_option maxHeartbeats 1000000 in
theorem Concurrent_any (A : Option Addr) (n c : Nat) (xs : List Int) (B : Option Addr) (m d : Nat) (ys : List Int) (w : World) (h : RdI w A n c xs) (g : RdI w B m d ys) :
    Calls Try.prog 29 #[.slice A n c, .slice B m d] w fun e w' => e = .returned (.bool (!leqC xs ys && !leqC ys xs)) ∧ w = w' := by
  have H := Lib.hid h; clear h
  have G := Lib.hid g; clear g
  have c1 := Leq_any A n c xs B m d ys w H.out G.out
  have c2 := Leq_any B m d ys A n c xs w G.out H.out
  generalize leqC xs ys = p at *
  generalize leqC ys xs = r at *
  have C1 := Lib.hid c1; clear c1
  have C2 := Lib.hid c2; clear c2
  cases p
  · go_enter Try.func29, Try.ntmps29
    go_wp2_with fail
    refine C1.out.mono ?_
    rintro e w' ⟨rfl, rfl⟩
    go_wp2_with fail
    refine C2.out.mono ?_
    rintro e w' ⟨rfl, rfl⟩
    go_wp2
    go_ret
    exact ⟨ret_bool (by simp), rfl⟩
  · go_enter Try.func29, Try.ntmps29
    go_wp2_with fail
    refine C1.out.mono ?_
    rintro e w' ⟨rfl, rfl⟩
    go_wp2
    go_ret
    exact ⟨ret_bool (by simp), rfl⟩

set_option maxHeartbeats 1000000 in
theorem Covers_any (A : Option Addr) (n c : Nat) (xs : List Int) (time thread : Int) (w : World) (h : RdI w A n c xs) :
    Calls Try.prog 30 #[.slice A n c, .agg #[.int .i64 time, .int .i64 thread]] w fun e w' => e = .returned (.bool (coversC xs time thread)) ∧ Below w.heap.size w w' := by
  have H := Lib.hid h; clear h
  go_enter Try.func30, Try.ntmps30
  go_wp2
  go_quiet ((go_at_call 20; refine Calls.mono (At_any A n c xs thread _ ((H.out.alloc _).drewN _)) ?_; rintro e w' ⟨rfl, rfl⟩; exact ⟨rfl, _, rfl⟩))
  go_wp2
  go_ret
  exact ⟨rfl, below_drewN ((Below.refl _ _).alloc (Nat.le_refl _) _) _⟩

set_option maxHeartbeats 1000000 in
theorem rCovers_any (A : Option Addr) (n c : Nat) (xs : List Int) (time thread : Int) (w : World) (h : RdI w A n c xs) :
    Calls Try.prog 31 #[.slice A n c, .agg #[.int .i64 time, .int .i64 thread]] w fun e w' => e = .returned (.bool (coversC xs time thread)) ∧ Below w.heap.size w w' := by
  have H := Lib.hid h; clear h
  go_enter Try.func31, Try.ntmps31
  go_wp2
  go_quiet ((go_at_call 21; refine Calls.mono (rAt_any A n c xs thread _ ((H.out.alloc _).drewN _)) ?_; rintro e w' ⟨rfl, rfl⟩; exact ⟨rfl, _, rfl⟩))
  go_wp2
  go_ret
  exact ⟨rfl, below_drewN ((Below.refl _ _).alloc (Nat.le_refl _) _) _⟩

def packOk (time thread : Int) : Bool := decide (0 ≤ thread ∧ thread < 4 ∧ 0 ≤ time ∧ time ≤ 400)

set_option maxHeartbeats 1000000 in
theorem Pack_yes (time thread : Int) (w : World) (h0 : 0 ≤ thread) (h1 : thread < 4) (h2 : 0 ≤ time) (h3 : time ≤ 400) :
    Calls Try.prog 32 #[.agg #[.int .i64 time, .int .i64 thread]] w fun e w' => e = .returned (.tuple #[.int .i64 (time * 4 + thread), .bool true]) ∧ Below w.heap.size w w' := by
  go_enter Try.func32, Try.ntmps32
  go_wp2
  go_ret2
  exact ⟨rfl, (Below.refl _ _).alloc (Nat.le_refl _) _⟩

set_option maxHeartbeats 1000000 in
theorem Pack_no (time thread : Int) (w : World) (h : ¬ (0 ≤ thread ∧ thread < 4 ∧ 0 ≤ time ∧ time ≤ 400)) :
    Calls Try.prog 32 #[.agg #[.int .i64 time, .int .i64 thread]] w fun e w' => e = .returned (.tuple #[.int .i64 0, .bool false]) ∧ Below w.heap.size w w' := by
  have H := Lib.hid h; clear h
  by_cases h0 : thread < 0
  · go_enter Try.func32, Try.ntmps32
    go_wp2
    go_ret2
    exact ⟨rfl, (Below.refl _ _).alloc (Nat.le_refl _) _⟩
  · by_cases h1 : 4 ≤ thread
    · go_enter Try.func32, Try.ntmps32
      go_wp2
      go_ret2
      exact ⟨rfl, (Below.refl _ _).alloc (Nat.le_refl _) _⟩
    · by_cases h2 : time < 0
      · go_enter Try.func32, Try.ntmps32
        go_wp2
        go_ret2
        exact ⟨rfl, (Below.refl _ _).alloc (Nat.le_refl _) _⟩
      · have h3 : 400 < time := by have := H.out; omega
        go_enter Try.func32, Try.ntmps32
        go_wp2
        go_ret2
        exact ⟨rfl, (Below.refl _ _).alloc (Nat.le_refl _) _⟩

set_option maxHeartbeats 1000000 in
theorem rPack_yes (time thread : Int) (w : World) (h0 : 0 ≤ thread) (h1 : thread < 4) (h2 : 0 ≤ time) (h3 : time ≤ 400) :
    Calls Try.prog 33 #[.agg #[.int .i64 time, .int .i64 thread]] w fun e w' => e = .returned (.tuple #[.int .i64 (time * 4 + thread), .bool true]) ∧ Below w.heap.size w w' := by
  go_enter Try.func33, Try.ntmps33
  go_wp2
  go_ret2
  exact ⟨rfl, (Below.refl _ _).alloc (Nat.le_refl _) _⟩

set_option maxHeartbeats 1000000 in
theorem rPack_no (time thread : Int) (w : World) (h : ¬ (0 ≤ thread ∧ thread < 4 ∧ 0 ≤ time ∧ time ≤ 400)) :
    Calls Try.prog 33 #[.agg #[.int .i64 time, .int .i64 thread]] w fun e w' => e = .returned (.tuple #[.int .i64 0, .bool false]) ∧ Below w.heap.size w w' := by
  have H := Lib.hid h; clear h
  by_cases h0 : thread < 0
  · go_enter Try.func33, Try.ntmps33
    go_wp2
    go_ret2
    exact ⟨rfl, (Below.refl _ _).alloc (Nat.le_refl _) _⟩
  · by_cases h1 : 4 ≤ thread
    · go_enter Try.func33, Try.ntmps33
      go_wp2
      go_ret2
      exact ⟨rfl, (Below.refl _ _).alloc (Nat.le_refl _) _⟩
    · by_cases h2 : time < 0
      · go_enter Try.func33, Try.ntmps33
        go_wp2
        go_ret2
        exact ⟨rfl, (Below.refl _ _).alloc (Nat.le_refl _) _⟩
      · have h3 : 400 < time := by have := H.out; omega
        go_enter Try.func33, Try.ntmps33
        go_wp2
        go_ret2
        exact ⟨rfl, (Below.refl _ _).alloc (Nat.le_refl _) _⟩

set_option maxHeartbeats 1000000 in
theorem Unpack_yes (n : Int) (w : World) (h0 : 0 ≤ n) (h1 : n / 4 ≤ 400) :
    Calls Try.prog 34 #[.int .i64 n] w fun e w' => e = .returned (.tuple #[.agg #[.int .i64 (n / 4), .int .i64 (n % 4)], .bool true]) ∧ Below w.heap.size w w' := by
  have h2 : n ≤ 9223372036854775807 := by omega
  go_enter Try.func34, Try.ntmps34
  go_wp2
  exact bodyPost_ret (v := .tuple #[.agg #[.int .i64 (n / 4), .int .i64 (n % 4)], .bool true]) (by simp [results, Try.results34, go_sem]) rfl ⟨rfl, (Below.refl _ _).alloc (Nat.le_refl _) _⟩

set_option maxHeartbeats 1000000 in
theorem Unpack_no (n : Int) (w : World) (hlo : -9223372036854775808 ≤ n) (hhi : n ≤ 9223372036854775807) (h : ¬ (0 ≤ n ∧ n / 4 ≤ 400)) :
    Calls Try.prog 34 #[.int .i64 n] w fun e w' => e = .returned (.tuple #[.agg #[.int .i64 0, .int .i64 0], .bool false]) ∧ Below w.heap.size w w' := by
  have H := Lib.hid h; clear h
  by_cases h0 : n < 0
  · go_enter Try.func34, Try.ntmps34
    go_wp2
    exact bodyPost_ret (v := .tuple #[.agg #[.int .i64 0, .int .i64 0], .bool false]) (by simp [results, Try.results34, go_sem]) rfl ⟨rfl, (Below.refl _ _).alloc (Nat.le_refl _) _⟩
  · have h1 : 400 < n / 4 := by have := H.out; omega
    go_enter Try.func34, Try.ntmps34
    go_wp2
    exact bodyPost_ret (v := .tuple #[.agg #[.int .i64 0, .int .i64 0], .bool false]) (by simp [results, Try.results34, go_sem]) rfl ⟨rfl, (Below.refl _ _).alloc (Nat.le_refl _) _⟩

set_option maxHeartbeats 1000000 in
theorem rUnpack_yes (n : Int) (w : World) (h0 : 0 ≤ n) (h1 : n / 4 ≤ 400) :
    Calls Try.prog 35 #[.int .i64 n] w fun e w' => e = .returned (.tuple #[.agg #[.int .i64 (n / 4), .int .i64 (n % 4)], .bool true]) ∧ Below w.heap.size w w' := by
  have h2 : n ≤ 9223372036854775807 := by omega
  go_enter Try.func35, Try.ntmps35
  go_wp2
  exact bodyPost_ret (v := .tuple #[.agg #[.int .i64 (n / 4), .int .i64 (n % 4)], .bool true]) (by simp [results, Try.results35, go_sem]) rfl ⟨rfl, (Below.refl _ _).alloc (Nat.le_refl _) _⟩

set_option maxHeartbeats 1000000 in
theorem rUnpack_no (n : Int) (w : World) (hlo : -9223372036854775808 ≤ n) (hhi : n ≤ 9223372036854775807) (h : ¬ (0 ≤ n ∧ n / 4 ≤ 400)) :
    Calls Try.prog 35 #[.int .i64 n] w fun e w' => e = .returned (.tuple #[.agg #[.int .i64 0, .int .i64 0], .bool false]) ∧ Below w.heap.size w w' := by
  have H := Lib.hid h; clear h
  by_cases h0 : n < 0
  · go_enter Try.func35, Try.ntmps35
    go_wp2
    exact bodyPost_ret (v := .tuple #[.agg #[.int .i64 0, .int .i64 0], .bool false]) (by simp [results, Try.results35, go_sem]) rfl ⟨rfl, (Below.refl _ _).alloc (Nat.le_refl _) _⟩
  · have h1 : 400 < n / 4 := by have := H.out; omega
    go_enter Try.func35, Try.ntmps35
    go_wp2
    exact bodyPost_ret (v := .tuple #[.agg #[.int .i64 0, .int .i64 0], .bool false]) (by simp [results, Try.results35, go_sem]) rfl ⟨rfl, (Below.refl _ _).alloc (Nat.le_refl _) _⟩

end Go.Proofs.Ytngfjoifkolaiaa
