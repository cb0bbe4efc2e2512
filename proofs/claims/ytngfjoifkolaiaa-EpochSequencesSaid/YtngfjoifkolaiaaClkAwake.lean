/-
  The sanity check of the statements on clocks returns true; long, spare and kept of those statements. No condition.
-/
import Derived.Test.YtngfjoifkolaiaaClkWalk4
namespace Go.Proofs.Ytngfjoifkolaiaa
open Go.RowKit

theorem InI_lit {xs : List Int} (h : xs.all (fun x => decide (-9223372036854775808 ≤ x ∧ x ≤ 9223372036854775807)) = true) : InI xs := by
  intro x hx; have := List.all_eq_true.1 h x hx; simpa using this

set_option maxHeartbeats 1000000 in
theorem awake22_any (w : World) : Calls Try.prog 19 #[] w fun e w' => e = .returned (.bool true) ∧ Below w.heap.size w w' := by
  go_enter Try.func19, Try.ntmps19
  go_wp2_with fail
  refine (Pack_yes 5 3 _ (by omega) (by omega) (by omega) (by omega)).mono ?_
  rintro e w1 ⟨rfl, hb1⟩
  go_wp2_with fail
  refine (Join_any _ 3 3 [1, 0, 2] _ 2 2 [0, 3] _ ((RdI.lit w1 3 [1, 0, 2] (InI_lit (by decide)) (by simp)).alloc _) (RdI.litAt (w1.alloc _) 3 [0, 3] (w1.heap.size + 1) (by simp) (InI_lit (by decide)) (by simp)) (by omega) (by omega)).mono ?_
  rintro e w2 ⟨v2, rfl, hown2, hb2⟩
  have hB2 := btr (bal (bal hb1 _) _) hb2
  rw [show joinC [1, 0, 2] [0, 3] = [1, 3, 2] from by decide] at hown2
  obtain ⟨A2, c2, hv2, hr2⟩ := RdI.of_own hown2 (InI_lit (by decide))
  subst hv2
  have R2 := Lib.hid hr2
  clear hown2 hr2 hb2
  go_wp2_with fail
  refine (EqualB_any A2 3 c2 [1, 3, 2] _ 3 3 [1, 3, 2] _ (R2.out.alloc _) (RdI.lit w2 3 [1, 3, 2] (InI_lit (by decide)) (by simp))).mono ?_
  rintro e w3 ⟨rfl, hb3⟩
  have hB3' := btr (bal hB2 _) hb3
  rw [show eqL [1, 3, 2] [1, 3, 2] = true from rfl]
  clear hb3
  go_wp2_with fail
  refine (Concurrent_any _ 2 2 [1, 0] _ 2 2 [0, 1] _ ((RdI.lit w3 3 [1, 0] (InI_lit (by decide)) (by simp)).alloc _) (RdI.litAt (w3.alloc _) 3 [0, 1] (w3.heap.size + 1) (by simp) (InI_lit (by decide)) (by simp))).mono ?_
  rintro e w4 ⟨rfl, rfl⟩
  rw [show (!leqC [1, 0] [0, 1] && !leqC [0, 1] [1, 0]) = true from by decide]
  go_wp2_with fail
  refine (Covers_any _ 2 2 [0, 2] 2 1 _ (RdI.litAt ((w3.alloc _).alloc _) 3 [0, 2] (w3.heap.size + 1 + 1) (by simp) (InI_lit (by decide)) (by simp))).mono ?_
  rintro e w5 ⟨rfl, hb5⟩
  rw [show coversC [0, 2] 2 1 = true from by decide]
  go_wp2
  go_ret
  exact ⟨rfl, btr (bal (bal (bal hB3' _) _) _) hb5⟩

set_option maxHeartbeats 400000 in
theorem long_yes (A : Option Addr) (n c : Nat) (w : World) (h : 60 < n) :
    Calls Try.prog 18 #[.slice A n c] w fun e w' => e = .returned (.bool true) ∧ w = w' := by
  go_enter Try.func18, Try.ntmps18
  go_wp2
  go_ret
  exact ⟨ret_bool (by simp; omega), rfl⟩
set_option maxHeartbeats 400000 in
theorem long_no (A : Option Addr) (n c : Nat) (w : World) (h : ¬ 60 < n) :
    Calls Try.prog 18 #[.slice A n c] w fun e w' => e = .returned (.bool false) ∧ w = w' := by
  go_enter Try.func18, Try.ntmps18
  go_wp2
  go_ret
  exact ⟨ret_bool (by simp; omega), rfl⟩

end Go.Proofs.Ytngfjoifkolaiaa
