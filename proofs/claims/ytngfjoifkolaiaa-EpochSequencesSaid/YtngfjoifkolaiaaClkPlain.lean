/-
  Plain facts on clocks as lists: the order, the join, the tick. No condition.
-/
import Derived.Test.YtngfjoifkolaiaaClkWalk4
namespace Go.Proofs.Ytngfjoifkolaiaa
open Go.RowKit

theorem atC_big (xs : List Int) (i : Nat) (h : xs.length ≤ i) : atC xs i = 0 := by
  unfold atC; rw [if_neg (by omega), Int.toNat_natCast, List.getD_eq_getElem?_getD, List.getElem?_eq_none h]; rfl
theorem atC_nat (xs : List Int) (i : Nat) : atC xs i = xs.getD i 0 := by unfold atC; rw [if_neg (by omega), Int.toNat_natCast]
theorem leqC_iff (xs ys : List Int) : leqC xs ys = true ↔ ∀ i : Nat, atC xs i ≤ atC ys i := by
  unfold leqC leqTo
  rw [List.all_eq_true]
  constructor
  · intro h i
    rcases Nat.lt_or_ge i (max xs.length ys.length) with hi | hi
    · have := h i (List.mem_range.2 hi); simpa using this
    · rw [atC_big xs i (by omega), atC_big ys i (by omega)]; omega
  · intro h i _; simpa using h i
theorem atC_join (xs ys : List Int) (i : Nat) : atC (joinC xs ys) i = max (atC xs i) (atC ys i) := by
  rcases Nat.lt_or_ge i (max xs.length ys.length) with hi | hi
  · rw [atC_nat, joinC, joinTo, List.getD_eq_getElem?_getD, List.getElem?_map, List.getElem?_range hi]; rfl
  · rw [atC_big _ i (by rw [joinC_length]; exact hi), atC_big xs i (by omega), atC_big ys i (by omega)]; rfl
theorem leqC_join_left (xs ys : List Int) : leqC xs (joinC xs ys) = true := by rw [leqC_iff]; intro i; rw [atC_join]; omega
theorem leqC_join_right (xs ys : List Int) : leqC ys (joinC xs ys) = true := by rw [leqC_iff]; intro i; rw [atC_join]; omega
theorem leqC_join_least {xs ys zs : List Int} (h : leqC xs zs = true) (g : leqC ys zs = true) : leqC (joinC xs ys) zs = true := by
  rw [leqC_iff] at *; intro i; rw [atC_join]; have := h i; have := g i; omega
theorem leqC_refl (xs : List Int) : leqC xs xs = true := by rw [leqC_iff]; intro i; omega
theorem leqC_trans {xs ys zs : List Int} (h : leqC xs ys = true) (g : leqC ys zs = true) : leqC xs zs = true := by
  rw [leqC_iff] at *; intro i; have := h i; have := g i; omega
theorem leqC_join_iff (xs ys : List Int) : leqC (joinC xs ys) ys = leqC xs ys := by
  rw [Bool.eq_iff_iff]
  constructor
  · intro h; exact leqC_trans (leqC_join_left xs ys) h
  · intro h; exact leqC_join_least h (leqC_refl ys)
theorem leqC_of_at {xs ys : List Int} (h : ∀ i : Nat, atC xs i = atC ys i) : leqC xs ys = true := by rw [leqC_iff]; intro i; rw [h]; omega
theorem join_len_le {xs ys : List Int} {k : Nat} (h : xs.length ≤ k) (g : ys.length ≤ k) : (joinC xs ys).length ≤ k := by rw [joinC_length]; omega
theorem padTo_at (xs : List Int) (n i : Nat) : atC (padTo xs n) i = atC xs i := by rw [atC_nat, atC_nat, padTo_getD]
theorem atC_tick (xs : List Int) (T : Nat) (hT : T < 4) (i : Nat) : atC (tickC xs T) i = if i = T then bump (atC xs T) else atC xs i := by
  unfold tickC
  rw [if_pos (by omega), Int.toNat_natCast, padTo_getD]
  split
  · rename_i h
    subst h
    rw [atC_nat, List.getD_eq_getElem?_getD, List.getElem?_set_self (by rw [padTo_length]; omega), atC_nat]; rfl
  · rename_i h
    rw [atC_nat, List.getD_eq_getElem?_getD, List.getElem?_set_ne (by omega), ← List.getD_eq_getElem?_getD, padTo_getD, atC_nat]
theorem tick_len_le {xs : List Int} {t : Int} {k : Nat} (h : xs.length ≤ k) (h4 : 4 ≤ k) : (tickC xs t).length ≤ k := by
  by_cases ht : 0 ≤ t ∧ t < 4
  · rw [tickC_length _ _ ht]; omega
  · unfold tickC; rw [if_neg ht]; exact h

end Go.Proofs.Ytngfjoifkolaiaa
