/-
  What Copy, Tick of package clock and of its reference compute. No condition.
-/
import Derived.Test.YtngfjoifkolaiaaClkWalk2
import Derived.Maps.AppendAt
import Derived.Deep.AppendLies
import Derived.RegionTactic
import Derived.OwnWalk
import Derived.Laws.CopyOwn
namespace Go.Proofs.Ytngfjoifkolaiaa
open Go.RowKit

def bump (x : Int) : Int := if x < 9223372036854775807 then x + 1 else x
def padTo (xs : List Int) (n : Nat) : List Int := xs ++ List.replicate (n - xs.length) 0
def tickC (xs : List Int) (t : Int) : List Int :=
  if 0 ≤ t ∧ t < 4 then (padTo xs (t.toNat + 1)).set t.toNat (bump ((padTo xs (t.toNat + 1)).getD t.toNat 0)) else xs
theorem padTo_length (xs : List Int) (n : Nat) : (padTo xs n).length = max xs.length n := by simp [padTo]; omega
theorem padTo_in {xs : List Int} (h : InI xs) (n : Nat) : InI (padTo xs n) := by
  intro x hx
  simp only [padTo, List.mem_append, List.mem_replicate] at hx
  rcases hx with hx | ⟨_, rfl⟩
  · exact h x hx
  · omega
theorem padTo_getD (xs : List Int) (n j : Nat) : (padTo xs n).getD j 0 = xs.getD j 0 := by
  unfold padTo
  simp only [List.getD_eq_getElem?_getD]
  rcases Nat.lt_or_ge j xs.length with h | h
  · rw [List.getElem?_append_left h]
  · rw [List.getElem?_append_right h, List.getElem?_eq_none h, List.getElem?_replicate]
    split <;> rfl
theorem InI.set_ {xs : List Int} (h : InI xs) (j : Nat) (x : Int) (hx : -9223372036854775808 ≤ x ∧ x ≤ 9223372036854775807) : InI (xs.set j x) := by
  intro y hy
  rcases List.mem_or_eq_of_mem_set hy with h1 | rfl
  · exact h y h1
  · exact hx
theorem InI.getD {xs : List Int} (h : InI xs) (j : Nat) : -9223372036854775808 ≤ xs.getD j 0 ∧ xs.getD j 0 ≤ 9223372036854775807 := by
  rw [List.getD_eq_getElem?_getD]
  rcases Nat.lt_or_ge j xs.length with hl | hl
  · rw [List.getElem?_eq_getElem hl]; exact h _ (List.getElem_mem hl)
  · rw [List.getElem?_eq_none hl]; simp
theorem tickC_in {xs : List Int} (h : InI xs) (t : Int) : InI (tickC xs t) := by
  unfold tickC
  split
  · refine (padTo_in h _).set_ _ _ ?_
    have := (padTo_in h (t.toNat + 1)).getD t.toNat
    unfold bump; split <;> omega
  · exact h
theorem tickC_length (xs : List Int) (t : Int) (h : 0 ≤ t ∧ t < 4) : (tickC xs t).length = max xs.length (t.toNat + 1) := by
  unfold tickC; rw [if_pos h, List.length_set, padTo_length]

theorem own_of_block {w : World} {base g n cap : Nat} {e : TypeId} {cur : Array Value} {xs : List Value} (hb : base ≤ g) (hg : w.heap[g]? = some (.cells cur e (0, 0))) (hnc : n ≤ cap) (hm : cap ≤ maxLen)
    (hs : cur.size = cap) (ht : cur.toList.take n = xs) : w.ownsRow base e 1 (.slice (some ⟨g, 0, none⟩) n cap) n xs :=
  ⟨by rw [← ht]; simp; omega, .inr ⟨g, cap, cur, rfl, hb, hg, hnc, hm, by omega, by simpa using ht⟩⟩

theorem splice_zero {xs : List Int} {N : Nat} : splice (List.replicate N (Value.int .i64 0)) 0 (ints xs) = ints (padTo xs N) := by
  unfold splice padTo
  rw [ints_append, ints_replicate, ints_length]
  simp

theorem block_of_made {w1 : World} {B N e : Nat} (h : w1.ownsRow B e 1 (.slice (some ⟨B, 0, none⟩) N N) N (madeCells (Value.int .i64 0).cells (N * 1)).toList) :
    w1.heap[B]? = some (.cells (List.replicate N (Value.int .i64 0)).toArray e (0, 0)) := by
  rcases h.2 with ⟨h1, _⟩ | ⟨g, cap, cur, h1, _, hg, _, _, hcs, ht⟩
  · simp at h1
  · simp only [Value.slice.injEq, Option.some.injEq, Addr.mk.injEq, and_true, true_and] at h1
    obtain ⟨rfl, rfl⟩ := h1
    rw [show List.replicate N (Value.int .i64 0) = cur.toList from by
      rw [← toList_madeCells_one, ← List.take_of_length_le (l := cur.toList) (i := N * 1) (by simp; omega), ht, Nat.mul_one]; rfl]
    exact hg

theorem tick_close {w w2 W : World} {xs : List Int} {n T N e : Nat} {y : Int} (hl : xs.length = n) (hN : N = max n (T + 1)) (hN3 : N ≤ 65536)
    (hg : w2.heap[w.heap.size]? = some (.cells (ints (padTo xs N)).toArray e (0, 0))) (hb : Below w.heap.size w w2) (hy : y = (padTo xs N).getD T 0)
    (hw : (y < 9223372036854775807 ∧ W = w2.setCell ⟨w.heap.size, T, none⟩ (.int .i64 (y + 1))) ∨ (9223372036854775807 ≤ y ∧ W = w2)) (hT : T < 4) :
    ∃ v, Ending.returned (.slice (some ⟨w.heap.size, 0, none⟩) N N) = .returned v ∧ W.ownsRow w.heap.size e 1 v (tickC xs T).length (ints (tickC xs T)) ∧ Below w.heap.size w W := by
  have hp : padTo xs N = padTo xs (T + 1) := by
    unfold padTo; rw [hl, show N - n = T + 1 - n from by omega]
  have hlen : (padTo xs N).length = N := by rw [padTo_length]; omega
  have ht : tickC xs T = (padTo xs N).set T (bump y) := by
    unfold tickC; rw [if_pos (by omega), Int.toNat_natCast, ← hp, ← hy]
  have hO : w2.ownsRow w.heap.size e 1 (.slice (some ⟨w.heap.size, 0, none⟩) N N) N (ints (padTo xs N)) :=
    own_of_block (Nat.le_refl _) hg (Nat.le_refl _) (by unfold maxLen; omega) (by simp [ints_length, hlen]) (by
      rw [List.take_of_length_le]; simp [ints_length, hlen])
  refine ⟨_, rfl, ?_⟩
  rw [ht, List.length_set, hlen]
  rcases hw with ⟨h1, rfl⟩ | ⟨h1, rfl⟩
  · refine ⟨?_, hb.setCell (Nat.le_refl _) _⟩
    have := (hO.stored T (.int .i64 (y + 1))).1
    rw [ints_set] at this
    unfold bump; rw [if_pos h1]; exact this
  · refine ⟨?_, hb⟩
    unfold bump; rw [if_neg (by omega)]
    have e2 : (padTo xs N).set T y = padTo xs N := by
      apply List.ext_getElem?
      intro j
      rw [List.getElem?_set]
      split
      · rename_i h; subst h
        rw [hy, List.getD_eq_getElem?_getD]
        split
        · rename_i h2; rw [List.getElem?_eq_getElem h2]; rfl
        · rename_i h2; rw [List.getElem?_eq_none (by omega)]
      · rfl
    rw [e2]; exact hO

set_option maxHeartbeats 1000000 in
theorem Tick_in (A : Option Addr) (n c : Nat) (xs : List Int) (T : Nat) (w : World) (h : RdI w A n c xs) (hT : T < 4) (hn : n ≤ 65536) :
    Calls Try.prog 36 #[.slice A n c, .int .i64 (T : Int)] w fun e w' => ∃ v, e = .returned v ∧ w'.ownsRow w.heap.size 3 1 v (tickC xs T).length (ints (tickC xs T)) ∧ Below w.heap.size w w' := by
  obtain ⟨i0, hi, hz0, hz1, hz2⟩ := info_parts int_info
  have hsz1 : (Try.prog.info? 3).map (·.size) = some 1 := by rw [hi]; simp [hz1]
  obtain ⟨N, hN⟩ : ∃ N, N = max n (T + 1) := ⟨_, rfl⟩
  have hN1 : n ≤ N := by omega
  have hN2 : T < N := by omega
  have hN3 : N ≤ 65536 := by omega
  have HN := Lib.hid hN; clear hN
  have H := Lib.hid h; clear h
  have HS := Lib.hid hsz1; clear hsz1
  have hT' : (T : Int) < 4 := by omega
  go_enter Try.func36, Try.ntmps36
  go_wp2_with (first
    | (at_make
       refine wpList_make_full _ rfl _ _ 22 rfl w.heap.size 3 i0 (.int .i64 0) 1 Try.underlying22 hi hz0 hz1 _ _ _ _ N rfl rfl (by have := HN.out; omega) (by have := HN.out; omega) (by rw [hz2]; omega) (by unfold maxLen; omega) (Nat.le_refl _) ?_
       intro w1 hown1 hgrow1
       have hb1 : Below w.heap.size w w1 := (Below.refl _ _).grown hgrow1 (Nat.le_refl _) (by simp)
       have O1 := Lib.hid (block_of_made hown1)
       have H1 := Lib.hid (H.out.below hb1)
       clear hown1 hgrow1)
    | ((with_reducible show wpList _ _ _ _ _ _)
       refine wpList_copy_splice rfl (.tmp 23) (.tmp 24) 22 22 rfl 3 Try.underlying22 HS.out _ _ N N n c (by rfl) (by rfl) w.heap.size 0 (List.replicate N (Value.int .i64 0)) 3 O1.out (ints xs) (by rw [ints_length, H1.out.1]; exact (Nat.min_eq_left hN1).symm) (fun hp => ⟨rfl, H1.out.src hp⟩) (by rw [ints_length, H1.out.1, List.length_replicate]; omega) (ints_one xs) w.heap.size w hb1 (Nat.le_refl _) ?_
       intro w2 hg2 hb2
       have hg3 := Lib.hid hg2.out
       rw [splice_zero] at hg3
       have hc2 : w2.cell? ⟨w.heap.size, T, none⟩ = some (.int .i64 ((padTo xs N).getD T 0)) := by
         rw [cell_of_row w2 _ T _ _ (0, 0) hg3.out]
         simp only [List.getElem?_toArray, ints_get]
         rw [List.getElem?_eq_getElem (by rw [padTo_length]; omega)]
         simp [List.getElem?_eq_getElem (show T < (padTo xs N).length by rw [padTo_length]; omega)]
       have hf2 : w2.frozen? ⟨w.heap.size, T, none⟩ = false := frozen_of_row w2 _ T _ _ hg3.out
       obtain ⟨y, hy⟩ : ∃ y, y = (padTo xs N).getD T 0 := ⟨_, rfl⟩
       rw [← hy] at hc2
       have hyb : -9223372036854775808 ≤ y ∧ y ≤ 9223372036854775807 := by rw [hy]; exact (padTo_in H.out.inI N).getD T
       have hyb1 := hyb.1
       have HY := Lib.hid hy
       clear hy hg2 hyb))
  all_goals
    go_ret
    first
      | (have hlt : y < 9223372036854775807 := by assumption
         exact tick_close H.out.1 HN.out hN3 hg3.out hb2 HY.out (.inl ⟨hlt, rfl⟩) hT)
      | (have hge : (9223372036854775807 : Int) ≤ y := by assumption
         exact tick_close H.out.1 HN.out hN3 hg3.out hb2 HY.out (.inr ⟨hge, rfl⟩) hT)

set_option maxHeartbeats 1000000 in
theorem Tick_out (A : Option Addr) (n c : Nat) (xs : List Int) (t : Int) (w : World) (h : RdI w A n c xs) (hT : ¬ (0 ≤ t ∧ t < 4)) (hn : n ≤ 65536) :
    Calls Try.prog 36 #[.slice A n c, .int .i64 t] w fun e w' => ∃ v, e = .returned v ∧ w'.ownsRow w.heap.size 3 1 v (tickC xs t).length (ints (tickC xs t)) ∧ Below w.heap.size w w' := by
  obtain ⟨i0, hi, hz0, hz1, hz2⟩ := info_parts int_info
  have hsz1 : (Try.prog.info? 3).map (·.size) = some 1 := by rw [hi]; simp [hz1]
  have H := Lib.hid h; clear h
  have HS := Lib.hid hsz1; clear hsz1
  have HT := Lib.hid hT; clear hT
  by_cases h0 : t < 0
  all_goals
    have h1 : t < 0 ∨ 4 ≤ t := by have := HT.out; omega
    have h2 : ¬ t < 0 → 4 ≤ t := by omega
    go_enter Try.func36, Try.ntmps36
    go_wp2_with (first
      | (at_make
         refine wpList_make_full _ rfl _ _ 22 rfl w.heap.size 3 i0 (.int .i64 0) 1 Try.underlying22 hi hz0 hz1 _ _ _ _ n rfl rfl (by omega) (by omega) (by rw [hz2]; omega) (by unfold maxLen; omega) (Nat.le_refl _) ?_
         intro w1 hown1 hgrow1
         have hb1 : Below w.heap.size w w1 := (Below.refl _ _).grown hgrow1 (Nat.le_refl _) (by simp)
         have O1 := Lib.hid (block_of_made hown1)
         have H1 := Lib.hid (H.out.below hb1)
         clear hown1 hgrow1)
      | ((with_reducible show wpList _ _ _ _ _ _)
         refine wpList_copy_splice rfl (.tmp 23) (.tmp 24) 22 22 rfl 3 Try.underlying22 HS.out _ _ n n n c (by rfl) (by rfl) w.heap.size 0 (List.replicate n (Value.int .i64 0)) 3 O1.out (ints xs) (by rw [ints_length, H1.out.1]; exact (Nat.min_self _).symm) (fun hp => ⟨rfl, H1.out.src hp⟩) (by rw [ints_length, H1.out.1, List.length_replicate]; omega) (ints_one xs) w.heap.size w hb1 (Nat.le_refl _) ?_
         intro w2 hg2 hb2
         have hg3 := Lib.hid hg2.out
         rw [splice_zero] at hg3
         clear hg2))
    go_ret
    refine ⟨_, rfl, ?_, hb2⟩
    have e : tickC xs t = xs := by unfold tickC; rw [if_neg HT.out]
    rw [e, H.out.1]
    have e2 : padTo xs n = xs := by unfold padTo; rw [H.out.1]; simp
    rw [e2] at hg3
    exact own_of_block (Nat.le_refl _) hg3.out (Nat.le_refl _) (by unfold maxLen; omega) (by simp [ints_length, H.out.1]) (by
      rw [List.take_of_length_le]; rw [← H.out.1, ← ints_length]; simp)

theorem Tick_any (A : Option Addr) (n c : Nat) (xs : List Int) (t : Int) (w : World) (h : RdI w A n c xs) (hn : n ≤ 65536) :
    Calls Try.prog 36 #[.slice A n c, .int .i64 t] w fun e w' => ∃ v, e = .returned v ∧ w'.ownsRow w.heap.size 3 1 v (tickC xs t).length (ints (tickC xs t)) ∧ Below w.heap.size w w' := by
  by_cases hT : 0 ≤ t ∧ t < 4
  · obtain ⟨T, rfl⟩ := Int.eq_ofNat_of_zero_le hT.1
    exact Tick_in A n c xs T w h (by omega) hn
  · exact Tick_out A n c xs t w h hT hn

end Go.Proofs.Ytngfjoifkolaiaa
