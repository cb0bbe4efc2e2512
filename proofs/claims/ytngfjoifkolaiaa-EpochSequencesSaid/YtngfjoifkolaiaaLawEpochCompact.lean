/-
  The statement EpochCompact returns true for every input: the walk. No condition.
-/
import Derived.Test.YtngfjoifkolaiaaLawEpochWrites
namespace Go.Proofs.Ytngfjoifkolaiaa
open Go.RowKit

/-- the slice value reads as a list of bools -/
def RdB (w : World) (A : Option Addr) (n c : Nat) (bs : List Bool) : Prop :=
  bs.length = n ∧ n ≤ c ∧ c ≤ maxLen ∧ (0 < n → ∃ ad, A = some ad ∧ ad.block < w.heap.size ∧ ∀ j, j < n → w.cell? (ad.add j) = some (.bool (bs.getD j false)))
theorem RdB.at_ {w w' : World} {A : Option Addr} {n c k : Nat} {bs : List Bool} (h : RdB w A n c bs) (hb : Below w.heap.size w w') (hk : k < n) : ∃ ad, A = some ad ∧ w'.cell? (ad.add k) = some (.bool (bs.getD k false)) := by
  obtain ⟨ad, e, hl, hc⟩ := h.2.2.2 (by omega)
  exact ⟨ad, e, (hb.cell (p := ad.add k) (by unfold Addr.add; split <;> exact hl)).trans (hc k hk)⟩

def clk (T k : Nat) : List Int := (List.replicate (T + 1) (0 : Int)).set T ((k : Int) + 1)
theorem clk_at (T k : Nat) : atC (clk T k) T = (k : Int) + 1 := by
  rw [atC_nat, clk, List.getD_eq_getElem?_getD, List.getElem?_set_self (by simp)]; rfl
theorem clk_nonneg (T k : Nat) (t : Int) : 0 ≤ atC (clk T k) t := by
  unfold atC
  split
  · omega
  · rw [clk, List.getD_eq_getElem?_getD, List.getElem?_set, List.getElem?_replicate]
    split
    · split
      · simp; omega
      · simp
    · split <;> simp
theorem clk_in {T k : Nat} (hk : k < 60) : InI (clk T k) := by
  intro x hx
  unfold clk at hx
  rcases List.mem_or_eq_of_mem_set hx with h | rfl
  · have := (List.mem_replicate.1 h).2; omega
  · omega
theorem clk_covers {T k : Nat} {x wh : Int} (hk : x ≤ k) (h : x = 0 ∨ wh = T) : coversC (clk T k) x wh = true := by
  unfold coversC
  simp only [decide_eq_true_eq]
  rcases h with h | h
  · have := clk_nonneg T k wh; omega
  · rw [h, clk_at]; omega
theorem clk_leq (T k : Nat) : leqC [] (clk T k) = true := by
  rw [leqC_iff]; intro i
  have h1 : atC [] i = 0 := by rw [atC_nat]; rfl
  rw [h1]; exact clk_nonneg T k i

set_option maxHeartbeats 8000000 in
theorem EpochCompact_walk (A : Option Addr) (n c : Nat) (bs : List Bool) (t : Int) (w : World) (h : RdB w A n c bs) :
    Calls Try.prog 17 #[.slice A n c, .int .i64 t] w fun e w' => e = .returned (.bool true) ∧ Below w.heap.size w w' := by
  obtain ⟨i0, hi, hz0, hz1, hz2⟩ := info_parts int_info
  have hn : n ≤ 9223372036854775807 := by have h1 := h.2.1; have h2 := h.2.2.1; unfold maxLen at h2; omega
  have H := Lib.hid h
  clear h
  go_enter Try.func17, Try.ntmps17
  go_wp2
  obtain ⟨T, hT, eT⟩ := mod4 t
  rw [eT]
  clear eT
  have b0 := Lib.hid (Blk5.new w (.int .i64 0) (.int .i64 0) (.int .i64 0) (.int .i64 0) (.slice none 0 0))
  go_loopw [6, 7, 19] (fun la wr_ i wr => ∃ (k : Nat) (la' wt wh rh : Int) (A0 : Option Addr) (c0 : Nat), k ≤ n ∧ k ≤ 60 ∧ i = .int .i64 k ∧ la = .int .i64 la' ∧ wr_ = .int .i64 wt ∧
      Hid (Blk5 wr w.heap.size (.int .i64 wt) (.int .i64 wh) (.int .i64 la') (.int .i64 rh) (.slice A0 0 c0)) ∧ Hid (RdI wr A0 0 c0 []) ∧ Hid ((0 ≤ wt ∧ wt ≤ k ∧ (wt = 0 ∨ wh = T)) ∧ (0 ≤ la' ∧ la' ≤ k ∧ (la' = 0 ∨ rh = T)) ∧ 0 ≤ wh ∧ wh < 4 ∧ 0 ≤ rh ∧ rh < 4) ∧ Below w.heap.size w wr) (fun _ _ i _ => n - (intOf i).toNat)
  case atStart => exact ⟨0, 0, 0, 0, 0, none, 0, by omega, by omega, rfl, rfl, rfl, b0, RdI.nil_ _, ⟨⟨by omega, by omega, .inl rfl⟩, ⟨by omega, by omega, .inl rfl⟩, by omega, by omega, by omega, by omega⟩, bal (Below.refl _ _) _⟩
  case round =>
    obtain ⟨k, la, wt, wh, rh, A0, c0, hkn, hk60, rfl, rfl, rfl, hS, hR, hI, hB⟩ := hrel
    by_cases hlt : k < n
    · obtain ⟨ad, rfl, hcb⟩ := H.out.at_ hB hlt
      obtain ⟨b, hb⟩ : ∃ b, b = bs.getD k false := ⟨_, rfl⟩
      rw [← hb] at hcb
      clear hb
      by_cases h60 : k < 60
      · have l0 := hS.out.lt
        cases b
        · go_wp2_with (at_make; (refine wpList_make_full _ rfl _ _ 22 rfl wr.heap.size 3 i0 (.int .i64 0) 1 Try.underlying22 hi hz0 hz1 _ _ _ _ (T + 1) rfl rfl (by omega) (by omega) (by rw [hz2]; omega) (by unfold maxLen; omega) (Nat.le_refl _) ?_; intro w1 hown1 hgrow1; have O1 := Lib.hid (block_of_made hown1); have hb1 : Below wr.heap.size wr w1 := (Below.refl _ _).grown hgrow1 (Nat.le_refl _) (by simp); have s1 := Lib.hid (hS.out.below hb1 l0); obtain ⟨x0, x1, x2, x3, x4⟩ := s1.out.cells; have ow : w1.ownsRow w.heap.size 3 1 (.slice (some ⟨wr.heap.size, 0, none⟩) (T + 1) (T + 1)) (T + 1) (ints (List.replicate (T + 1) 0)) := own_of_block (by omega) O1.out (Nat.le_refl _) (by unfold maxLen; omega) (by simp) (by rw [ints_replicate, List.take_of_length_le (by simp)]); have OO := Lib.hid ow; have cT : w1.cell? ⟨wr.heap.size, T, none⟩ = some (.int .i64 0) := (by rw [ow.cellAt T (by omega), ints_replicate, List.getElem?_replicate, if_pos (by omega)]); have fT := ow.frozenAt T; have B1 := Lib.hid (btr hB hb1); have R1 := Lib.hid (hR.out.below hb1); clear hown1 hgrow1 hb1 ow))
          obtain ⟨X, hX⟩ : ∃ X, X = w1.setCell ⟨wr.heap.size, T, none⟩ (.int .i64 ((k : Int) + 1)) := ⟨_, rfl⟩
          rw [← hX]
          have sX : Hid (Blk5 X w.heap.size (.int .i64 wt) (.int .i64 wh) (.int .i64 la) (.int .i64 rh) (.slice A0 0 c0)) := by rw [hX]; exact s1.out.far2 (by omega) _
          have BX : Hid (Below w.heap.size w X) := by rw [hX]; exact B1.out.setCell (p := ⟨wr.heap.size, T, none⟩) (show w.heap.size ≤ wr.heap.size by omega) _
          have RX : Hid (RdI X A0 0 c0 []) := ⟨rfl, R1.out.2.1, R1.out.2.2.1, R1.out.2.2.2.1, fun h => absurd h (by omega), R1.out.2.2.2.2.2⟩
          have CX : Hid (RdI X (some ⟨wr.heap.size, 0, none⟩) (T + 1) (T + 1) (clk T k)) := by
            have h1 := (OO.out.stored T (.int .i64 ((k : Int) + 1))).1
            rw [ints_set] at h1
            obtain ⟨_, _, hv, hr⟩ := RdI.of_own h1 (clk_in h60)
            injection hv with e1 _ e3
            subst e1 e3
            rw [hX]; exact hr
          clear hX s1 B1 R1 OO cT fT x0 x1 x2 x3 x4 O1
          have hfr : fresh la rh (clk T k) = true := by
            unfold fresh
            rw [show coversC (clk T k) la rh = true from clk_covers hI.out.2.1.2.1 hI.out.2.1.2.2]; simp
          refine (Read_any wt wh la rh A0 0 c0 [] _ (T + 1) (T + 1) (clk T k) T X RX.out CX.out hT hI.out.2.2.1 hI.out.2.2.2.1 hI.out.2.2.2.2.1 hI.out.2.2.2.2.2 (by omega)).mono ?_
          rintro e w2 ⟨v2, rfl, o2, hb2⟩
          have e1 : readRt [] la rh (clk T k) T = (k : Int) + 1 := by unfold readRt; rw [if_pos rfl, if_pos hfr, clk_at]
          have e2 : readRh [] la rh (clk T k) T = (T : Int) := by unfold readRh; rw [if_pos rfl, if_pos hfr]
          have e3 : readRs [] la rh (clk T k) T = [] := by unfold readRs; rw [if_pos rfl, if_pos hfr]
          rw [e3] at o2
          rw [e1, e2, show coversC (clk T k) wt wh = true from clk_covers hI.out.1.2.1 hI.out.1.2.2]
          clear e1 e2 e3 hfr
          obtain ⟨A2, c2, hv2, r2⟩ := RdI.of_own o2 (by intro y hy; cases hy)
          subst hv2
          have R2 := Lib.hid r2
          have s2 := Lib.hid (sX.out.below hb2 sX.out.lt)
          have B2 := Lib.hid (btr BX.out hb2)
          have l2 : w.heap.size < w2.heap.size := s2.out.lt
          obtain ⟨x0, x1, x2, x3, x4⟩ := s2.out.cells
          obtain ⟨f0, f1, f2, f3, f4⟩ := s2.out.frozen
          clear hb2 sX BX RX CX o2 r2
          go_wp2
          go_roundw
          case rel => exact ⟨k + 1, (k : Int) + 1, wt, wh, T, A2, c2, by omega, by omega, by go_num, by go_num, rfl, put5_blk s2.out _ _ _ _ _, ⟨rfl, R2.out.2.1, R2.out.2.2.1, R2.out.2.2.2.1, fun h => absurd h (by omega), R2.out.2.2.2.2.2⟩, ⟨⟨hI.out.1.1, by have := hI.out.1.2.1; omega, hI.out.1.2.2⟩, ⟨by omega, by omega, .inr rfl⟩, hI.out.2.2.1, hI.out.2.2.2.1, by omega, by omega⟩, put5_below B2.out (Nat.le_refl _) _ _ _ _ _⟩
          case measure => simp [intOf]; omega
        · go_wp2_with (at_make; (refine wpList_make_full _ rfl _ _ 22 rfl wr.heap.size 3 i0 (.int .i64 0) 1 Try.underlying22 hi hz0 hz1 _ _ _ _ (T + 1) rfl rfl (by omega) (by omega) (by rw [hz2]; omega) (by unfold maxLen; omega) (Nat.le_refl _) ?_; intro w1 hown1 hgrow1; have O1 := Lib.hid (block_of_made hown1); have hb1 : Below wr.heap.size wr w1 := (Below.refl _ _).grown hgrow1 (Nat.le_refl _) (by simp); have s1 := Lib.hid (hS.out.below hb1 l0); obtain ⟨x0, x1, x2, x3, x4⟩ := s1.out.cells; have ow : w1.ownsRow w.heap.size 3 1 (.slice (some ⟨wr.heap.size, 0, none⟩) (T + 1) (T + 1)) (T + 1) (ints (List.replicate (T + 1) 0)) := own_of_block (by omega) O1.out (Nat.le_refl _) (by unfold maxLen; omega) (by simp) (by rw [ints_replicate, List.take_of_length_le (by simp)]); have OO := Lib.hid ow; have cT : w1.cell? ⟨wr.heap.size, T, none⟩ = some (.int .i64 0) := (by rw [ow.cellAt T (by omega), ints_replicate, List.getElem?_replicate, if_pos (by omega)]); have fT := ow.frozenAt T; have B1 := Lib.hid (btr hB hb1); have R1 := Lib.hid (hR.out.below hb1); clear hown1 hgrow1 hb1 ow))
          obtain ⟨X, hX⟩ : ∃ X, X = w1.setCell ⟨wr.heap.size, T, none⟩ (.int .i64 ((k : Int) + 1)) := ⟨_, rfl⟩
          rw [← hX]
          have sX : Hid (Blk5 X w.heap.size (.int .i64 wt) (.int .i64 wh) (.int .i64 la) (.int .i64 rh) (.slice A0 0 c0)) := by rw [hX]; exact s1.out.far2 (by omega) _
          have BX : Hid (Below w.heap.size w X) := by rw [hX]; exact B1.out.setCell (p := ⟨wr.heap.size, T, none⟩) (show w.heap.size ≤ wr.heap.size by omega) _
          have RX : Hid (RdI X A0 0 c0 []) := ⟨rfl, R1.out.2.1, R1.out.2.2.1, R1.out.2.2.2.1, fun h => absurd h (by omega), R1.out.2.2.2.2.2⟩
          have CX : Hid (RdI X (some ⟨wr.heap.size, 0, none⟩) (T + 1) (T + 1) (clk T k)) := by
            have h1 := (OO.out.stored T (.int .i64 ((k : Int) + 1))).1
            rw [ints_set] at h1
            obtain ⟨_, _, hv, hr⟩ := RdI.of_own h1 (clk_in h60)
            injection hv with e1 _ e3
            subst e1 e3
            rw [hX]; exact hr
          clear hX s1 B1 R1 OO cT fT x0 x1 x2 x3 x4 O1
          refine (Write_any wt wh la rh A0 0 c0 [] _ (T + 1) (T + 1) (clk T k) T X RX.out CX.out (by omega) (by omega) hI.out.2.2.1 hI.out.2.2.2.1 hI.out.2.2.2.2.1 hI.out.2.2.2.2.2).mono ?_
          rintro e w2 ⟨rfl, hb2⟩
          rw [clk_at, show coversC (clk T k) wt wh = true from clk_covers hI.out.1.2.1 hI.out.1.2.2, show coversC (clk T k) la rh = true from clk_covers hI.out.2.1.2.1 hI.out.2.1.2.2, clk_leq]
          have s2 := Lib.hid (sX.out.below hb2 sX.out.lt)
          have B2 := Lib.hid (btr BX.out hb2)
          have l2 : w.heap.size < w2.heap.size := s2.out.lt
          obtain ⟨x0, x1, x2, x3, x4⟩ := s2.out.cells
          obtain ⟨f0, f1, f2, f3, f4⟩ := s2.out.frozen
          clear hb2 sX BX RX CX
          go_wp2
          go_roundw
          case rel => exact ⟨k + 1, 0, (k : Int) + 1, T, 0, none, 0, by omega, by omega, by go_num, rfl, rfl, put5_blk s2.out _ _ _ _ _, RdI.nil_ _, ⟨⟨by omega, by omega, .inr rfl⟩, ⟨by omega, by omega, .inl rfl⟩, by omega, by omega, by omega, by omega⟩, put5_below B2.out (Nat.le_refl _) _ _ _ _ _⟩
          case measure => simp [intOf]; omega
      · go_wp2_with fail
        refine (awake24_any _).mono ?_
        rintro e w9 ⟨rfl, hb9⟩
        go_wp2
        go_ret
        exact ⟨rfl, btr hB hb9⟩
    · go_wp2_with fail
      refine (awake24_any _).mono ?_
      rintro e w9 ⟨rfl, hb9⟩
      go_wp2
      go_ret
      exact ⟨rfl, btr hB hb9⟩

end Go.Proofs.Ytngfjoifkolaiaa
