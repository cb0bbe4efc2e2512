/-
  What Read of package epoch computes where the second reader comes. No condition.
-/
import Derived.Test.YtngfjoifkolaiaaEpRead2
namespace Go.Proofs.Ytngfjoifkolaiaa
open Go.RowKit

theorem padTo_nil (k : Nat) : padTo [] k = List.replicate k 0 := by simp [padTo]
theorem set_two (RH T : Nat) (a b : Int) : ((List.replicate (max RH T + 1) (0 : Int)).set RH a).set T b = setC (setC [] RH a) T b := by
  unfold setC
  congr 1
  rw [padTo_nil]
  apply List.ext_getElem?
  intro j
  unfold padTo
  simp only [List.getElem?_set, List.length_set, List.length_replicate, List.getElem?_replicate]
  rcases Nat.lt_or_ge j (RH + 1) with h1 | h1
  · rw [List.getElem?_append_left (by simpa using h1), List.getElem?_set, List.getElem?_replicate]
    simp only [List.length_replicate]
    by_cases h2 : RH = j
    · rw [if_pos h2, if_pos h2, if_pos (by omega), if_pos (by omega)]
    · rw [if_neg h2, if_neg h2, if_pos (by omega), if_pos h1]
  · rw [List.getElem?_append_right (by simpa using h1), List.getElem?_replicate, if_neg (by omega)]
    simp only [List.length_set, List.length_replicate]
    by_cases h3 : j < max RH T + 1
    · rw [if_pos h3, if_pos (by omega)]
    · rw [if_neg h3, if_neg (by omega)]

set_option maxHeartbeats 4000000 in
theorem Read_second (wt wh rt : Int) (RH : Nat) (A : Option Addr) (c : Nat) (rs : List Int) (B : Option Addr) (m d : Nat) (ys : List Int) (T : Nat) (w : World) (p : Bool) (P : Hid (coversC ys wt wh = p))
    (h : RdI w A 0 c rs) (g : RdI w B m d ys) (hT : T < 4) (hw0 : 0 ≤ wh) (hw1 : wh < 4) (hRH : RH < 4) (hrt : (rt == 0) = false) (Q : Hid (coversC ys rt (RH : Int) = false)) :
    Calls Try.prog 41 #[.agg #[.int .i64 wt, .int .i64 wh, .int .i64 rt, .int .i64 (RH : Int), .slice A 0 c], .slice B m d, .int .i64 (T : Int)] w fun e w' =>
      ∃ v, e = .returned (.tuple #[.agg #[.int .i64 wt, .int .i64 wh, .int .i64 0, .int .i64 0, v], .bool (!p)]) ∧ w'.ownsRow w.heap.size 3 1 v (setC (setC [] RH rt) T (atC ys T)).length (ints (setC (setC [] RH rt) T (atC ys T))) ∧ Below w.heap.size w w' := by
  obtain ⟨i0, hi, hz0, hz1, hz2⟩ := info_parts int_info
  obtain ⟨rh, hrh⟩ : ∃ rh : Int, rh = RH := ⟨_, rfl⟩
  have hr0 : 0 ≤ rh := by omega
  have hr1 : rh < 4 := by omega
  obtain ⟨M, hM⟩ : ∃ M, M = max RH T := ⟨_, rfl⟩
  have hM1 : RH ≤ M := by omega
  have hM2 : T ≤ M := by omega
  have hM4 : M < 4 := by omega
  have HM := Lib.hid hM; clear hM
  clear hrh hr0 hr1 rh
  have hr0 : (0 : Int) ≤ (RH : Int) := by omega
  have hr1 : (RH : Int) < 4 := by omega
  have H := Lib.hid h; clear h
  have G := Lib.hid g; clear g
  have hT' : (T : Int) < 4 := by omega
  obtain ⟨x, hx⟩ : ∃ x, atC ys T = x := ⟨_, rfl⟩
  have HX := Lib.hid hx; clear hx
  go_enter Try.func41, Try.ntmps41
  go_wp2_with fail
  refine (thread_yes T _ (by omega) hT').mono ?_
  rintro e w' ⟨rfl, rfl⟩
  go_wp2_with fail
  refine (thread_yes wh _ hw0 hw1).mono ?_
  rintro e w' ⟨rfl, rfl⟩
  go_wp2_with fail
  refine (thread_yes (RH : Int) _ hr0 hr1).mono ?_
  rintro e w' ⟨rfl, rfl⟩
  go_wp2_with fail
  refine (At_any B m d ys T _ ((G.out.alloc _).alloc _)).mono ?_
  rintro e w' ⟨rfl, rfl⟩
  rw [HX.out]
  have b3 := Lib.hid ((((Blk5.new w (.int .i64 wt) (.int .i64 wh) (.int .i64 rt) (.int .i64 (RH : Int)) (.slice A 0 c)).alloc (.cells #[.int .i64 0, .int .i64 0, .int .i64 0, .int .i64 0, .slice none 0 0] 45)).alloc (.cells #[.int .i64 wt, .int .i64 wh, .int .i64 rt, .int .i64 (RH : Int), .slice none 0 0] 45)))
  have b6 : Hid (Blk5 (((w.alloc (.cells #[.int .i64 wt, .int .i64 wh, .int .i64 rt, .int .i64 (RH : Int), .slice A 0 c] 45)).alloc (.cells #[.int .i64 0, .int .i64 0, .int .i64 0, .int .i64 0, .slice none 0 0] 45)).alloc (.cells #[.int .i64 wt, .int .i64 wh, .int .i64 rt, .int .i64 (RH : Int), .slice none 0 0] 45)) (w.heap.size + 1) (.int .i64 0) (.int .i64 0) (.int .i64 0) (.int .i64 0) (.slice none 0 0)) :=
    Blk5.alloc (by simpa using Blk5.new (w.alloc _) (.int .i64 0) (.int .i64 0) (.int .i64 0) (.int .i64 0) (.slice none 0 0)) _
  have b9 : Hid (Blk5 (((w.alloc (.cells #[.int .i64 wt, .int .i64 wh, .int .i64 rt, .int .i64 (RH : Int), .slice A 0 c] 45)).alloc (.cells #[.int .i64 0, .int .i64 0, .int .i64 0, .int .i64 0, .slice none 0 0] 45)).alloc (.cells #[.int .i64 wt, .int .i64 wh, .int .i64 rt, .int .i64 (RH : Int), .slice none 0 0] 45)) (w.heap.size + 1 + 1) (.int .i64 wt) (.int .i64 wh) (.int .i64 rt) (.int .i64 (RH : Int)) (.slice none 0 0)) := by
    have := Blk5.new ((w.alloc (.cells #[.int .i64 wt, .int .i64 wh, .int .i64 rt, .int .i64 (RH : Int), .slice A 0 c] 45)).alloc (.cells #[.int .i64 0, .int .i64 0, .int .i64 0, .int .i64 0, .slice none 0 0] 45)) (.int .i64 wt) (.int .i64 wh) (.int .i64 rt) (.int .i64 (RH : Int)) (.slice none 0 0)
    show Blk5 _ _ _ _ _ _ _
    simpa using this
  have W0 := Lib.hid (bal (bal (bal (Below.refl w.heap.size w) (.cells #[.int .i64 wt, .int .i64 wh, .int .i64 rt, .int .i64 (RH : Int), .slice A 0 c] 45)) (.cells #[.int .i64 0, .int .i64 0, .int .i64 0, .int .i64 0, .slice none 0 0] 45)) (.cells #[.int .i64 wt, .int .i64 wh, .int .i64 rt, .int .i64 (RH : Int), .slice none 0 0] 45))
  go_wp2_with fail
  refine (Covers_val B m d ys rt RH _ _ Q (((G.out.alloc _).alloc _).alloc _)).mono ?_
  rintro e w1 ⟨rfl, hb1⟩
  have q3 := Lib.hid (b3.out.below hb1 (by simp; omega))
  have q6 := Lib.hid (b6.out.below hb1 (by simp))
  have q9 := Lib.hid (b9.out.below hb1 (by simp))
  have B1 := Lib.hid (btr W0.out hb1)
  obtain ⟨x90, x91, x92, x93, x94⟩ := q9.out.cells
  obtain ⟨f90, f91, f92, f93, f94⟩ := q9.out.frozen
  have s9 := q9.out.lt
  clear hb1 b3 b6 b9 W0
  obtain ⟨x30, x31, x32, x33, x34⟩ := q3.out.cells
  have s3 : w.heap.size < w1.heap.size := by omega
  go_wp2_with (first
    | (at_make
       refine wpList_make_full _ rfl _ _ 22 rfl w1.heap.size 3 i0 (.int .i64 0) 1 Try.underlying22 hi hz0 hz1 _ _ _ _ (M + 1) rfl rfl (by have := HM.out; omega) (by have := HM.out; omega) (by rw [hz2]; omega) (by unfold maxLen; omega) (Nat.le_refl _) ?_
       intro w2 hown1 hgrow1
       have O2 := Lib.hid (block_of_made hown1)
       have hb2 : Below w1.heap.size w1 w2 := (Below.refl _ _).grown hgrow1 (Nat.le_refl _) (by simp)
       have r3 := Lib.hid (q3.out.below hb2 (by omega))
       have r6 := Lib.hid (q6.out.below hb2 (by omega))
       have r9 := Lib.hid (q9.out.below hb2 (by omega))
       have B2 := Lib.hid (btr B1.out hb2)
       have s2 : w1.heap.size < w2.heap.size := (Array.getElem?_eq_some_iff.1 O2.out).1
       have ow : w2.ownsRow w.heap.size 3 1 (.slice (some ⟨w1.heap.size, 0, none⟩) (M + 1) (M + 1)) (M + 1) (ints (List.replicate (M + 1) 0)) :=
         own_of_block (by have := B1.out.size; omega) O2.out (Nat.le_refl _) (by unfold maxLen; omega) (by simp) (by rw [ints_replicate, List.take_of_length_le (by simp)])
       have OO := Lib.hid ow
       have cr : w2.cell? ⟨w1.heap.size, RH, none⟩ = some (.int .i64 0) := by rw [ow.cellAt RH (by omega), ints_replicate, List.getElem?_replicate, if_pos (by omega)]
       have cT : w2.cell? ⟨w1.heap.size, T, none⟩ = some (.int .i64 0) := by rw [ow.cellAt T (by omega), ints_replicate, List.getElem?_replicate, if_pos (by omega)]
       have fr := ow.frozenAt RH
       have fT := ow.frozenAt T
       have cT2 : ∃ y, ((w2.setCell ⟨w.heap.size + 1 + 1, 4, none⟩ (.slice (some ⟨w1.heap.size, 0, none⟩) (M + 1) (M + 1))).setCell ⟨w1.heap.size, RH, none⟩ (.int .i64 rt)).cell? ⟨w1.heap.size, T, none⟩ = some y := by
         have h1 : (w2.setCell ⟨w.heap.size + 1 + 1, 4, none⟩ (.slice (some ⟨w1.heap.size, 0, none⟩) (M + 1) (M + 1))).cell? ⟨w1.heap.size, T, none⟩ = some (.int .i64 0) := by rw [World.cell?_setCell_other _ _ _ _ (fun hh => by injection hh with hh1; omega)]; exact cT
         obtain ⟨y, hy⟩ := cell?_setCell_some (w := w2.setCell ⟨w.heap.size + 1 + 1, 4, none⟩ (.slice (some ⟨w1.heap.size, 0, none⟩) (M + 1) (M + 1))) (p := ⟨w1.heap.size, RH, none⟩) (x := .int .i64 rt) (q := ⟨w1.heap.size, T, none⟩) (v := .int .i64 0) h1
         exact ⟨y, hy⟩
       obtain ⟨y, hy⟩ := cT2
       have hne9 : w.heap.size + 1 + 1 ≠ w1.heap.size := by omega
       obtain ⟨u90, u91, u92, u93, u94⟩ := r9.out.cells
       obtain ⟨u30, u31, u32, u33, u34⟩ := r3.out.cells
       obtain ⟨g90, g91, g92, g93, g94⟩ := r9.out.frozen
       clear hown1 hgrow1 hb2 ow x30 x31 x32 x33 x34 x90 x91 x92 x93 x94 f90 f91 f92 f93 f94))
  all_goals
    obtain ⟨W, hW⟩ : ∃ W, W = ((((w2.setCell ⟨w.heap.size + 1 + 1, 4, none⟩ (.slice (some ⟨w1.heap.size, 0, none⟩) (M + 1) (M + 1))).setCell ⟨w1.heap.size, RH, none⟩ (.int .i64 rt)).setCell ⟨w1.heap.size, T, none⟩ (.int .i64 x)).setCell ⟨w.heap.size + 1 + 1, 2, none⟩ (.int .i64 0)).setCell ⟨w.heap.size + 1 + 1, 3, none⟩ (.int .i64 0) := ⟨_, rfl⟩
    rw [← hW]
    have c3 : Hid (Blk5 W w.heap.size (.int .i64 wt) (.int .i64 wh) (.int .i64 rt) (.int .i64 (RH : Int)) (.slice A 0 c)) := by rw [hW]; exact ((((r3.out.far2 (by omega) _).far2 (by omega) _).far2 (by omega) _).far2 (by omega) _).far2 (by omega) _
    have c6 : Hid (Blk5 W (w.heap.size + 1) (.int .i64 0) (.int .i64 0) (.int .i64 0) (.int .i64 0) (.slice none 0 0)) := by rw [hW]; exact ((((r6.out.far2 (by omega) _).far2 (by omega) _).far2 (by omega) _).far2 (by omega) _).far2 (by omega) _
    have c9 : Hid (Blk5 W (w.heap.size + 1 + 1) (.int .i64 wt) (.int .i64 wh) (.int .i64 0) (.int .i64 0) (.slice (some ⟨w1.heap.size, 0, none⟩) (M + 1) (M + 1))) := by rw [hW]; exact (((r9.out.set4 _).far2 hne9 _).far2 hne9 _).set23 _ _
    have BW : Hid (Below w.heap.size w W) := by
      have l1 : w.heap.size ≤ w1.heap.size := by omega
      rw [hW]; exact ((((B2.out.setCell (by simp; omega) _).setCell (by simpa using l1) _).setCell (by simpa using l1) _).setCell (by simp; omega) _).setCell (by simp; omega) _
    have OW : Hid (W.ownsRow w.heap.size 3 1 (.slice (some ⟨w1.heap.size, 0, none⟩) (M + 1) (M + 1)) (M + 1) (ints (setC (setC [] RH rt) T x))) := by
      have h1 := own_keepAt (w' := w2.setCell ⟨w.heap.size + 1 + 1, 4, none⟩ (.slice (some ⟨w1.heap.size, 0, none⟩) (M + 1) (M + 1))) OO.out (Below.heap_setCell _ _ _ _ (fun hh => hne9 (by simpa using hh.symm)))
      have h2 := (h1.stored RH (.int .i64 rt)).1
      have h3 := (h2.stored T (.int .i64 x)).1
      rw [ints_set, ints_set, HM.out, set_two, ← HM.out] at h3
      rw [hW]
      refine own_keepAt h3 ?_
      rw [Below.heap_setCell _ _ _ _ (fun hh => hne9 (by simpa using hh.symm)), Below.heap_setCell _ _ _ _ (fun hh => hne9 (by simpa using hh.symm))]
    have lm : w1.heap.size < W.heap.size := (OW.out.lt w1.heap.size rfl).2
    clear hW OO cr cT fr fT hy r3 r6 r9 B2 q3 q6 q9 B1 O2 u30 u31 u32 u33 u34 u90 u91 u92 u93 u94 g90 g91 g92 g93 g94
    have GW : Hid (RdI W.drew B m d ys) := (G.out.below BW.out).drewN 0
    obtain ⟨x30, x31, _, _, _⟩ := (show Blk5 W.drew w.heap.size _ _ _ _ _ from c3.out).cells
    obtain ⟨x90, x91, x92, x93, x94⟩ := (show Blk5 W.drew (w.heap.size + 1 + 1) _ _ _ _ _ from c9.out).cells
    have l6 := c6.out.lt
    have l9 := c9.out.lt
    have l3 : w.heap.size < W.heap.size := by omega
    go_region_held3 (fun w' => w'.cell? ⟨w.heap.size, 0, none⟩ = some (.int .i64 wt) ∧ w'.cell? ⟨w.heap.size, 1, none⟩ = some (.int .i64 wh) ∧ w'.cell? ⟨w.heap.size + 1 + 1, 0, none⟩ = some (.int .i64 wt) ∧ w'.cell? ⟨w.heap.size + 1 + 1, 1, none⟩ = some (.int .i64 wh) ∧ w'.cell? ⟨w.heap.size + 1 + 1, 2, none⟩ = some (.int .i64 0) ∧ w'.cell? ⟨w.heap.size + 1 + 1, 3, none⟩ = some (.int .i64 0) ∧ w'.cell? ⟨w.heap.size + 1 + 1, 4, none⟩ = some (.slice (some ⟨w1.heap.size, 0, none⟩) (M + 1) (M + 1))) (first | with_reducible exact ⟨z30, z31, z90, z91, z92, z93, z94⟩ | with_reducible exact ⟨x30, x31, x90, x91, x92, x93, x94⟩ | go_keep)
      (first | (go_at_call 30; refine (Covers_val B m d ys wt wh _ _ P ?_).mono ?_; (exact GW.out); rintro e wA ⟨rfl, hbA⟩; have z30 := (hbA.cell (p := ⟨w.heap.size, 0, none⟩) l3).trans x30; have z31 := (hbA.cell (p := ⟨w.heap.size, 1, none⟩) l3).trans x31; have z90 := (hbA.cell (p := ⟨w.heap.size + 1 + 1, 0, none⟩) l9).trans x90; have z91 := (hbA.cell (p := ⟨w.heap.size + 1 + 1, 1, none⟩) l9).trans x91; have z92 := (hbA.cell (p := ⟨w.heap.size + 1 + 1, 2, none⟩) l9).trans x92; have z93 := (hbA.cell (p := ⟨w.heap.size + 1 + 1, 3, none⟩) l9).trans x93; have z94 := (hbA.cell (p := ⟨w.heap.size + 1 + 1, 4, none⟩) l9).trans x94; have d6 := Lib.hid (c6.out.below (show Below W.heap.size W wA from ⟨hbA.os, hbA.tape, hbA.output, hbA.size, hbA.block⟩) l6); obtain ⟨y0, y1, y2, y3, y4⟩ := d6.out.cells; obtain ⟨v0, v1, v2, v3, v4⟩ := d6.out.frozen))
    go_wp2
    have hbW : Below W.heap.size W wA := ⟨hbA.os, hbA.tape, hbA.output, hbA.size, hbA.block⟩
    refine bodyPost_ret (v := .tuple #[.agg #[.int .i64 wt, .int .i64 wh, .int .i64 0, .int .i64 0, (.slice (some ⟨w1.heap.size, 0, none⟩) (M + 1) (M + 1))], .bool (!p)]) (by simp [results, Try.results41, go_sem, y0, y1, y2, y3, y4]) rfl ?_
    refine ⟨_, rfl, ?_, put5_below (btr BW.out hbW) (by omega) _ _ _ _ _⟩
    rw [HX.out]
    have hl : (setC (setC [] RH rt) T x).length = M + 1 := by
      have h5 := OW.out.1
      rw [ints_length] at h5
      omega
    rw [hl]
    exact own_keepAt OW.out ((put5_heap wA (w.heap.size + 1) _ _ _ _ _ _ (by omega)).trans (hbW.block _ lm))

end Go.Proofs.Ytngfjoifkolaiaa
