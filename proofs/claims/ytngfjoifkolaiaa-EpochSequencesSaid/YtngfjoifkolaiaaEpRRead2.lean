/-
  What Read of the reference of package epoch computes where the second reader comes. No condition.
-/
import Derived.Test.YtngfjoifkolaiaaEpRRead
namespace Go.Proofs.Ytngfjoifkolaiaa
open Go.RowKit

set_option maxHeartbeats 4000000 in
theorem rRead_second (wt wh rt : Int) (RH : Nat) (A : Option Addr) (c : Nat) (rs : List Int) (B : Option Addr) (m d : Nat) (ys : List Int) (T : Nat) (w : World) (p : Bool) (P : Hid (coversC ys wt wh = p))
    (h : RdI w A 0 c rs) (g : RdI w B m d ys) (hT : T < 4) (hRH : RH < 4) (hrb : -9223372036854775808 ≤ rt ∧ rt ≤ 9223372036854775807) (hrt : (rt == 0) = false) (Q : Hid (coversC ys rt (RH : Int) = false)) :
    Calls Try.prog 42 #[.agg #[.int .i64 wt, .int .i64 wh, .int .i64 rt, .int .i64 (RH : Int), .slice A 0 c], .slice B m d, .int .i64 (T : Int)] w fun e w' =>
      ∃ v, e = .returned (.tuple #[.agg #[.int .i64 wt, .int .i64 wh, .int .i64 0, .int .i64 0, v], .bool (!p)]) ∧ w'.ownsRow w.heap.size 3 1 v (setC (setC [] RH rt) T (atC ys T)).length (ints (setC (setC [] RH rt) T (atC ys T))) ∧ Below w.heap.size w w' := by
  have H := Lib.hid h; clear h
  have G := Lib.hid g; clear g
  have hT' : (T : Int) < 4 := by omega
  obtain ⟨x, hx⟩ : ∃ x, atC ys T = x := ⟨_, rfl⟩
  have HX := Lib.hid hx; clear hx
  have hrs : rs = [] := List.eq_nil_of_length_eq_zero H.out.1
  subst hrs
  have HRB := Lib.hid hrb
  clear hrb
  go_enter Try.func42, Try.ntmps42
  go_wp2_with fail
  refine (rCovers_val B m d ys wt wh _ _ P ((G.out.alloc _).alloc _)).mono ?_
  rintro e w1 ⟨rfl, hb1⟩
  have W0 := Lib.hid (bal (bal (Below.refl w.heap.size w) (.cells #[.int .i64 wt, .int .i64 wh, .int .i64 rt, .int .i64 (RH : Int), .slice A 0 c] 45)) (.cells #[.int .i64 0, .int .i64 0, .int .i64 0, .int .i64 0, .slice none 0 0] 45))
  have b3 := Lib.hid (((Blk5.new w (.int .i64 wt) (.int .i64 wh) (.int .i64 rt) (.int .i64 (RH : Int)) (.slice A 0 c)).alloc (.cells #[.int .i64 0, .int .i64 0, .int .i64 0, .int .i64 0, .slice none 0 0] 45)).below hb1 (by simp; omega))
  have b6 : Hid (Blk5 w1 (w.heap.size + 1) (.int .i64 0) (.int .i64 0) (.int .i64 0) (.int .i64 0) (.slice none 0 0)) := Blk5.below (show Blk5 ((w.alloc (.cells #[.int .i64 wt, .int .i64 wh, .int .i64 rt, .int .i64 (RH : Int), .slice A 0 c] 45)).alloc (.cells #[.int .i64 0, .int .i64 0, .int .i64 0, .int .i64 0, .slice none 0 0] 45)) (w.heap.size + 1) (.int .i64 0) (.int .i64 0) (.int .i64 0) (.int .i64 0) (.slice none 0 0) from by simpa using Blk5.new (w.alloc _) (.int .i64 0) (.int .i64 0) (.int .i64 0) (.int .i64 0) (.slice none 0 0)) hb1 (by simp)
  have B1 := Lib.hid (btr W0.out hb1)
  clear hb1 W0
  go_wp2_with fail
  refine (rAt_any B m d ys T _ (G.out.below B1.out)).mono ?_
  rintro e w' ⟨rfl, rfl⟩
  rw [HX.out]
  obtain ⟨x30, x31, x32, x33, x34⟩ := (show Blk5 w1.drew w.heap.size _ _ _ _ _ from b3.out).cells
  have l6 := b6.out.lt
  have l3 : w.heap.size < w1.heap.size := by omega
  have HW : Hid (RdI w1.drew A 0 c []) := (H.out.below B1.out).drewN 0
  have hne13 : w.heap.size ≠ w1.heap.size := by omega
  have HW2 : Hid (RdI (w1.alloc (.cells #[.int .i64 0, .int .i64 0, .int .i64 0, .int .i64 0, .slice none 0 0] 45)).drew A 0 c []) := ((H.out.below B1.out).alloc _).drewN 0
  obtain ⟨q30, q31, q32, q33, q34⟩ := (show Blk5 (w1.alloc (.cells #[.int .i64 0, .int .i64 0, .int .i64 0, .int .i64 0, .slice none 0 0] 45)).drew w.heap.size _ _ _ _ _ from b3.out.alloc _).cells
  go_wp2
  go_region_held3 (fun w' => w'.cell? ⟨w.heap.size, 0, none⟩ = some (.int .i64 wt) ∧ w'.cell? ⟨w.heap.size, 1, none⟩ = some (.int .i64 wh) ∧ w'.cell? ⟨w.heap.size, 2, none⟩ = some (.int .i64 rt) ∧ w'.cell? ⟨w.heap.size, 3, none⟩ = some (.int .i64 (RH : Int)) ∧ w'.cell? ⟨w.heap.size, 4, none⟩ = some (.slice A 0 c)) (first | with_reducible exact ⟨z30, z31, z32, z33, z34⟩ | with_reducible exact ⟨x30, x31, x32, x33, x34⟩ | with_reducible exact ⟨q30, q31, q32, q33, q34⟩ | with_reducible exact ⟨put5x hne13 z30, put5x hne13 z31, put5x hne13 z32, put5x hne13 z33, put5x hne13 z34⟩ | with_reducible exact ⟨alx z30, alx z31, alx z32, alx z33, alx z34⟩ | go_keep)
    (first | (go_at_call 40; refine (rCopy_any A 0 c [] _ ?_ ?_).mono ?_; (with_reducible exact HW.out); omega; rintro e wA ⟨v1, rfl, o1, hbA⟩; obtain ⟨A1, c1, hv1, _⟩ := RdI.of_own o1 H.out.inI; subst hv1; have O1 := Lib.hid o1; clear o1; have z30 := below_cell hbA x30; have z31 := below_cell hbA x31; have z32 := below_cell hbA x32; have z33 := below_cell hbA x33; have z34 := below_cell hbA x34) | (go_at_call 40; refine (rCopy_any A 0 c [] _ ?_ ?_).mono ?_; (with_reducible exact HW2.out); omega; rintro e wA ⟨v1, rfl, o1, hbA⟩; obtain ⟨A1, c1, hv1, _⟩ := RdI.of_own o1 H.out.inI; subst hv1; have O1 := Lib.hid o1; clear o1; have z30 := below_cell hbA q30; have z31 := below_cell hbA q31; have z32 := below_cell hbA q32; have z33 := below_cell hbA q33; have z34 := below_cell hbA q34; have d10 := Lib.hid (Blk5.below (Blk5.new w1 (.int .i64 0) (.int .i64 0) (.int .i64 0) (.int .i64 0) (.slice none 0 0)) (show Below (w1.alloc (.cells #[.int .i64 0, .int .i64 0, .int .i64 0, .int .i64 0, .slice none 0 0] 45)).heap.size (w1.alloc (.cells #[.int .i64 0, .int .i64 0, .int .i64 0, .int .i64 0, .slice none 0 0] 45)) wA from ⟨hbA.os, hbA.tape, hbA.output, hbA.size, hbA.block⟩) (by simp)); obtain ⟨y0, y1, y2, y3, y4⟩ := d10.out.cells; obtain ⟨v0, v1, v2, v3, v4⟩ := d10.out.frozen))
  · have hbB : Below w1.heap.size w1 wA := ⟨hbA.os, hbA.tape, hbA.output, hbA.size, hbA.block⟩
    obtain ⟨W, hW⟩ : ∃ W, W = wA.alloc (.cells #[.int .i64 wt, .int .i64 wh, .int .i64 rt, .int .i64 (RH : Int), .slice A1 0 c1] 45) := ⟨_, rfl⟩
    obtain ⟨g10, hg10⟩ : ∃ g, g = wA.heap.size := ⟨_, rfl⟩
    rw [← hW, ← hg10]
    have c3 : Hid (Blk5 W w.heap.size (.int .i64 wt) (.int .i64 wh) (.int .i64 rt) (.int .i64 (RH : Int)) (.slice A 0 c)) := by rw [hW]; exact (b3.out.below hbB l3).alloc _
    have c6 : Hid (Blk5 W (w.heap.size + 1) (.int .i64 0) (.int .i64 0) (.int .i64 0) (.int .i64 0) (.slice none 0 0)) := by rw [hW]; exact (b6.out.below hbB l6).alloc _
    have c10 : Hid (Blk5 W g10 (.int .i64 wt) (.int .i64 wh) (.int .i64 rt) (.int .i64 (RH : Int)) (.slice A1 0 c1)) := by rw [hW, hg10]; exact Blk5.new wA _ _ _ _ _
    have hg6 : w.heap.size + 1 < g10 := by have := hbB.size; omega
    have BW : Hid (Below w.heap.size w W) := by rw [hW]; exact bal (btr B1.out hbB) _
    have hdis : Hid (∀ k, (Value.slice A1 0 c1).ownBlock = some k → k ≠ g10 ∧ k ≠ w.heap.size + 1 ∧ k < W.heap.size) := fun k hk => by
      obtain ⟨h1, h2⟩ := O1.out.lt k hk
      have h3 : w1.heap.size ≤ k := h1
      have h4 : W.heap.size = wA.heap.size + 1 := by rw [hW]; simp
      omega
    have OW : Hid (W.ownsRow w.heap.size 3 1 (.slice A1 0 c1) 0 (ints [])) := by
      rw [hW]; exact own_base (O1.out.alloc _) (show w.heap.size ≤ w1.heap.size by omega)
    clear hW hg10 hbA hbB O1 b3 b6 B1 x30 x31 x32 x33 x34 q30 q31 q32 q33 q34 z30 z31 z32 z33 z34 HW HW2 hne13
    obtain ⟨x30, x31, x32, x33, x34⟩ := c3.out.cells
    go_wp2_with fail
    refine (rCovers_val B m d ys rt RH W _ Q (G.out.below BW.out)).mono ?_
    rintro e w3 ⟨rfl, hb3⟩
    have d3 := Lib.hid (c3.out.below hb3 c3.out.lt)
    have d6 := Lib.hid (c6.out.below hb3 c6.out.lt)
    have d10 := Lib.hid (c10.out.below hb3 c10.out.lt)
    have B3 := Lib.hid (btr BW.out hb3)
    clear x30 x31 x32 x33 x34
    obtain ⟨x30, x31, x32, x33, x34⟩ := d3.out.cells
    obtain ⟨u0, u1, u2, u3, u4⟩ := d10.out.cells
    obtain ⟨r0, r1, r2, r3, r4⟩ := d10.out.frozen
    have hne : w.heap.size + 1 ≠ g10 := by omega
    have hne' : g10 ≠ w.heap.size + 1 := by omega
    have hne3 : w.heap.size ≠ g10 := by omega
    have l3 : g10 < w3.heap.size := d10.out.lt
    clear hb3
    go_wp2_with fail
    obtain ⟨X, hX⟩ : ∃ X, X = (w3.setCell ⟨g10, 2, none⟩ (.int .i64 0)).setCell ⟨g10, 3, none⟩ (.int .i64 0) := ⟨_, rfl⟩
    rw [← hX]
    have e6 : Hid (Blk5 X (w.heap.size + 1) (.int .i64 0) (.int .i64 0) (.int .i64 0) (.int .i64 0) (.slice none 0 0)) := by rw [hX]; exact (d6.out.far2 hne _).far2 hne _
    have e10 : Hid (Blk5 X g10 (.int .i64 wt) (.int .i64 wh) (.int .i64 0) (.int .i64 0) (.slice A1 0 c1)) := by rw [hX]; exact d10.out.set23 _ _
    have BX : Hid (Below w.heap.size w X) := by rw [hX]; exact (B3.out.setCell (p := ⟨g10, 2, none⟩) (show w.heap.size ≤ g10 by omega) _).setCell (p := ⟨g10, 3, none⟩) (show w.heap.size ≤ g10 by omega) _
    clear hX u0 u1 u2 u3 u4 r0 r1 r2 r3 r4 x30 x31 x32 x33 x34 d6 d10 B3
    refine (rset_any none 0 0 [] RH rt X (RdI.nil_ X) hRH (by omega)).mono ?_
    rintro e w4 ⟨v4, rfl, o4, hb4⟩
    have i4 : InI (setC [] RH rt) := setC_in (by intro y hy; cases hy) RH HRB.out
    obtain ⟨A4, k4, hv4, q4⟩ := RdI.of_own o4 i4
    subst hv4
    have l4 : (setC [] RH rt).length ≤ 65536 := by rw [setC_length]; simp; omega
    have Q4 := Lib.hid q4
    have I4 := Lib.hid i4
    have g6 := Lib.hid (e6.out.below hb4 e6.out.lt)
    have g0 := Lib.hid (e10.out.below hb4 e10.out.lt)
    have B4 := Lib.hid (btr BX.out hb4)
    clear o4 hb4 q4 i4
    go_wp2_with fail
    refine (rset_any A4 _ k4 (setC [] RH rt) T x w4 Q4.out hT l4).mono ?_
    rintro e w5 ⟨v5, rfl, o5, hb5⟩
    obtain ⟨A5, k5, hv5, _⟩ := RdI.of_own o5 (setC_in I4.out T (by rw [← HX.out]; exact atC_in G.out.inI T))
    subst hv5
    have O5 := Lib.hid o5
    have h6 := Lib.hid (g6.out.below hb5 g6.out.lt)
    have h10 := Lib.hid (g0.out.below hb5 g0.out.lt)
    have B5 := Lib.hid (btr B4.out hb5)
    have l10' : g10 < w4.heap.size := g0.out.lt
    clear o5 hb5
    obtain ⟨y0, y1, y2, y3, y4⟩ := h6.out.cells
    obtain ⟨f0, f1, f2, f3, f4⟩ := h6.out.frozen
    obtain ⟨u0, u1, u2, u3, u4⟩ := h10.out.cells
    obtain ⟨r0, r1, r2, r3, r4⟩ := h10.out.frozen
    go_wp2
    refine bodyPost_ret (v := .tuple #[.agg #[.int .i64 wt, .int .i64 wh, .int .i64 0, .int .i64 0, .slice A5 (setC (setC [] RH rt) T x).length k5], .bool (!p)]) (by simp [results, Try.results42, go_sem, y0, y1, y2, y3, y4]) rfl ?_
    rw [HX.out]
    refine ⟨_, rfl, ?_, put5_below (B5.out.setCell (p := ⟨g10, 4, none⟩) (show w.heap.size ≤ g10 by omega) _) (by omega) _ _ _ _ _⟩
    refine own_keepV (own_base O5.out B4.out.size) fun k hk => ?_
    have hk1 := (O5.out.lt k hk).1
    exact (put5_heap _ _ _ _ _ _ _ _ (by omega)).trans (Below.heap_setCell _ _ _ _ (show k ≠ g10 by omega))
  · have hbB : Below w1.heap.size w1 wA := (bal (Below.refl w1.heap.size w1) (.cells #[.int .i64 0, .int .i64 0, .int .i64 0, .int .i64 0, .slice none 0 0] 45)).trans ((show Below (w1.alloc (.cells #[.int .i64 0, .int .i64 0, .int .i64 0, .int .i64 0, .slice none 0 0] 45)).heap.size (w1.alloc (.cells #[.int .i64 0, .int .i64 0, .int .i64 0, .int .i64 0, .slice none 0 0] 45)) wA from ⟨hbA.os, hbA.tape, hbA.output, hbA.size, hbA.block⟩).mono (by simp))
    obtain ⟨W, hW⟩ : ∃ W, W = put5 wA w1.heap.size (.int .i64 wt) (.int .i64 wh) (.int .i64 rt) (.int .i64 (RH : Int)) (.slice A1 0 c1) := ⟨_, rfl⟩
    obtain ⟨g10, hg10⟩ : ∃ g, g = w1.heap.size := ⟨_, rfl⟩
    rw [show (((((wA.setCell ⟨w1.heap.size, 0, none⟩ (.int .i64 wt)).setCell ⟨w1.heap.size, 1, none⟩ (.int .i64 wh)).setCell ⟨w1.heap.size, 2, none⟩ (.int .i64 rt)).setCell ⟨w1.heap.size, 3, none⟩ (.int .i64 (RH : Int))).setCell ⟨w1.heap.size, 4, none⟩ (.slice A1 0 c1)) = W from hW.symm, ← hg10]
    have c3 : Hid (Blk5 W w.heap.size (.int .i64 wt) (.int .i64 wh) (.int .i64 rt) (.int .i64 (RH : Int)) (.slice A 0 c)) := by rw [hW]; exact (put5_heap _ _ _ _ _ _ _ _ hne13).trans (b3.out.below hbB l3)
    have c6 : Hid (Blk5 W (w.heap.size + 1) (.int .i64 0) (.int .i64 0) (.int .i64 0) (.int .i64 0) (.slice none 0 0)) := by rw [hW]; exact (put5_heap _ _ _ _ _ _ _ _ (by omega)).trans (b6.out.below hbB l6)
    have c10 : Hid (Blk5 W g10 (.int .i64 wt) (.int .i64 wh) (.int .i64 rt) (.int .i64 (RH : Int)) (.slice A1 0 c1)) := by rw [hW, hg10]; exact put5_blk d10.out _ _ _ _ _
    have hg6 : w.heap.size + 1 < g10 := by omega
    have BW : Hid (Below w.heap.size w W) := by rw [hW]; exact put5_below (btr B1.out hbB) (by omega) _ _ _ _ _
    have hdis : Hid (∀ k, (Value.slice A1 0 c1).ownBlock = some k → k ≠ g10 ∧ k ≠ w.heap.size + 1 ∧ k < W.heap.size) := fun k hk => by
      obtain ⟨h1, h2⟩ := O1.out.lt k hk
      have h3 : w1.heap.size + 1 ≤ k := by simpa using h1
      have h4 : W.heap.size = wA.heap.size := by rw [hW]; exact put5_size _ _ _ _ _ _ _
      omega
    have OW : Hid (W.ownsRow w.heap.size 3 1 (.slice A1 0 c1) 0 (ints [])) := by
      rw [hW]
      refine own_keepV (own_base O1.out (by simp; omega)) fun k hk => put5_heap _ _ _ _ _ _ _ _ ?_
      have h1 : w1.heap.size + 1 ≤ k := by simpa using (O1.out.lt k hk).1
      omega
    clear hW hg10 hbA hbB O1 b3 b6 B1 x30 x31 x32 x33 x34 q30 q31 q32 q33 q34 z30 z31 z32 z33 z34 HW HW2 hne13 d10 y0 y1 y2 y3 y4 v0 v1 v2 v3 v4
    obtain ⟨x30, x31, x32, x33, x34⟩ := c3.out.cells
    go_wp2_with fail
    refine (rCovers_val B m d ys rt RH W _ Q (G.out.below BW.out)).mono ?_
    rintro e w3 ⟨rfl, hb3⟩
    have d3 := Lib.hid (c3.out.below hb3 c3.out.lt)
    have d6 := Lib.hid (c6.out.below hb3 c6.out.lt)
    have d10 := Lib.hid (c10.out.below hb3 c10.out.lt)
    have B3 := Lib.hid (btr BW.out hb3)
    clear x30 x31 x32 x33 x34
    obtain ⟨x30, x31, x32, x33, x34⟩ := d3.out.cells
    obtain ⟨u0, u1, u2, u3, u4⟩ := d10.out.cells
    obtain ⟨r0, r1, r2, r3, r4⟩ := d10.out.frozen
    have hne : w.heap.size + 1 ≠ g10 := by omega
    have hne' : g10 ≠ w.heap.size + 1 := by omega
    have hne3 : w.heap.size ≠ g10 := by omega
    have l3 : g10 < w3.heap.size := d10.out.lt
    clear hb3
    go_wp2_with fail
    obtain ⟨X, hX⟩ : ∃ X, X = (w3.setCell ⟨g10, 2, none⟩ (.int .i64 0)).setCell ⟨g10, 3, none⟩ (.int .i64 0) := ⟨_, rfl⟩
    rw [← hX]
    have e6 : Hid (Blk5 X (w.heap.size + 1) (.int .i64 0) (.int .i64 0) (.int .i64 0) (.int .i64 0) (.slice none 0 0)) := by rw [hX]; exact (d6.out.far2 hne _).far2 hne _
    have e10 : Hid (Blk5 X g10 (.int .i64 wt) (.int .i64 wh) (.int .i64 0) (.int .i64 0) (.slice A1 0 c1)) := by rw [hX]; exact d10.out.set23 _ _
    have BX : Hid (Below w.heap.size w X) := by rw [hX]; exact (B3.out.setCell (p := ⟨g10, 2, none⟩) (show w.heap.size ≤ g10 by omega) _).setCell (p := ⟨g10, 3, none⟩) (show w.heap.size ≤ g10 by omega) _
    clear hX u0 u1 u2 u3 u4 r0 r1 r2 r3 r4 x30 x31 x32 x33 x34 d6 d10 B3
    refine (rset_any none 0 0 [] RH rt X (RdI.nil_ X) hRH (by omega)).mono ?_
    rintro e w4 ⟨v4, rfl, o4, hb4⟩
    have i4 : InI (setC [] RH rt) := setC_in (by intro y hy; cases hy) RH HRB.out
    obtain ⟨A4, k4, hv4, q4⟩ := RdI.of_own o4 i4
    subst hv4
    have l4 : (setC [] RH rt).length ≤ 65536 := by rw [setC_length]; simp; omega
    have Q4 := Lib.hid q4
    have I4 := Lib.hid i4
    have g6 := Lib.hid (e6.out.below hb4 e6.out.lt)
    have g0 := Lib.hid (e10.out.below hb4 e10.out.lt)
    have B4 := Lib.hid (btr BX.out hb4)
    clear o4 hb4 q4 i4
    go_wp2_with fail
    refine (rset_any A4 _ k4 (setC [] RH rt) T x w4 Q4.out hT l4).mono ?_
    rintro e w5 ⟨v5, rfl, o5, hb5⟩
    obtain ⟨A5, k5, hv5, _⟩ := RdI.of_own o5 (setC_in I4.out T (by rw [← HX.out]; exact atC_in G.out.inI T))
    subst hv5
    have O5 := Lib.hid o5
    have h6 := Lib.hid (g6.out.below hb5 g6.out.lt)
    have h10 := Lib.hid (g0.out.below hb5 g0.out.lt)
    have B5 := Lib.hid (btr B4.out hb5)
    have l10' : g10 < w4.heap.size := g0.out.lt
    clear o5 hb5
    obtain ⟨y0, y1, y2, y3, y4⟩ := h6.out.cells
    obtain ⟨f0, f1, f2, f3, f4⟩ := h6.out.frozen
    obtain ⟨u0, u1, u2, u3, u4⟩ := h10.out.cells
    obtain ⟨r0, r1, r2, r3, r4⟩ := h10.out.frozen
    go_wp2
    refine bodyPost_ret (v := .tuple #[.agg #[.int .i64 wt, .int .i64 wh, .int .i64 0, .int .i64 0, .slice A5 (setC (setC [] RH rt) T x).length k5], .bool (!p)]) (by simp [results, Try.results42, go_sem, y0, y1, y2, y3, y4]) rfl ?_
    rw [HX.out]
    refine ⟨_, rfl, ?_, put5_below (B5.out.setCell (p := ⟨g10, 4, none⟩) (show w.heap.size ≤ g10 by omega) _) (by omega) _ _ _ _ _⟩
    refine own_keepV (own_base O5.out B4.out.size) fun k hk => ?_
    have hk1 := (O5.out.lt k hk).1
    exact (put5_heap _ _ _ _ _ _ _ _ (by omega)).trans (Below.heap_setCell _ _ _ _ (show k ≠ g10 by omega))

end Go.Proofs.Ytngfjoifkolaiaa
