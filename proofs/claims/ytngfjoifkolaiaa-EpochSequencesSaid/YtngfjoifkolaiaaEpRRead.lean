/-
  What Read of the reference of package epoch computes. No condition.
-/
import Derived.Test.YtngfjoifkolaiaaEpRef
namespace Go.Proofs.Ytngfjoifkolaiaa
open Go.RowKit

theorem own_base {w : World} {b b' : Nat} {e : TypeId} {v : Value} {n : Nat} {xs : List Value} (h : w.ownsRow b e 1 v n xs) (hb : b' ≤ b) : w.ownsRow b' e 1 v n xs := by
  refine ⟨h.1, ?_⟩
  rcases h.2 with h1 | ⟨g, cap, cur, h1, h2, h3⟩
  · exact .inl h1
  · exact .inr ⟨g, cap, cur, h1, by omega, h3⟩
theorem own_keepV {w w' : World} {b : Nat} {e : TypeId} {v : Value} {n : Nat} {xs : List Value} (h : w.ownsRow b e 1 v n xs) (hg : ∀ k, v.ownBlock = some k → w'.heap[k]? = w.heap[k]?) : w'.ownsRow b e 1 v n xs := by
  refine ⟨h.1, ?_⟩
  rcases h.2 with h1 | ⟨g, cap, cur, h1, h2, h3, h4⟩
  · exact .inl h1
  · exact .inr ⟨g, cap, cur, h1, h2, by rw [hg g (by rw [h1]; rfl)]; exact h3, h4⟩
theorem put5x {w : World} {b k i : Nat} {a0 a1 a2 a3 a4 v : Value} (h : k ≠ b) (hv : w.cell? ⟨k, i, none⟩ = some v) : (((((w.setCell ⟨b, 0, none⟩ a0).setCell ⟨b, 1, none⟩ a1).setCell ⟨b, 2, none⟩ a2).setCell ⟨b, 3, none⟩ a3).setCell ⟨b, 4, none⟩ a4).cell? ⟨k, i, none⟩ = some v := by
  rw [World.cell?_setCell_other _ _ _ _ (by intro hh; injection hh; omega), World.cell?_setCell_other _ _ _ _ (by intro hh; injection hh; omega), World.cell?_setCell_other _ _ _ _ (by intro hh; injection hh; omega), World.cell?_setCell_other _ _ _ _ (by intro hh; injection hh; omega), World.cell?_setCell_other _ _ _ _ (by intro hh; injection hh; omega)]
  exact hv
theorem alx {w : World} {o : Obj} {p : Addr} {v : Value} (h : w.cell? p = some v) : (w.alloc o).cell? p = some v := (World.cell?_alloc_lt _ _ _ (World.block_lt_of_cell? w p h)).trans h
theorem below_cell {w w' : World} (hb : Below w.heap.size w w') {p : Addr} {v : Value} (h : w.cell? p = some v) : w'.cell? p = some v := (hb.cell (World.block_lt_of_cell? _ _ h)).trans h
theorem rCovers_val (A : Option Addr) (n c : Nat) (xs : List Int) (time thread : Int) (w : World) (b : Bool) (hb : Hid (coversC xs time thread = b)) (h : RdI w A n c xs) :
    Calls Try.prog 31 #[.slice A n c, .agg #[.int .i64 time, .int .i64 thread]] w fun e w' => e = .returned (.bool b) ∧ Below w.heap.size w w' := by
  rw [← hb.out]; exact rCovers_any A n c xs time thread w h

set_option maxHeartbeats 4000000 in
theorem rRead_many (wt wh rt : Int) (rh : Int) (A : Option Addr) (n c : Nat) (rs : List Int) (B : Option Addr) (m d : Nat) (ys : List Int) (T : Nat) (w : World) (p : Bool) (P : Hid (coversC ys wt wh = p))
    (h : RdI w A n c rs) (g : RdI w B m d ys) (hT : T < 4) (hn : n ≤ 65536) (hn0 : 0 < n) :
    Calls Try.prog 42 #[.agg #[.int .i64 wt, .int .i64 wh, .int .i64 rt, .int .i64 rh, .slice A n c], .slice B m d, .int .i64 (T : Int)] w fun e w' =>
      ∃ v, e = .returned (.tuple #[.agg #[.int .i64 wt, .int .i64 wh, .int .i64 rt, .int .i64 rh, v], .bool (!p)]) ∧ w'.ownsRow w.heap.size 3 1 v (setC rs T (atC ys T)).length (ints (setC rs T (atC ys T))) ∧ Below w.heap.size w w' := by
  have H := Lib.hid h; clear h
  have G := Lib.hid g; clear g
  have hT' : (T : Int) < 4 := by omega
  obtain ⟨x, hx⟩ : ∃ x, atC ys T = x := ⟨_, rfl⟩
  have HX := Lib.hid hx; clear hx
  go_enter Try.func42, Try.ntmps42
  go_wp2_with fail
  refine (rCovers_val B m d ys wt wh _ _ P ((G.out.alloc _).alloc _)).mono ?_
  rintro e w1 ⟨rfl, hb1⟩
  have W0 := Lib.hid (bal (bal (Below.refl w.heap.size w) (.cells #[.int .i64 wt, .int .i64 wh, .int .i64 rt, .int .i64 rh, .slice A n c] 45)) (.cells #[.int .i64 0, .int .i64 0, .int .i64 0, .int .i64 0, .slice none 0 0] 45))
  have b3 := Lib.hid (((Blk5.new w (.int .i64 wt) (.int .i64 wh) (.int .i64 rt) (.int .i64 rh) (.slice A n c)).alloc (.cells #[.int .i64 0, .int .i64 0, .int .i64 0, .int .i64 0, .slice none 0 0] 45)).below hb1 (by simp; omega))
  have b6 : Hid (Blk5 w1 (w.heap.size + 1) (.int .i64 0) (.int .i64 0) (.int .i64 0) (.int .i64 0) (.slice none 0 0)) := Blk5.below (show Blk5 ((w.alloc (.cells #[.int .i64 wt, .int .i64 wh, .int .i64 rt, .int .i64 rh, .slice A n c] 45)).alloc (.cells #[.int .i64 0, .int .i64 0, .int .i64 0, .int .i64 0, .slice none 0 0] 45)) (w.heap.size + 1) (.int .i64 0) (.int .i64 0) (.int .i64 0) (.int .i64 0) (.slice none 0 0) from by simpa using Blk5.new (w.alloc _) (.int .i64 0) (.int .i64 0) (.int .i64 0) (.int .i64 0) (.slice none 0 0)) hb1 (by simp)
  have B1 := Lib.hid (btr W0.out hb1)
  clear hb1 W0
  go_wp2_with fail
  refine (rAt_any B m d ys T _ (G.out.below B1.out)).mono ?_
  rintro e w' ⟨rfl, rfl⟩
  rw [HX.out]
  obtain ⟨x30, x31, x32, x33, x34⟩ := (show Blk5 w1.drew w.heap.size _ _ _ _ _ from b3.out).cells
  have l6 := b6.out.lt
  have l3 : w.heap.size < w1.heap.size := by omega
  have HW : Hid (RdI w1.drew A n c rs) := (H.out.below B1.out).drewN 0
  have hne13 : w.heap.size ≠ w1.heap.size := by omega
  have HW2 : Hid (RdI (w1.alloc (.cells #[.int .i64 0, .int .i64 0, .int .i64 0, .int .i64 0, .slice none 0 0] 45)).drew A n c rs) := ((H.out.below B1.out).alloc _).drewN 0
  obtain ⟨q30, q31, q32, q33, q34⟩ := (show Blk5 (w1.alloc (.cells #[.int .i64 0, .int .i64 0, .int .i64 0, .int .i64 0, .slice none 0 0] 45)).drew w.heap.size _ _ _ _ _ from b3.out.alloc _).cells
  go_wp2
  go_region_held3 (fun w' => w'.cell? ⟨w.heap.size, 0, none⟩ = some (.int .i64 wt) ∧ w'.cell? ⟨w.heap.size, 1, none⟩ = some (.int .i64 wh) ∧ w'.cell? ⟨w.heap.size, 2, none⟩ = some (.int .i64 rt) ∧ w'.cell? ⟨w.heap.size, 3, none⟩ = some (.int .i64 rh) ∧ w'.cell? ⟨w.heap.size, 4, none⟩ = some (.slice A n c)) (first | with_reducible exact ⟨z30, z31, z32, z33, z34⟩ | with_reducible exact ⟨x30, x31, x32, x33, x34⟩ | with_reducible exact ⟨q30, q31, q32, q33, q34⟩ | with_reducible exact ⟨put5x hne13 z30, put5x hne13 z31, put5x hne13 z32, put5x hne13 z33, put5x hne13 z34⟩ | with_reducible exact ⟨alx z30, alx z31, alx z32, alx z33, alx z34⟩ | go_keep)
    (first | (go_at_call 40; refine (rCopy_any A n c rs _ ?_ ?_).mono ?_; (with_reducible exact HW.out); omega; rintro e wA ⟨v1, rfl, o1, hbA⟩; obtain ⟨A1, c1, hv1, _⟩ := RdI.of_own o1 H.out.inI; subst hv1; have O1 := Lib.hid o1; clear o1; have z30 := below_cell hbA x30; have z31 := below_cell hbA x31; have z32 := below_cell hbA x32; have z33 := below_cell hbA x33; have z34 := below_cell hbA x34) | (go_at_call 40; refine (rCopy_any A n c rs _ ?_ ?_).mono ?_; (with_reducible exact HW2.out); omega; rintro e wA ⟨v1, rfl, o1, hbA⟩; obtain ⟨A1, c1, hv1, _⟩ := RdI.of_own o1 H.out.inI; subst hv1; have O1 := Lib.hid o1; clear o1; have z30 := below_cell hbA q30; have z31 := below_cell hbA q31; have z32 := below_cell hbA q32; have z33 := below_cell hbA q33; have z34 := below_cell hbA q34; have d10 := Lib.hid (Blk5.below (Blk5.new w1 (.int .i64 0) (.int .i64 0) (.int .i64 0) (.int .i64 0) (.slice none 0 0)) (show Below (w1.alloc (.cells #[.int .i64 0, .int .i64 0, .int .i64 0, .int .i64 0, .slice none 0 0] 45)).heap.size (w1.alloc (.cells #[.int .i64 0, .int .i64 0, .int .i64 0, .int .i64 0, .slice none 0 0] 45)) wA from ⟨hbA.os, hbA.tape, hbA.output, hbA.size, hbA.block⟩) (by simp)); obtain ⟨y0, y1, y2, y3, y4⟩ := d10.out.cells; obtain ⟨v0, v1, v2, v3, v4⟩ := d10.out.frozen))
  · have hbB : Below w1.heap.size w1 wA := ⟨hbA.os, hbA.tape, hbA.output, hbA.size, hbA.block⟩
    obtain ⟨W, hW⟩ : ∃ W, W = wA.alloc (.cells #[.int .i64 wt, .int .i64 wh, .int .i64 rt, .int .i64 rh, .slice A1 n c1] 45) := ⟨_, rfl⟩
    obtain ⟨g10, hg10⟩ : ∃ g, g = wA.heap.size := ⟨_, rfl⟩
    rw [← hW, ← hg10]
    have c3 : Hid (Blk5 W w.heap.size (.int .i64 wt) (.int .i64 wh) (.int .i64 rt) (.int .i64 rh) (.slice A n c)) := by rw [hW]; exact (b3.out.below hbB l3).alloc _
    have c6 : Hid (Blk5 W (w.heap.size + 1) (.int .i64 0) (.int .i64 0) (.int .i64 0) (.int .i64 0) (.slice none 0 0)) := by rw [hW]; exact (b6.out.below hbB l6).alloc _
    have c10 : Hid (Blk5 W g10 (.int .i64 wt) (.int .i64 wh) (.int .i64 rt) (.int .i64 rh) (.slice A1 n c1)) := by rw [hW, hg10]; exact Blk5.new wA _ _ _ _ _
    have hg6 : w.heap.size + 1 < g10 := by have := hbB.size; omega
    have BW : Hid (Below w.heap.size w W) := by rw [hW]; exact bal (btr B1.out hbB) _
    have hdis : Hid (∀ k, (Value.slice A1 n c1).ownBlock = some k → k ≠ g10 ∧ k ≠ w.heap.size + 1 ∧ k < W.heap.size) := fun k hk => by
      obtain ⟨h1, h2⟩ := O1.out.lt k hk
      have h3 : w1.heap.size ≤ k := h1
      have h4 : W.heap.size = wA.heap.size + 1 := by rw [hW]; simp
      omega
    have OW : Hid (W.ownsRow w.heap.size 3 1 (.slice A1 n c1) n (ints rs)) := by
      rw [hW]; exact own_base (O1.out.alloc _) (show w.heap.size ≤ w1.heap.size by omega)
    clear hW hg10 hbA hbB O1 b3 b6 B1 x30 x31 x32 x33 x34 q30 q31 q32 q33 q34 z30 z31 z32 z33 z34 HW HW2 hne13
    obtain ⟨x30, x31, x32, x33, x34⟩ := c3.out.cells
    go_wp2_with fail
    refine (rset_any A n c rs T x W (H.out.below BW.out) hT hn).mono ?_
    rintro e w3 ⟨v3, rfl, o3, hb3⟩
    obtain ⟨A3, k3, hv3, _⟩ := RdI.of_own o3 (setC_in H.out.inI T (by rw [← HX.out]; exact atC_in G.out.inI T))
    subst hv3
    have O3 := Lib.hid o3
    have d6 := Lib.hid (c6.out.below hb3 c6.out.lt)
    have d10 := Lib.hid (c10.out.below hb3 c10.out.lt)
    obtain ⟨y0, y1, y2, y3, y4⟩ := d6.out.cells
    obtain ⟨f0, f1, f2, f3, f4⟩ := d6.out.frozen
    obtain ⟨u0, u1, u2, u3, u4⟩ := d10.out.cells
    obtain ⟨r0, r1, r2, r3, r4⟩ := d10.out.frozen
    have hne : w.heap.size + 1 ≠ g10 := by omega
    have hne' : g10 ≠ w.heap.size + 1 := by omega
    have l10 : g10 < W.heap.size := c10.out.lt
    have B3 := Lib.hid (btr BW.out hb3)
    clear o3 hb3
    go_wp2
    refine bodyPost_ret (v := .tuple #[.agg #[.int .i64 wt, .int .i64 wh, .int .i64 rt, .int .i64 rh, .slice A3 (setC rs T x).length k3], .bool (!p)]) (by simp [results, Try.results42, go_sem, y0, y1, y2, y3, y4]) rfl ?_
    rw [HX.out]
    refine ⟨_, rfl, ?_, put5_below (B3.out.setCell (p := ⟨g10, 4, none⟩) (show w.heap.size ≤ g10 by omega) _) (by omega) _ _ _ _ _⟩
    refine own_keepV (own_base O3.out BW.out.size) fun k hk => ?_
    have hk1 := (O3.out.lt k hk).1
    exact (put5_heap _ _ _ _ _ _ _ _ (by omega)).trans (Below.heap_setCell _ _ _ _ (show k ≠ g10 by omega))
  · have hbB : Below w1.heap.size w1 wA := (bal (Below.refl w1.heap.size w1) (.cells #[.int .i64 0, .int .i64 0, .int .i64 0, .int .i64 0, .slice none 0 0] 45)).trans ((show Below (w1.alloc (.cells #[.int .i64 0, .int .i64 0, .int .i64 0, .int .i64 0, .slice none 0 0] 45)).heap.size (w1.alloc (.cells #[.int .i64 0, .int .i64 0, .int .i64 0, .int .i64 0, .slice none 0 0] 45)) wA from ⟨hbA.os, hbA.tape, hbA.output, hbA.size, hbA.block⟩).mono (by simp))
    obtain ⟨W, hW⟩ : ∃ W, W = put5 wA w1.heap.size (.int .i64 wt) (.int .i64 wh) (.int .i64 rt) (.int .i64 rh) (.slice A1 n c1) := ⟨_, rfl⟩
    obtain ⟨g10, hg10⟩ : ∃ g, g = w1.heap.size := ⟨_, rfl⟩
    rw [show (((((wA.setCell ⟨w1.heap.size, 0, none⟩ (.int .i64 wt)).setCell ⟨w1.heap.size, 1, none⟩ (.int .i64 wh)).setCell ⟨w1.heap.size, 2, none⟩ (.int .i64 rt)).setCell ⟨w1.heap.size, 3, none⟩ (.int .i64 rh)).setCell ⟨w1.heap.size, 4, none⟩ (.slice A1 n c1)) = W from hW.symm, ← hg10]
    have c3 : Hid (Blk5 W w.heap.size (.int .i64 wt) (.int .i64 wh) (.int .i64 rt) (.int .i64 rh) (.slice A n c)) := by rw [hW]; exact (put5_heap _ _ _ _ _ _ _ _ hne13).trans (b3.out.below hbB l3)
    have c6 : Hid (Blk5 W (w.heap.size + 1) (.int .i64 0) (.int .i64 0) (.int .i64 0) (.int .i64 0) (.slice none 0 0)) := by rw [hW]; exact (put5_heap _ _ _ _ _ _ _ _ (by omega)).trans (b6.out.below hbB l6)
    have c10 : Hid (Blk5 W g10 (.int .i64 wt) (.int .i64 wh) (.int .i64 rt) (.int .i64 rh) (.slice A1 n c1)) := by rw [hW, hg10]; exact put5_blk d10.out _ _ _ _ _
    have hg6 : w.heap.size + 1 < g10 := by omega
    have BW : Hid (Below w.heap.size w W) := by rw [hW]; exact put5_below (btr B1.out hbB) (by omega) _ _ _ _ _
    have hdis : Hid (∀ k, (Value.slice A1 n c1).ownBlock = some k → k ≠ g10 ∧ k ≠ w.heap.size + 1 ∧ k < W.heap.size) := fun k hk => by
      obtain ⟨h1, h2⟩ := O1.out.lt k hk
      have h3 : w1.heap.size + 1 ≤ k := by simpa using h1
      have h4 : W.heap.size = wA.heap.size := by rw [hW]; exact put5_size _ _ _ _ _ _ _
      omega
    have OW : Hid (W.ownsRow w.heap.size 3 1 (.slice A1 n c1) n (ints rs)) := by
      rw [hW]
      refine own_keepV (own_base O1.out (by simp; omega)) fun k hk => put5_heap _ _ _ _ _ _ _ _ ?_
      have h1 : w1.heap.size + 1 ≤ k := by simpa using (O1.out.lt k hk).1
      omega
    clear hW hg10 hbA hbB O1 b3 b6 B1 x30 x31 x32 x33 x34 q30 q31 q32 q33 q34 z30 z31 z32 z33 z34 HW HW2 hne13 d10 y0 y1 y2 y3 y4 v0 v1 v2 v3 v4
    obtain ⟨x30, x31, x32, x33, x34⟩ := c3.out.cells
    go_wp2_with fail
    refine (rset_any A n c rs T x W (H.out.below BW.out) hT hn).mono ?_
    rintro e w3 ⟨v3, rfl, o3, hb3⟩
    obtain ⟨A3, k3, hv3, _⟩ := RdI.of_own o3 (setC_in H.out.inI T (by rw [← HX.out]; exact atC_in G.out.inI T))
    subst hv3
    have O3 := Lib.hid o3
    have d6 := Lib.hid (c6.out.below hb3 c6.out.lt)
    have d10 := Lib.hid (c10.out.below hb3 c10.out.lt)
    obtain ⟨y0, y1, y2, y3, y4⟩ := d6.out.cells
    obtain ⟨f0, f1, f2, f3, f4⟩ := d6.out.frozen
    obtain ⟨u0, u1, u2, u3, u4⟩ := d10.out.cells
    obtain ⟨r0, r1, r2, r3, r4⟩ := d10.out.frozen
    have hne : w.heap.size + 1 ≠ g10 := by omega
    have hne' : g10 ≠ w.heap.size + 1 := by omega
    have l10 : g10 < W.heap.size := c10.out.lt
    have B3 := Lib.hid (btr BW.out hb3)
    clear o3 hb3
    go_wp2
    refine bodyPost_ret (v := .tuple #[.agg #[.int .i64 wt, .int .i64 wh, .int .i64 rt, .int .i64 rh, .slice A3 (setC rs T x).length k3], .bool (!p)]) (by simp [results, Try.results42, go_sem, y0, y1, y2, y3, y4]) rfl ?_
    rw [HX.out]
    refine ⟨_, rfl, ?_, put5_below (B3.out.setCell (p := ⟨g10, 4, none⟩) (show w.heap.size ≤ g10 by omega) _) (by omega) _ _ _ _ _⟩
    refine own_keepV (own_base O3.out BW.out.size) fun k hk => ?_
    have hk1 := (O3.out.lt k hk).1
    exact (put5_heap _ _ _ _ _ _ _ _ (by omega)).trans (Below.heap_setCell _ _ _ _ (show k ≠ g10 by omega))

set_option maxHeartbeats 4000000 in
theorem rRead_fresh (wt wh rt : Int) (rh : Int) (A : Option Addr) (c : Nat) (rs : List Int) (B : Option Addr) (m d : Nat) (ys : List Int) (T : Nat) (w : World) (p : Bool) (P : Hid (coversC ys wt wh = p))
    (h : RdI w A 0 c rs) (g : RdI w B m d ys) (hT : T < 4) (hrt : rt = 0) :
    Calls Try.prog 42 #[.agg #[.int .i64 wt, .int .i64 wh, .int .i64 rt, .int .i64 rh, .slice A 0 c], .slice B m d, .int .i64 (T : Int)] w fun e w' =>
      ∃ v, e = .returned (.tuple #[.agg #[.int .i64 wt, .int .i64 wh, .int .i64 (atC ys T), .int .i64 T, v], .bool (!p)]) ∧ w'.ownsRow w.heap.size 3 1 v (([] : List Int)).length (ints (([] : List Int))) ∧ Below w.heap.size w w' := by
  have H := Lib.hid h; clear h
  have G := Lib.hid g; clear g
  have hT' : (T : Int) < 4 := by omega
  obtain ⟨x, hx⟩ : ∃ x, atC ys T = x := ⟨_, rfl⟩
  have HX := Lib.hid hx; clear hx
  subst hrt
  have hrs : rs = [] := List.eq_nil_of_length_eq_zero H.out.1
  subst hrs
  go_enter Try.func42, Try.ntmps42
  go_wp2_with fail
  refine (rCovers_val B m d ys wt wh _ _ P ((G.out.alloc _).alloc _)).mono ?_
  rintro e w1 ⟨rfl, hb1⟩
  have W0 := Lib.hid (bal (bal (Below.refl w.heap.size w) (.cells #[.int .i64 wt, .int .i64 wh, .int .i64 0, .int .i64 rh, .slice A 0 c] 45)) (.cells #[.int .i64 0, .int .i64 0, .int .i64 0, .int .i64 0, .slice none 0 0] 45))
  have b3 := Lib.hid (((Blk5.new w (.int .i64 wt) (.int .i64 wh) (.int .i64 0) (.int .i64 rh) (.slice A 0 c)).alloc (.cells #[.int .i64 0, .int .i64 0, .int .i64 0, .int .i64 0, .slice none 0 0] 45)).below hb1 (by simp; omega))
  have b6 : Hid (Blk5 w1 (w.heap.size + 1) (.int .i64 0) (.int .i64 0) (.int .i64 0) (.int .i64 0) (.slice none 0 0)) := Blk5.below (show Blk5 ((w.alloc (.cells #[.int .i64 wt, .int .i64 wh, .int .i64 0, .int .i64 rh, .slice A 0 c] 45)).alloc (.cells #[.int .i64 0, .int .i64 0, .int .i64 0, .int .i64 0, .slice none 0 0] 45)) (w.heap.size + 1) (.int .i64 0) (.int .i64 0) (.int .i64 0) (.int .i64 0) (.slice none 0 0) from by simpa using Blk5.new (w.alloc _) (.int .i64 0) (.int .i64 0) (.int .i64 0) (.int .i64 0) (.slice none 0 0)) hb1 (by simp)
  have B1 := Lib.hid (btr W0.out hb1)
  clear hb1 W0
  go_wp2_with fail
  refine (rAt_any B m d ys T _ (G.out.below B1.out)).mono ?_
  rintro e w' ⟨rfl, rfl⟩
  rw [HX.out]
  obtain ⟨x30, x31, x32, x33, x34⟩ := (show Blk5 w1.drew w.heap.size _ _ _ _ _ from b3.out).cells
  have l6 := b6.out.lt
  have l3 : w.heap.size < w1.heap.size := by omega
  have HW : Hid (RdI w1.drew A 0 c []) := (H.out.below B1.out).drewN 0
  have hne13 : w.heap.size ≠ w1.heap.size := by omega
  have HW2 : Hid (RdI (w1.alloc (.cells #[.int .i64 0, .int .i64 0, .int .i64 0, .int .i64 0, .slice none 0 0] 45)).drew A 0 c []) := ((H.out.below B1.out).alloc _).drewN 0
  obtain ⟨q30, q31, q32, q33, q34⟩ := (show Blk5 (w1.alloc (.cells #[.int .i64 0, .int .i64 0, .int .i64 0, .int .i64 0, .slice none 0 0] 45)).drew w.heap.size _ _ _ _ _ from b3.out.alloc _).cells
  go_wp2
  go_region_held3 (fun w' => w'.cell? ⟨w.heap.size, 0, none⟩ = some (.int .i64 wt) ∧ w'.cell? ⟨w.heap.size, 1, none⟩ = some (.int .i64 wh) ∧ w'.cell? ⟨w.heap.size, 2, none⟩ = some (.int .i64 0) ∧ w'.cell? ⟨w.heap.size, 3, none⟩ = some (.int .i64 rh) ∧ w'.cell? ⟨w.heap.size, 4, none⟩ = some (.slice A 0 c)) (first | with_reducible exact ⟨z30, z31, z32, z33, z34⟩ | with_reducible exact ⟨x30, x31, x32, x33, x34⟩ | with_reducible exact ⟨q30, q31, q32, q33, q34⟩ | with_reducible exact ⟨put5x hne13 z30, put5x hne13 z31, put5x hne13 z32, put5x hne13 z33, put5x hne13 z34⟩ | with_reducible exact ⟨alx z30, alx z31, alx z32, alx z33, alx z34⟩ | go_keep)
    (first | (go_at_call 40; refine (rCopy_any A 0 c [] _ ?_ ?_).mono ?_; (with_reducible exact HW.out); omega; rintro e wA ⟨v1, rfl, o1, hbA⟩; obtain ⟨A1, c1, hv1, _⟩ := RdI.of_own o1 H.out.inI; subst hv1; have O1 := Lib.hid o1; clear o1; have z30 := below_cell hbA x30; have z31 := below_cell hbA x31; have z32 := below_cell hbA x32; have z33 := below_cell hbA x33; have z34 := below_cell hbA x34) | (go_at_call 40; refine (rCopy_any A 0 c [] _ ?_ ?_).mono ?_; (with_reducible exact HW2.out); omega; rintro e wA ⟨v1, rfl, o1, hbA⟩; obtain ⟨A1, c1, hv1, _⟩ := RdI.of_own o1 H.out.inI; subst hv1; have O1 := Lib.hid o1; clear o1; have z30 := below_cell hbA q30; have z31 := below_cell hbA q31; have z32 := below_cell hbA q32; have z33 := below_cell hbA q33; have z34 := below_cell hbA q34; have d10 := Lib.hid (Blk5.below (Blk5.new w1 (.int .i64 0) (.int .i64 0) (.int .i64 0) (.int .i64 0) (.slice none 0 0)) (show Below (w1.alloc (.cells #[.int .i64 0, .int .i64 0, .int .i64 0, .int .i64 0, .slice none 0 0] 45)).heap.size (w1.alloc (.cells #[.int .i64 0, .int .i64 0, .int .i64 0, .int .i64 0, .slice none 0 0] 45)) wA from ⟨hbA.os, hbA.tape, hbA.output, hbA.size, hbA.block⟩) (by simp)); obtain ⟨y0, y1, y2, y3, y4⟩ := d10.out.cells; obtain ⟨v0, v1, v2, v3, v4⟩ := d10.out.frozen))
  · have hbB : Below w1.heap.size w1 wA := ⟨hbA.os, hbA.tape, hbA.output, hbA.size, hbA.block⟩
    obtain ⟨W, hW⟩ : ∃ W, W = wA.alloc (.cells #[.int .i64 wt, .int .i64 wh, .int .i64 0, .int .i64 rh, .slice A1 0 c1] 45) := ⟨_, rfl⟩
    obtain ⟨g10, hg10⟩ : ∃ g, g = wA.heap.size := ⟨_, rfl⟩
    rw [← hW, ← hg10]
    have c3 : Hid (Blk5 W w.heap.size (.int .i64 wt) (.int .i64 wh) (.int .i64 0) (.int .i64 rh) (.slice A 0 c)) := by rw [hW]; exact (b3.out.below hbB l3).alloc _
    have c6 : Hid (Blk5 W (w.heap.size + 1) (.int .i64 0) (.int .i64 0) (.int .i64 0) (.int .i64 0) (.slice none 0 0)) := by rw [hW]; exact (b6.out.below hbB l6).alloc _
    have c10 : Hid (Blk5 W g10 (.int .i64 wt) (.int .i64 wh) (.int .i64 0) (.int .i64 rh) (.slice A1 0 c1)) := by rw [hW, hg10]; exact Blk5.new wA _ _ _ _ _
    have hg6 : w.heap.size + 1 < g10 := by have := hbB.size; omega
    have BW : Hid (Below w.heap.size w W) := by rw [hW]; exact bal (btr B1.out hbB) _
    have hdis : Hid (∀ k, (Value.slice A1 0 c1).ownBlock = some k → k ≠ g10 ∧ k ≠ w.heap.size + 1 ∧ k < W.heap.size) := fun k hk => by
      obtain ⟨h1, h2⟩ := O1.out.lt k hk
      have h3 : w1.heap.size ≤ k := h1
      have h4 : W.heap.size = wA.heap.size + 1 := by rw [hW]; simp
      omega
    have OW : Hid (W.ownsRow w.heap.size 3 1 (.slice A1 0 c1) 0 (ints [])) := by
      rw [hW]; exact own_base (O1.out.alloc _) (show w.heap.size ≤ w1.heap.size by omega)
    clear hW hg10 hbA hbB O1 b3 b6 B1 x30 x31 x32 x33 x34 q30 q31 q32 q33 q34 z30 z31 z32 z33 z34 HW HW2 hne13
    obtain ⟨x30, x31, x32, x33, x34⟩ := c3.out.cells
    obtain ⟨y0, y1, y2, y3, y4⟩ := c6.out.cells
    obtain ⟨f0, f1, f2, f3, f4⟩ := c6.out.frozen
    obtain ⟨u0, u1, u2, u3, u4⟩ := c10.out.cells
    obtain ⟨r0, r1, r2, r3, r4⟩ := c10.out.frozen
    have hne : w.heap.size + 1 ≠ g10 := by omega
    have hne' : g10 ≠ w.heap.size + 1 := by omega
    have l10 : g10 < W.heap.size := c10.out.lt
    go_wp2
    refine bodyPost_ret (v := .tuple #[.agg #[.int .i64 wt, .int .i64 wh, .int .i64 x, .int .i64 (T : Int), .slice A1 0 c1], .bool (!p)]) (by simp [results, Try.results42, go_sem, y0, y1, y2, y3, y4]) rfl ?_
    rw [HX.out]
    refine ⟨_, rfl, ?_, put5_below ((BW.out.setCell (p := ⟨g10, 2, none⟩) (show w.heap.size ≤ g10 by omega) _).setCell (p := ⟨g10, 3, none⟩) (show w.heap.size ≤ g10 by omega) _) (by omega) _ _ _ _ _⟩
    refine own_keepV OW.out fun k hk => ?_
    obtain ⟨hk1, hk2, _⟩ := hdis.out k hk
    exact (put5_heap _ _ _ _ _ _ _ _ hk2).trans ((Below.heap_setCell _ _ _ _ (show k ≠ g10 from hk1)).trans (Below.heap_setCell _ _ _ _ (show k ≠ g10 from hk1)))
  · have hbB : Below w1.heap.size w1 wA := (bal (Below.refl w1.heap.size w1) (.cells #[.int .i64 0, .int .i64 0, .int .i64 0, .int .i64 0, .slice none 0 0] 45)).trans ((show Below (w1.alloc (.cells #[.int .i64 0, .int .i64 0, .int .i64 0, .int .i64 0, .slice none 0 0] 45)).heap.size (w1.alloc (.cells #[.int .i64 0, .int .i64 0, .int .i64 0, .int .i64 0, .slice none 0 0] 45)) wA from ⟨hbA.os, hbA.tape, hbA.output, hbA.size, hbA.block⟩).mono (by simp))
    obtain ⟨W, hW⟩ : ∃ W, W = put5 wA w1.heap.size (.int .i64 wt) (.int .i64 wh) (.int .i64 0) (.int .i64 rh) (.slice A1 0 c1) := ⟨_, rfl⟩
    obtain ⟨g10, hg10⟩ : ∃ g, g = w1.heap.size := ⟨_, rfl⟩
    rw [show (((((wA.setCell ⟨w1.heap.size, 0, none⟩ (.int .i64 wt)).setCell ⟨w1.heap.size, 1, none⟩ (.int .i64 wh)).setCell ⟨w1.heap.size, 2, none⟩ (.int .i64 0)).setCell ⟨w1.heap.size, 3, none⟩ (.int .i64 rh)).setCell ⟨w1.heap.size, 4, none⟩ (.slice A1 0 c1)) = W from hW.symm, ← hg10]
    have c3 : Hid (Blk5 W w.heap.size (.int .i64 wt) (.int .i64 wh) (.int .i64 0) (.int .i64 rh) (.slice A 0 c)) := by rw [hW]; exact (put5_heap _ _ _ _ _ _ _ _ hne13).trans (b3.out.below hbB l3)
    have c6 : Hid (Blk5 W (w.heap.size + 1) (.int .i64 0) (.int .i64 0) (.int .i64 0) (.int .i64 0) (.slice none 0 0)) := by rw [hW]; exact (put5_heap _ _ _ _ _ _ _ _ (by omega)).trans (b6.out.below hbB l6)
    have c10 : Hid (Blk5 W g10 (.int .i64 wt) (.int .i64 wh) (.int .i64 0) (.int .i64 rh) (.slice A1 0 c1)) := by rw [hW, hg10]; exact put5_blk d10.out _ _ _ _ _
    have hg6 : w.heap.size + 1 < g10 := by omega
    have BW : Hid (Below w.heap.size w W) := by rw [hW]; exact put5_below (btr B1.out hbB) (by omega) _ _ _ _ _
    have hdis : Hid (∀ k, (Value.slice A1 0 c1).ownBlock = some k → k ≠ g10 ∧ k ≠ w.heap.size + 1 ∧ k < W.heap.size) := fun k hk => by
      obtain ⟨h1, h2⟩ := O1.out.lt k hk
      have h3 : w1.heap.size + 1 ≤ k := by simpa using h1
      have h4 : W.heap.size = wA.heap.size := by rw [hW]; exact put5_size _ _ _ _ _ _ _
      omega
    have OW : Hid (W.ownsRow w.heap.size 3 1 (.slice A1 0 c1) 0 (ints [])) := by
      rw [hW]
      refine own_keepV (own_base O1.out (by simp; omega)) fun k hk => put5_heap _ _ _ _ _ _ _ _ ?_
      have h1 : w1.heap.size + 1 ≤ k := by simpa using (O1.out.lt k hk).1
      omega
    clear hW hg10 hbA hbB O1 b3 b6 B1 x30 x31 x32 x33 x34 q30 q31 q32 q33 q34 z30 z31 z32 z33 z34 HW HW2 hne13 d10 y0 y1 y2 y3 y4 v0 v1 v2 v3 v4
    obtain ⟨x30, x31, x32, x33, x34⟩ := c3.out.cells
    obtain ⟨y0, y1, y2, y3, y4⟩ := c6.out.cells
    obtain ⟨f0, f1, f2, f3, f4⟩ := c6.out.frozen
    obtain ⟨u0, u1, u2, u3, u4⟩ := c10.out.cells
    obtain ⟨r0, r1, r2, r3, r4⟩ := c10.out.frozen
    have hne : w.heap.size + 1 ≠ g10 := by omega
    have hne' : g10 ≠ w.heap.size + 1 := by omega
    have l10 : g10 < W.heap.size := c10.out.lt
    go_wp2
    refine bodyPost_ret (v := .tuple #[.agg #[.int .i64 wt, .int .i64 wh, .int .i64 x, .int .i64 (T : Int), .slice A1 0 c1], .bool (!p)]) (by simp [results, Try.results42, go_sem, y0, y1, y2, y3, y4]) rfl ?_
    rw [HX.out]
    refine ⟨_, rfl, ?_, put5_below ((BW.out.setCell (p := ⟨g10, 2, none⟩) (show w.heap.size ≤ g10 by omega) _).setCell (p := ⟨g10, 3, none⟩) (show w.heap.size ≤ g10 by omega) _) (by omega) _ _ _ _ _⟩
    refine own_keepV OW.out fun k hk => ?_
    obtain ⟨hk1, hk2, _⟩ := hdis.out k hk
    exact (put5_heap _ _ _ _ _ _ _ _ hk2).trans ((Below.heap_setCell _ _ _ _ (show k ≠ g10 from hk1)).trans (Below.heap_setCell _ _ _ _ (show k ≠ g10 from hk1)))

set_option maxHeartbeats 4000000 in
theorem rRead_after (wt wh rt : Int) (rh : Int) (A : Option Addr) (c : Nat) (rs : List Int) (B : Option Addr) (m d : Nat) (ys : List Int) (T : Nat) (w : World) (p : Bool) (P : Hid (coversC ys wt wh = p))
    (h : RdI w A 0 c rs) (g : RdI w B m d ys) (hT : T < 4) (hrt : (rt == 0) = false) (Q : Hid (coversC ys rt rh = true)) :
    Calls Try.prog 42 #[.agg #[.int .i64 wt, .int .i64 wh, .int .i64 rt, .int .i64 rh, .slice A 0 c], .slice B m d, .int .i64 (T : Int)] w fun e w' =>
      ∃ v, e = .returned (.tuple #[.agg #[.int .i64 wt, .int .i64 wh, .int .i64 (atC ys T), .int .i64 T, v], .bool (!p)]) ∧ w'.ownsRow w.heap.size 3 1 v (([] : List Int)).length (ints (([] : List Int))) ∧ Below w.heap.size w w' := by
  have H := Lib.hid h; clear h
  have G := Lib.hid g; clear g
  have hT' : (T : Int) < 4 := by omega
  obtain ⟨x, hx⟩ : ∃ x, atC ys T = x := ⟨_, rfl⟩
  have HX := Lib.hid hx; clear hx
  have hrs : rs = [] := List.eq_nil_of_length_eq_zero H.out.1
  subst hrs
  go_enter Try.func42, Try.ntmps42
  go_wp2_with fail
  refine (rCovers_val B m d ys wt wh _ _ P ((G.out.alloc _).alloc _)).mono ?_
  rintro e w1 ⟨rfl, hb1⟩
  have W0 := Lib.hid (bal (bal (Below.refl w.heap.size w) (.cells #[.int .i64 wt, .int .i64 wh, .int .i64 rt, .int .i64 rh, .slice A 0 c] 45)) (.cells #[.int .i64 0, .int .i64 0, .int .i64 0, .int .i64 0, .slice none 0 0] 45))
  have b3 := Lib.hid (((Blk5.new w (.int .i64 wt) (.int .i64 wh) (.int .i64 rt) (.int .i64 rh) (.slice A 0 c)).alloc (.cells #[.int .i64 0, .int .i64 0, .int .i64 0, .int .i64 0, .slice none 0 0] 45)).below hb1 (by simp; omega))
  have b6 : Hid (Blk5 w1 (w.heap.size + 1) (.int .i64 0) (.int .i64 0) (.int .i64 0) (.int .i64 0) (.slice none 0 0)) := Blk5.below (show Blk5 ((w.alloc (.cells #[.int .i64 wt, .int .i64 wh, .int .i64 rt, .int .i64 rh, .slice A 0 c] 45)).alloc (.cells #[.int .i64 0, .int .i64 0, .int .i64 0, .int .i64 0, .slice none 0 0] 45)) (w.heap.size + 1) (.int .i64 0) (.int .i64 0) (.int .i64 0) (.int .i64 0) (.slice none 0 0) from by simpa using Blk5.new (w.alloc _) (.int .i64 0) (.int .i64 0) (.int .i64 0) (.int .i64 0) (.slice none 0 0)) hb1 (by simp)
  have B1 := Lib.hid (btr W0.out hb1)
  clear hb1 W0
  go_wp2_with fail
  refine (rAt_any B m d ys T _ (G.out.below B1.out)).mono ?_
  rintro e w' ⟨rfl, rfl⟩
  rw [HX.out]
  obtain ⟨x30, x31, x32, x33, x34⟩ := (show Blk5 w1.drew w.heap.size _ _ _ _ _ from b3.out).cells
  have l6 := b6.out.lt
  have l3 : w.heap.size < w1.heap.size := by omega
  have HW : Hid (RdI w1.drew A 0 c []) := (H.out.below B1.out).drewN 0
  have hne13 : w.heap.size ≠ w1.heap.size := by omega
  have HW2 : Hid (RdI (w1.alloc (.cells #[.int .i64 0, .int .i64 0, .int .i64 0, .int .i64 0, .slice none 0 0] 45)).drew A 0 c []) := ((H.out.below B1.out).alloc _).drewN 0
  obtain ⟨q30, q31, q32, q33, q34⟩ := (show Blk5 (w1.alloc (.cells #[.int .i64 0, .int .i64 0, .int .i64 0, .int .i64 0, .slice none 0 0] 45)).drew w.heap.size _ _ _ _ _ from b3.out.alloc _).cells
  go_wp2
  go_region_held3 (fun w' => w'.cell? ⟨w.heap.size, 0, none⟩ = some (.int .i64 wt) ∧ w'.cell? ⟨w.heap.size, 1, none⟩ = some (.int .i64 wh) ∧ w'.cell? ⟨w.heap.size, 2, none⟩ = some (.int .i64 rt) ∧ w'.cell? ⟨w.heap.size, 3, none⟩ = some (.int .i64 rh) ∧ w'.cell? ⟨w.heap.size, 4, none⟩ = some (.slice A 0 c)) (first | with_reducible exact ⟨z30, z31, z32, z33, z34⟩ | with_reducible exact ⟨x30, x31, x32, x33, x34⟩ | with_reducible exact ⟨q30, q31, q32, q33, q34⟩ | with_reducible exact ⟨put5x hne13 z30, put5x hne13 z31, put5x hne13 z32, put5x hne13 z33, put5x hne13 z34⟩ | with_reducible exact ⟨alx z30, alx z31, alx z32, alx z33, alx z34⟩ | go_keep)
    (first | (go_at_call 40; refine (rCopy_any A 0 c [] _ ?_ ?_).mono ?_; (with_reducible exact HW.out); omega; rintro e wA ⟨v1, rfl, o1, hbA⟩; obtain ⟨A1, c1, hv1, _⟩ := RdI.of_own o1 H.out.inI; subst hv1; have O1 := Lib.hid o1; clear o1; have z30 := below_cell hbA x30; have z31 := below_cell hbA x31; have z32 := below_cell hbA x32; have z33 := below_cell hbA x33; have z34 := below_cell hbA x34) | (go_at_call 40; refine (rCopy_any A 0 c [] _ ?_ ?_).mono ?_; (with_reducible exact HW2.out); omega; rintro e wA ⟨v1, rfl, o1, hbA⟩; obtain ⟨A1, c1, hv1, _⟩ := RdI.of_own o1 H.out.inI; subst hv1; have O1 := Lib.hid o1; clear o1; have z30 := below_cell hbA q30; have z31 := below_cell hbA q31; have z32 := below_cell hbA q32; have z33 := below_cell hbA q33; have z34 := below_cell hbA q34; have d10 := Lib.hid (Blk5.below (Blk5.new w1 (.int .i64 0) (.int .i64 0) (.int .i64 0) (.int .i64 0) (.slice none 0 0)) (show Below (w1.alloc (.cells #[.int .i64 0, .int .i64 0, .int .i64 0, .int .i64 0, .slice none 0 0] 45)).heap.size (w1.alloc (.cells #[.int .i64 0, .int .i64 0, .int .i64 0, .int .i64 0, .slice none 0 0] 45)) wA from ⟨hbA.os, hbA.tape, hbA.output, hbA.size, hbA.block⟩) (by simp)); obtain ⟨y0, y1, y2, y3, y4⟩ := d10.out.cells; obtain ⟨v0, v1, v2, v3, v4⟩ := d10.out.frozen))
  · have hbB : Below w1.heap.size w1 wA := ⟨hbA.os, hbA.tape, hbA.output, hbA.size, hbA.block⟩
    obtain ⟨W, hW⟩ : ∃ W, W = wA.alloc (.cells #[.int .i64 wt, .int .i64 wh, .int .i64 rt, .int .i64 rh, .slice A1 0 c1] 45) := ⟨_, rfl⟩
    obtain ⟨g10, hg10⟩ : ∃ g, g = wA.heap.size := ⟨_, rfl⟩
    rw [← hW, ← hg10]
    have c3 : Hid (Blk5 W w.heap.size (.int .i64 wt) (.int .i64 wh) (.int .i64 rt) (.int .i64 rh) (.slice A 0 c)) := by rw [hW]; exact (b3.out.below hbB l3).alloc _
    have c6 : Hid (Blk5 W (w.heap.size + 1) (.int .i64 0) (.int .i64 0) (.int .i64 0) (.int .i64 0) (.slice none 0 0)) := by rw [hW]; exact (b6.out.below hbB l6).alloc _
    have c10 : Hid (Blk5 W g10 (.int .i64 wt) (.int .i64 wh) (.int .i64 rt) (.int .i64 rh) (.slice A1 0 c1)) := by rw [hW, hg10]; exact Blk5.new wA _ _ _ _ _
    have hg6 : w.heap.size + 1 < g10 := by have := hbB.size; omega
    have BW : Hid (Below w.heap.size w W) := by rw [hW]; exact bal (btr B1.out hbB) _
    have hdis : Hid (∀ k, (Value.slice A1 0 c1).ownBlock = some k → k ≠ g10 ∧ k ≠ w.heap.size + 1 ∧ k < W.heap.size) := fun k hk => by
      obtain ⟨h1, h2⟩ := O1.out.lt k hk
      have h3 : w1.heap.size ≤ k := h1
      have h4 : W.heap.size = wA.heap.size + 1 := by rw [hW]; simp
      omega
    have OW : Hid (W.ownsRow w.heap.size 3 1 (.slice A1 0 c1) 0 (ints [])) := by
      rw [hW]; exact own_base (O1.out.alloc _) (show w.heap.size ≤ w1.heap.size by omega)
    clear hW hg10 hbA hbB O1 b3 b6 B1 x30 x31 x32 x33 x34 q30 q31 q32 q33 q34 z30 z31 z32 z33 z34 HW HW2 hne13
    obtain ⟨x30, x31, x32, x33, x34⟩ := c3.out.cells
    go_wp2_with fail
    refine (rCovers_val B m d ys rt rh W _ Q (G.out.below BW.out)).mono ?_
    rintro e w3 ⟨rfl, hb3⟩
    have d6 := Lib.hid (c6.out.below hb3 c6.out.lt)
    have d10 := Lib.hid (c10.out.below hb3 c10.out.lt)
    obtain ⟨y0, y1, y2, y3, y4⟩ := d6.out.cells
    obtain ⟨f0, f1, f2, f3, f4⟩ := d6.out.frozen
    obtain ⟨u0, u1, u2, u3, u4⟩ := d10.out.cells
    obtain ⟨r0, r1, r2, r3, r4⟩ := d10.out.frozen
    have hne : w.heap.size + 1 ≠ g10 := by omega
    have hne' : g10 ≠ w.heap.size + 1 := by omega
    have l10 : g10 < W.heap.size := c10.out.lt
    have B3 := Lib.hid (btr BW.out hb3)
    have O3 : Hid (w3.ownsRow w.heap.size 3 1 (.slice A1 0 c1) 0 (ints [])) := own_keepV OW.out fun k hk => hb3.block k (hdis.out k hk).2.2
    have l3 : g10 < w3.heap.size := d10.out.lt
    clear hb3
    go_wp2
    refine bodyPost_ret (v := .tuple #[.agg #[.int .i64 wt, .int .i64 wh, .int .i64 x, .int .i64 (T : Int), .slice A1 0 c1], .bool (!p)]) (by simp [results, Try.results42, go_sem, y0, y1, y2, y3, y4]) rfl ?_
    rw [HX.out]
    refine ⟨_, rfl, ?_, put5_below ((B3.out.setCell (p := ⟨g10, 2, none⟩) (show w.heap.size ≤ g10 by omega) _).setCell (p := ⟨g10, 3, none⟩) (show w.heap.size ≤ g10 by omega) _) (by omega) _ _ _ _ _⟩
    refine own_keepV O3.out fun k hk => ?_
    obtain ⟨hk1, hk2, _⟩ := hdis.out k hk
    exact (put5_heap _ _ _ _ _ _ _ _ hk2).trans ((Below.heap_setCell _ _ _ _ (show k ≠ g10 from hk1)).trans (Below.heap_setCell _ _ _ _ (show k ≠ g10 from hk1)))
  · have hbB : Below w1.heap.size w1 wA := (bal (Below.refl w1.heap.size w1) (.cells #[.int .i64 0, .int .i64 0, .int .i64 0, .int .i64 0, .slice none 0 0] 45)).trans ((show Below (w1.alloc (.cells #[.int .i64 0, .int .i64 0, .int .i64 0, .int .i64 0, .slice none 0 0] 45)).heap.size (w1.alloc (.cells #[.int .i64 0, .int .i64 0, .int .i64 0, .int .i64 0, .slice none 0 0] 45)) wA from ⟨hbA.os, hbA.tape, hbA.output, hbA.size, hbA.block⟩).mono (by simp))
    obtain ⟨W, hW⟩ : ∃ W, W = put5 wA w1.heap.size (.int .i64 wt) (.int .i64 wh) (.int .i64 rt) (.int .i64 rh) (.slice A1 0 c1) := ⟨_, rfl⟩
    obtain ⟨g10, hg10⟩ : ∃ g, g = w1.heap.size := ⟨_, rfl⟩
    rw [show (((((wA.setCell ⟨w1.heap.size, 0, none⟩ (.int .i64 wt)).setCell ⟨w1.heap.size, 1, none⟩ (.int .i64 wh)).setCell ⟨w1.heap.size, 2, none⟩ (.int .i64 rt)).setCell ⟨w1.heap.size, 3, none⟩ (.int .i64 rh)).setCell ⟨w1.heap.size, 4, none⟩ (.slice A1 0 c1)) = W from hW.symm, ← hg10]
    have c3 : Hid (Blk5 W w.heap.size (.int .i64 wt) (.int .i64 wh) (.int .i64 rt) (.int .i64 rh) (.slice A 0 c)) := by rw [hW]; exact (put5_heap _ _ _ _ _ _ _ _ hne13).trans (b3.out.below hbB l3)
    have c6 : Hid (Blk5 W (w.heap.size + 1) (.int .i64 0) (.int .i64 0) (.int .i64 0) (.int .i64 0) (.slice none 0 0)) := by rw [hW]; exact (put5_heap _ _ _ _ _ _ _ _ (by omega)).trans (b6.out.below hbB l6)
    have c10 : Hid (Blk5 W g10 (.int .i64 wt) (.int .i64 wh) (.int .i64 rt) (.int .i64 rh) (.slice A1 0 c1)) := by rw [hW, hg10]; exact put5_blk d10.out _ _ _ _ _
    have hg6 : w.heap.size + 1 < g10 := by omega
    have BW : Hid (Below w.heap.size w W) := by rw [hW]; exact put5_below (btr B1.out hbB) (by omega) _ _ _ _ _
    have hdis : Hid (∀ k, (Value.slice A1 0 c1).ownBlock = some k → k ≠ g10 ∧ k ≠ w.heap.size + 1 ∧ k < W.heap.size) := fun k hk => by
      obtain ⟨h1, h2⟩ := O1.out.lt k hk
      have h3 : w1.heap.size + 1 ≤ k := by simpa using h1
      have h4 : W.heap.size = wA.heap.size := by rw [hW]; exact put5_size _ _ _ _ _ _ _
      omega
    have OW : Hid (W.ownsRow w.heap.size 3 1 (.slice A1 0 c1) 0 (ints [])) := by
      rw [hW]
      refine own_keepV (own_base O1.out (by simp; omega)) fun k hk => put5_heap _ _ _ _ _ _ _ _ ?_
      have h1 : w1.heap.size + 1 ≤ k := by simpa using (O1.out.lt k hk).1
      omega
    clear hW hg10 hbA hbB O1 b3 b6 B1 x30 x31 x32 x33 x34 q30 q31 q32 q33 q34 z30 z31 z32 z33 z34 HW HW2 hne13 d10 y0 y1 y2 y3 y4 v0 v1 v2 v3 v4
    obtain ⟨x30, x31, x32, x33, x34⟩ := c3.out.cells
    go_wp2_with fail
    refine (rCovers_val B m d ys rt rh W _ Q (G.out.below BW.out)).mono ?_
    rintro e w3 ⟨rfl, hb3⟩
    have d6 := Lib.hid (c6.out.below hb3 c6.out.lt)
    have d10 := Lib.hid (c10.out.below hb3 c10.out.lt)
    obtain ⟨y0, y1, y2, y3, y4⟩ := d6.out.cells
    obtain ⟨f0, f1, f2, f3, f4⟩ := d6.out.frozen
    obtain ⟨u0, u1, u2, u3, u4⟩ := d10.out.cells
    obtain ⟨r0, r1, r2, r3, r4⟩ := d10.out.frozen
    have hne : w.heap.size + 1 ≠ g10 := by omega
    have hne' : g10 ≠ w.heap.size + 1 := by omega
    have l10 : g10 < W.heap.size := c10.out.lt
    have B3 := Lib.hid (btr BW.out hb3)
    have O3 : Hid (w3.ownsRow w.heap.size 3 1 (.slice A1 0 c1) 0 (ints [])) := own_keepV OW.out fun k hk => hb3.block k (hdis.out k hk).2.2
    have l3 : g10 < w3.heap.size := d10.out.lt
    clear hb3
    go_wp2
    refine bodyPost_ret (v := .tuple #[.agg #[.int .i64 wt, .int .i64 wh, .int .i64 x, .int .i64 (T : Int), .slice A1 0 c1], .bool (!p)]) (by simp [results, Try.results42, go_sem, y0, y1, y2, y3, y4]) rfl ?_
    rw [HX.out]
    refine ⟨_, rfl, ?_, put5_below ((B3.out.setCell (p := ⟨g10, 2, none⟩) (show w.heap.size ≤ g10 by omega) _).setCell (p := ⟨g10, 3, none⟩) (show w.heap.size ≤ g10 by omega) _) (by omega) _ _ _ _ _⟩
    refine own_keepV O3.out fun k hk => ?_
    obtain ⟨hk1, hk2, _⟩ := hdis.out k hk
    exact (put5_heap _ _ _ _ _ _ _ _ hk2).trans ((Below.heap_setCell _ _ _ _ (show k ≠ g10 from hk1)).trans (Below.heap_setCell _ _ _ _ (show k ≠ g10 from hk1)))

end Go.Proofs.Ytngfjoifkolaiaa
