/-
  What thread, Same, Write of package epoch and of its reference compute. No condition.
-/
import Derived.Test.YtngfjoifkolaiaaClkVals
import Derived.Deep.RegionHeld3
namespace Go.Proofs.Ytngfjoifkolaiaa
open Go.RowKit

/-- a shadow as a value: the four numbers, then the slice -/
def shV (wt wh rt rh : Int) (A : Option Addr) (n c : Nat) : Value := .agg #[.int .i64 wt, .int .i64 wh, .int .i64 rt, .int .i64 rh, .slice A n c]

set_option maxHeartbeats 400000 in
theorem thread_yes (t : Int) (w : World) (h0 : 0 ≤ t) (h1 : t < 4) :
    Calls Try.prog 47 #[.int .i64 t] w fun e w' => e = .returned (.bool true) ∧ w = w' := by
  go_enter Try.func47, Try.ntmps47
  go_wp2
  go_ret
  exact ⟨ret_bool (by simp), rfl⟩

set_option maxHeartbeats 1000000 in
theorem Same_val (A : Option Addr) (n c : Nat) (xs : List Int) (B : Option Addr) (m d : Nat) (ys : List Int) (w : World) (b : Bool) (hb : Hid ((leqC xs ys && leqC ys xs) = b)) (h : RdI w A n c xs) (g : RdI w B m d ys) :
    Calls Try.prog 46 #[.slice A n c, .slice B m d] w fun e w' => e = .returned (.bool b) ∧ w = w' := by
  have H := Lib.hid h; clear h
  have G := Lib.hid g; clear g
  obtain ⟨p, hp⟩ : ∃ p, leqC xs ys = p := ⟨_, rfl⟩
  obtain ⟨r, hr⟩ : ∃ r, leqC ys xs = r := ⟨_, rfl⟩
  have P1 := Lib.hid hp
  have P2 := Lib.hid hr
  have hbe : (p && r) = b := by rw [← hp, ← hr]; exact hb.out
  clear hp hr hb
  cases p
  · have HB := Lib.hid hbe
    clear hbe
    go_enter Try.func46, Try.ntmps46
    go_wp2_with fail
    refine (rLeq_val A n c xs B m d ys w _ P1 H.out G.out).mono ?_
    rintro e w' ⟨rfl, rfl⟩
    go_wp2
    go_ret
    exact ⟨ret_bool (by rw [← HB.out]; simp), rfl⟩
  · have HB := Lib.hid hbe
    clear hbe
    go_enter Try.func46, Try.ntmps46
    go_wp2_with fail
    refine (rLeq_val A n c xs B m d ys w _ P1 H.out G.out).mono ?_
    rintro e w' ⟨rfl, rfl⟩
    go_wp2_with fail
    refine (rLeq_val B m d ys A n c xs w _ P2 G.out H.out).mono ?_
    rintro e w' ⟨rfl, rfl⟩
    go_wp2
    go_ret
    exact ⟨ret_bool (by rw [← HB.out]; simp), rfl⟩

/-- block g holds just these five cells -/
def Blk5 (w : World) (g : Nat) (a0 a1 a2 a3 a4 : Value) : Prop := w.heap[g]? = some (.cells #[a0, a1, a2, a3, a4] 45 (0, 0))
theorem Blk5.cells {w : World} {g : Nat} {a0 a1 a2 a3 a4 : Value} (h : Blk5 w g a0 a1 a2 a3 a4) :
    w.cell? ⟨g, 0, none⟩ = some a0 ∧ w.cell? ⟨g, 1, none⟩ = some a1 ∧ w.cell? ⟨g, 2, none⟩ = some a2 ∧ w.cell? ⟨g, 3, none⟩ = some a3 ∧ w.cell? ⟨g, 4, none⟩ = some a4 := by
  refine ⟨?_, ?_, ?_, ?_, ?_⟩ <;> rw [cell_of_row w g _ _ _ (0, 0) h] <;> rfl
theorem Blk5.frozen {w : World} {g : Nat} {a0 a1 a2 a3 a4 : Value} (h : Blk5 w g a0 a1 a2 a3 a4) :
    w.frozen? ⟨g, 0, none⟩ = false ∧ w.frozen? ⟨g, 1, none⟩ = false ∧ w.frozen? ⟨g, 2, none⟩ = false ∧ w.frozen? ⟨g, 3, none⟩ = false ∧ w.frozen? ⟨g, 4, none⟩ = false :=
  ⟨frozen_of_row w g 0 _ _ h, frozen_of_row w g 1 _ _ h, frozen_of_row w g 2 _ _ h, frozen_of_row w g 3 _ _ h, frozen_of_row w g 4 _ _ h⟩
theorem Blk5.below {w w' : World} {g B : Nat} {a0 a1 a2 a3 a4 : Value} (h : Blk5 w g a0 a1 a2 a3 a4) (hb : Below B w w') (hg : g < B) : Blk5 w' g a0 a1 a2 a3 a4 := (hb.block g hg).trans h
theorem Blk5.lt {w : World} {g : Nat} {a0 a1 a2 a3 a4 : Value} (h : Blk5 w g a0 a1 a2 a3 a4) : g < w.heap.size := (Array.getElem?_eq_some_iff.1 h).1
theorem Blk5.new (w : World) (a0 a1 a2 a3 a4 : Value) : Blk5 (w.alloc (.cells #[a0, a1, a2, a3, a4] 45)) w.heap.size a0 a1 a2 a3 a4 := heap_alloc_new w _
theorem Blk5.alloc {w : World} {g : Nat} {a0 a1 a2 a3 a4 : Value} (h : Blk5 w g a0 a1 a2 a3 a4) (o : Obj) : Blk5 (w.alloc o) g a0 a1 a2 a3 a4 := (Below.heap_alloc w o g h.lt).trans h

set_option maxHeartbeats 4000000 in
theorem Write_core (wt wh rt rh : Int) (A : Option Addr) (n c : Nat) (rs : List Int) (B : Option Addr) (m d : Nat) (ys : List Int) (t : Int) (w : World) (p q r : Bool) (P : Hid (coversC ys wt wh = p)) (Q : Hid (coversC ys rt rh = q)) (R : Hid (leqC rs ys = r))
    (h : RdI w A n c rs) (g : RdI w B m d ys) (ht0 : 0 ≤ t) (ht1 : t < 4) (hw0 : 0 ≤ wh) (hw1 : wh < 4) (hr0 : 0 ≤ rh) (hr1 : rh < 4) :
    Calls Try.prog 44 #[.agg #[.int .i64 wt, .int .i64 wh, .int .i64 rt, .int .i64 rh, .slice A n c], .slice B m d, .int .i64 t] w fun e w' =>
      e = .returned (.tuple #[.agg #[.int .i64 (atC ys t), .int .i64 t, .int .i64 0, .int .i64 0, .slice none 0 0], .bool (!(p && q && r))]) ∧ Below w.heap.size w w' := by
  have H := Lib.hid h; clear h
  have G := Lib.hid g; clear g
  have W0 := Lib.hid (bal (bal (Below.refl w.heap.size w) (.cells #[.int .i64 wt, .int .i64 wh, .int .i64 rt, .int .i64 rh, .slice A n c] 45)) (.cells #[.int .i64 0, .int .i64 0, .int .i64 0, .int .i64 0, .slice none 0 0] 45))
  cases p
  · go_enter Try.func44, Try.ntmps44
    go_wp2_with fail
    refine (thread_yes t _ ht0 ht1).mono ?_
    rintro e w' ⟨rfl, rfl⟩
    go_wp2_with fail
    refine (thread_yes wh _ hw0 hw1).mono ?_
    rintro e w' ⟨rfl, rfl⟩
    go_wp2_with fail
    refine (thread_yes rh _ hr0 hr1).mono ?_
    rintro e w' ⟨rfl, rfl⟩
    go_wp2_with fail
    refine (Covers_any B m d ys wt wh _ ((G.out.alloc _).alloc _)).mono ?_
    rintro e w1 ⟨rfl, hb1⟩
    rw [P.out]
    have kb1 := Lib.hid (((Blk5.new w _ _ _ _ _).alloc _).below hb1 (by first | omega | (simp; omega)))
    have kr1 := Lib.hid ((show Blk5 ((w.alloc _).alloc _) (w.heap.size + 1) (.int .i64 0) (.int .i64 0) (.int .i64 0) (.int .i64 0) (.slice none 0 0) from by simpa using Blk5.new (w.alloc _) (.int .i64 0) (.int .i64 0) (.int .i64 0) (.int .i64 0) (.slice none 0 0)).below hb1 (by first | omega | (simp; done) | (simp; omega)))
    obtain ⟨x10, x11, x12, x13, x14⟩ := kb1.out.cells
    obtain ⟨y10, y11, y12, y13, y14⟩ := kr1.out.cells
    obtain ⟨z10, z11, z12, z13, z14⟩ := kr1.out.frozen
    have s1 := kr1.out.lt
    have B1 := Lib.hid (btr W0.out hb1)
    have G1 := Lib.hid (G.out.below B1.out)
    clear hb1
    go_wp2_with fail
    refine (At_any B m d ys t _ G1.out).mono ?_
    rintro e w' ⟨rfl, rfl⟩
    go_wp2
    refine bodyPost_ret (v := .tuple #[.agg #[.int .i64 (atC ys t), .int .i64 t, .int .i64 0, .int .i64 0, .slice none 0 0], _]) (by simp [results, Try.results44, go_sem, y10, y11, y12, y13, y14]; rfl) rfl ⟨by simp, ?_⟩
    exact ((((B1.out.setCell (by simp) _).setCell (by simp) _).setCell (by simp) _).setCell (by simp) _).setCell (by simp) _
  · cases q
    · go_enter Try.func44, Try.ntmps44
      go_wp2_with fail
      refine (thread_yes t _ ht0 ht1).mono ?_
      rintro e w' ⟨rfl, rfl⟩
      go_wp2_with fail
      refine (thread_yes wh _ hw0 hw1).mono ?_
      rintro e w' ⟨rfl, rfl⟩
      go_wp2_with fail
      refine (thread_yes rh _ hr0 hr1).mono ?_
      rintro e w' ⟨rfl, rfl⟩
      go_wp2_with fail
      refine (Covers_any B m d ys wt wh _ ((G.out.alloc _).alloc _)).mono ?_
      rintro e w1 ⟨rfl, hb1⟩
      rw [P.out]
      have kb1 := Lib.hid (((Blk5.new w _ _ _ _ _).alloc _).below hb1 (by first | omega | (simp; omega)))
      have kr1 := Lib.hid ((show Blk5 ((w.alloc _).alloc _) (w.heap.size + 1) (.int .i64 0) (.int .i64 0) (.int .i64 0) (.int .i64 0) (.slice none 0 0) from by simpa using Blk5.new (w.alloc _) (.int .i64 0) (.int .i64 0) (.int .i64 0) (.int .i64 0) (.slice none 0 0)).below hb1 (by first | omega | (simp; done) | (simp; omega)))
      obtain ⟨x10, x11, x12, x13, x14⟩ := kb1.out.cells
      obtain ⟨y10, y11, y12, y13, y14⟩ := kr1.out.cells
      obtain ⟨z10, z11, z12, z13, z14⟩ := kr1.out.frozen
      have s1 := kr1.out.lt
      have B1 := Lib.hid (btr W0.out hb1)
      have G1 := Lib.hid (G.out.below B1.out)
      clear hb1
      go_wp2_with fail
      refine (Covers_any B m d ys rt rh _ G1.out).mono ?_
      rintro e w2 ⟨rfl, hb2⟩
      rw [Q.out]
      have kb2 := Lib.hid (kb1.out.below hb2 (by first | omega | (simp; omega)))
      have kr2 := Lib.hid (kr1.out.below hb2 (by first | omega | (simp; done) | (simp; omega)))
      obtain ⟨x20, x21, x22, x23, x24⟩ := kb2.out.cells
      obtain ⟨y20, y21, y22, y23, y24⟩ := kr2.out.cells
      obtain ⟨z20, z21, z22, z23, z24⟩ := kr2.out.frozen
      have s2 := kr2.out.lt
      have B2 := Lib.hid (btr B1.out hb2)
      have G2 := Lib.hid (G.out.below B2.out)
      have H2 := Lib.hid (H.out.below B2.out)
      clear hb2
      clear x10 x11 x12 x13 x14 y10 y11 y12 y13 y14 z10 z11 z12 z13 z14
      go_wp2_with fail
      refine (At_any B m d ys t _ G2.out).mono ?_
      rintro e w' ⟨rfl, rfl⟩
      go_wp2
      refine bodyPost_ret (v := .tuple #[.agg #[.int .i64 (atC ys t), .int .i64 t, .int .i64 0, .int .i64 0, .slice none 0 0], _]) (by simp [results, Try.results44, go_sem, y20, y21, y22, y23, y24]; rfl) rfl ⟨by simp, ?_⟩
      exact ((((B2.out.setCell (by simp) _).setCell (by simp) _).setCell (by simp) _).setCell (by simp) _).setCell (by simp) _
    · cases r
      all_goals
        go_enter Try.func44, Try.ntmps44
        go_wp2_with fail
        refine (thread_yes t _ ht0 ht1).mono ?_
        rintro e w' ⟨rfl, rfl⟩
        go_wp2_with fail
        refine (thread_yes wh _ hw0 hw1).mono ?_
        rintro e w' ⟨rfl, rfl⟩
        go_wp2_with fail
        refine (thread_yes rh _ hr0 hr1).mono ?_
        rintro e w' ⟨rfl, rfl⟩
        go_wp2_with fail
        refine (Covers_any B m d ys wt wh _ ((G.out.alloc _).alloc _)).mono ?_
        rintro e w1 ⟨rfl, hb1⟩
        rw [P.out]
        have kb1 := Lib.hid (((Blk5.new w _ _ _ _ _).alloc _).below hb1 (by first | omega | (simp; omega)))
        have kr1 := Lib.hid ((show Blk5 ((w.alloc _).alloc _) (w.heap.size + 1) (.int .i64 0) (.int .i64 0) (.int .i64 0) (.int .i64 0) (.slice none 0 0) from by simpa using Blk5.new (w.alloc _) (.int .i64 0) (.int .i64 0) (.int .i64 0) (.int .i64 0) (.slice none 0 0)).below hb1 (by first | omega | (simp; done) | (simp; omega)))
        obtain ⟨x10, x11, x12, x13, x14⟩ := kb1.out.cells
        obtain ⟨y10, y11, y12, y13, y14⟩ := kr1.out.cells
        obtain ⟨z10, z11, z12, z13, z14⟩ := kr1.out.frozen
        have s1 := kr1.out.lt
        have B1 := Lib.hid (btr W0.out hb1)
        have G1 := Lib.hid (G.out.below B1.out)
        clear hb1
        go_wp2_with fail
        refine (Covers_any B m d ys rt rh _ G1.out).mono ?_
        rintro e w2 ⟨rfl, hb2⟩
        rw [Q.out]
        have kb2 := Lib.hid (kb1.out.below hb2 (by first | omega | (simp; omega)))
        have kr2 := Lib.hid (kr1.out.below hb2 (by first | omega | (simp; done) | (simp; omega)))
        obtain ⟨x20, x21, x22, x23, x24⟩ := kb2.out.cells
        obtain ⟨y20, y21, y22, y23, y24⟩ := kr2.out.cells
        obtain ⟨z20, z21, z22, z23, z24⟩ := kr2.out.frozen
        have s2 := kr2.out.lt
        have B2 := Lib.hid (btr B1.out hb2)
        have G2 := Lib.hid (G.out.below B2.out)
        have H2 := Lib.hid (H.out.below B2.out)
        clear hb2
        clear x10 x11 x12 x13 x14 y10 y11 y12 y13 y14 z10 z11 z12 z13 z14
        go_wp2_with fail
        refine (Leq_val A n c rs B m d ys _ _ R H2.out G2.out).mono ?_
        rintro e w' ⟨rfl, rfl⟩
        go_wp2_with fail
        refine (At_any B m d ys t _ G2.out).mono ?_
        rintro e w' ⟨rfl, rfl⟩
        go_wp2
        refine bodyPost_ret (v := .tuple #[.agg #[.int .i64 (atC ys t), .int .i64 t, .int .i64 0, .int .i64 0, .slice none 0 0], _]) (by simp [results, Try.results44, go_sem, y20, y21, y22, y23, y24]; rfl) rfl ⟨by simp, ?_⟩
        exact ((((B2.out.setCell (by simp) _).setCell (by simp) _).setCell (by simp) _).setCell (by simp) _).setCell (by simp) _

set_option maxHeartbeats 4000000 in
theorem rWrite_core (wt wh rt rh : Int) (A : Option Addr) (n c : Nat) (rs : List Int) (B : Option Addr) (m d : Nat) (ys : List Int) (t : Int) (w : World) (p q r : Bool) (P : Hid (coversC ys wt wh = p)) (Q : Hid (coversC ys rt rh = q)) (R : Hid (leqC rs ys = r))
    (h : RdI w A n c rs) (g : RdI w B m d ys) :
    Calls Try.prog 45 #[.agg #[.int .i64 wt, .int .i64 wh, .int .i64 rt, .int .i64 rh, .slice A n c], .slice B m d, .int .i64 t] w fun e w' =>
      e = .returned (.tuple #[.agg #[.int .i64 (atC ys t), .int .i64 t, .int .i64 0, .int .i64 0, .slice none 0 0], .bool (!(p && q && r))]) ∧ Below w.heap.size w w' := by
  have H := Lib.hid h; clear h
  have G := Lib.hid g; clear g
  have W0 := Lib.hid (bal (bal (Below.refl w.heap.size w) (.cells #[.int .i64 wt, .int .i64 wh, .int .i64 rt, .int .i64 rh, .slice A n c] 45)) (.cells #[.int .i64 0, .int .i64 0, .int .i64 0, .int .i64 0, .slice none 0 0] 45))
  cases p
  · go_enter Try.func45, Try.ntmps45
    go_wp2_with fail
    refine (rCovers_any B m d ys wt wh _ ((G.out.alloc _).alloc _)).mono ?_
    rintro e w1 ⟨rfl, hb1⟩
    rw [P.out]
    have kb1 := Lib.hid (((Blk5.new w _ _ _ _ _).alloc _).below hb1 (by first | omega | (simp; omega)))
    have kr1 := Lib.hid ((show Blk5 ((w.alloc _).alloc _) (w.heap.size + 1) (.int .i64 0) (.int .i64 0) (.int .i64 0) (.int .i64 0) (.slice none 0 0) from by simpa using Blk5.new (w.alloc _) (.int .i64 0) (.int .i64 0) (.int .i64 0) (.int .i64 0) (.slice none 0 0)).below hb1 (by first | omega | (simp; done) | (simp; omega)))
    obtain ⟨x10, x11, x12, x13, x14⟩ := kb1.out.cells
    obtain ⟨y10, y11, y12, y13, y14⟩ := kr1.out.cells
    obtain ⟨z10, z11, z12, z13, z14⟩ := kr1.out.frozen
    have s1 := kr1.out.lt
    have B1 := Lib.hid (btr W0.out hb1)
    have G1 := Lib.hid (G.out.below B1.out)
    clear hb1
    go_wp2_with fail
    refine (rAt_any B m d ys t _ G1.out).mono ?_
    rintro e w' ⟨rfl, rfl⟩
    go_wp2
    refine bodyPost_ret (v := .tuple #[.agg #[.int .i64 (atC ys t), .int .i64 t, .int .i64 0, .int .i64 0, .slice none 0 0], _]) (by simp [results, Try.results45, go_sem, y10, y11, y12, y13, y14]; rfl) rfl ⟨by simp, ?_⟩
    exact ((((B1.out.setCell (by simp) _).setCell (by simp) _).setCell (by simp) _).setCell (by simp) _).setCell (by simp) _
  · cases q
    · go_enter Try.func45, Try.ntmps45
      go_wp2_with fail
      refine (rCovers_any B m d ys wt wh _ ((G.out.alloc _).alloc _)).mono ?_
      rintro e w1 ⟨rfl, hb1⟩
      rw [P.out]
      have kb1 := Lib.hid (((Blk5.new w _ _ _ _ _).alloc _).below hb1 (by first | omega | (simp; omega)))
      have kr1 := Lib.hid ((show Blk5 ((w.alloc _).alloc _) (w.heap.size + 1) (.int .i64 0) (.int .i64 0) (.int .i64 0) (.int .i64 0) (.slice none 0 0) from by simpa using Blk5.new (w.alloc _) (.int .i64 0) (.int .i64 0) (.int .i64 0) (.int .i64 0) (.slice none 0 0)).below hb1 (by first | omega | (simp; done) | (simp; omega)))
      obtain ⟨x10, x11, x12, x13, x14⟩ := kb1.out.cells
      obtain ⟨y10, y11, y12, y13, y14⟩ := kr1.out.cells
      obtain ⟨z10, z11, z12, z13, z14⟩ := kr1.out.frozen
      have s1 := kr1.out.lt
      have B1 := Lib.hid (btr W0.out hb1)
      have G1 := Lib.hid (G.out.below B1.out)
      clear hb1
      go_wp2_with fail
      refine (rCovers_any B m d ys rt rh _ G1.out).mono ?_
      rintro e w2 ⟨rfl, hb2⟩
      rw [Q.out]
      have kb2 := Lib.hid (kb1.out.below hb2 (by first | omega | (simp; omega)))
      have kr2 := Lib.hid (kr1.out.below hb2 (by first | omega | (simp; done) | (simp; omega)))
      obtain ⟨x20, x21, x22, x23, x24⟩ := kb2.out.cells
      obtain ⟨y20, y21, y22, y23, y24⟩ := kr2.out.cells
      obtain ⟨z20, z21, z22, z23, z24⟩ := kr2.out.frozen
      have s2 := kr2.out.lt
      have B2 := Lib.hid (btr B1.out hb2)
      have G2 := Lib.hid (G.out.below B2.out)
      have H2 := Lib.hid (H.out.below B2.out)
      clear hb2
      clear x10 x11 x12 x13 x14 y10 y11 y12 y13 y14 z10 z11 z12 z13 z14
      go_wp2_with fail
      refine (rAt_any B m d ys t _ G2.out).mono ?_
      rintro e w' ⟨rfl, rfl⟩
      go_wp2
      refine bodyPost_ret (v := .tuple #[.agg #[.int .i64 (atC ys t), .int .i64 t, .int .i64 0, .int .i64 0, .slice none 0 0], _]) (by simp [results, Try.results45, go_sem, y20, y21, y22, y23, y24]; rfl) rfl ⟨by simp, ?_⟩
      exact ((((B2.out.setCell (by simp) _).setCell (by simp) _).setCell (by simp) _).setCell (by simp) _).setCell (by simp) _
    · cases r
      all_goals
        go_enter Try.func45, Try.ntmps45
        go_wp2_with fail
        refine (rCovers_any B m d ys wt wh _ ((G.out.alloc _).alloc _)).mono ?_
        rintro e w1 ⟨rfl, hb1⟩
        rw [P.out]
        have kb1 := Lib.hid (((Blk5.new w _ _ _ _ _).alloc _).below hb1 (by first | omega | (simp; omega)))
        have kr1 := Lib.hid ((show Blk5 ((w.alloc _).alloc _) (w.heap.size + 1) (.int .i64 0) (.int .i64 0) (.int .i64 0) (.int .i64 0) (.slice none 0 0) from by simpa using Blk5.new (w.alloc _) (.int .i64 0) (.int .i64 0) (.int .i64 0) (.int .i64 0) (.slice none 0 0)).below hb1 (by first | omega | (simp; done) | (simp; omega)))
        obtain ⟨x10, x11, x12, x13, x14⟩ := kb1.out.cells
        obtain ⟨y10, y11, y12, y13, y14⟩ := kr1.out.cells
        obtain ⟨z10, z11, z12, z13, z14⟩ := kr1.out.frozen
        have s1 := kr1.out.lt
        have B1 := Lib.hid (btr W0.out hb1)
        have G1 := Lib.hid (G.out.below B1.out)
        clear hb1
        go_wp2_with fail
        refine (rCovers_any B m d ys rt rh _ G1.out).mono ?_
        rintro e w2 ⟨rfl, hb2⟩
        rw [Q.out]
        have kb2 := Lib.hid (kb1.out.below hb2 (by first | omega | (simp; omega)))
        have kr2 := Lib.hid (kr1.out.below hb2 (by first | omega | (simp; done) | (simp; omega)))
        obtain ⟨x20, x21, x22, x23, x24⟩ := kb2.out.cells
        obtain ⟨y20, y21, y22, y23, y24⟩ := kr2.out.cells
        obtain ⟨z20, z21, z22, z23, z24⟩ := kr2.out.frozen
        have s2 := kr2.out.lt
        have B2 := Lib.hid (btr B1.out hb2)
        have G2 := Lib.hid (G.out.below B2.out)
        have H2 := Lib.hid (H.out.below B2.out)
        clear hb2
        clear x10 x11 x12 x13 x14 y10 y11 y12 y13 y14 z10 z11 z12 z13 z14
        go_wp2_with fail
        refine (rLeq_val A n c rs B m d ys _ _ R H2.out G2.out).mono ?_
        rintro e w' ⟨rfl, rfl⟩
        go_wp2_with fail
        refine (rAt_any B m d ys t _ G2.out).mono ?_
        rintro e w' ⟨rfl, rfl⟩
        go_wp2
        refine bodyPost_ret (v := .tuple #[.agg #[.int .i64 (atC ys t), .int .i64 t, .int .i64 0, .int .i64 0, .slice none 0 0], _]) (by simp [results, Try.results45, go_sem, y20, y21, y22, y23, y24]; rfl) rfl ⟨by simp, ?_⟩
        exact ((((B2.out.setCell (by simp) _).setCell (by simp) _).setCell (by simp) _).setCell (by simp) _).setCell (by simp) _

end Go.Proofs.Ytngfjoifkolaiaa
