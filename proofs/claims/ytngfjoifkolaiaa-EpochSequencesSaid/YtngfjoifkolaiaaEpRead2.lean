/-
  What Read of package epoch computes where there is no list of reads yet. No condition.
-/
import Derived.Test.YtngfjoifkolaiaaEpRead
namespace Go.Proofs.Ytngfjoifkolaiaa
open Go.RowKit

set_option maxHeartbeats 4000000 in
theorem Read_fresh (wt wh rt : Int) (rh : Int) (A : Option Addr) (c : Nat) (rs : List Int) (B : Option Addr) (m d : Nat) (ys : List Int) (T : Nat) (w : World) (p : Bool) (P : Hid (coversC ys wt wh = p))
    (h : RdI w A 0 c rs) (g : RdI w B m d ys) (hT : T < 4) (hw0 : 0 ≤ wh) (hw1 : wh < 4) (hr0 : 0 ≤ rh) (hr1 : rh < 4) (hrt : rt = 0) :
    Calls Try.prog 41 #[.agg #[.int .i64 wt, .int .i64 wh, .int .i64 rt, .int .i64 rh, .slice A 0 c], .slice B m d, .int .i64 (T : Int)] w fun e w' =>
      ∃ v, e = .returned (.tuple #[.agg #[.int .i64 wt, .int .i64 wh, .int .i64 (atC ys T), .int .i64 T, v], .bool (!p)]) ∧ w'.ownsRow w.heap.size 3 1 v (([] : List Int)).length (ints (([] : List Int))) ∧ Below w.heap.size w w' := by
  have H := Lib.hid h; clear h
  have G := Lib.hid g; clear g
  have hT' : (T : Int) < 4 := by omega
  obtain ⟨x, hx⟩ : ∃ x, atC ys T = x := ⟨_, rfl⟩
  have HX := Lib.hid hx; clear hx
  subst hrt
  go_enter Try.func41, Try.ntmps41
  go_wp2_with fail
  refine (thread_yes T _ (by omega) hT').mono ?_
  rintro e w' ⟨rfl, rfl⟩
  go_wp2_with fail
  refine (thread_yes wh _ hw0 hw1).mono ?_
  rintro e w' ⟨rfl, rfl⟩
  go_wp2_with fail
  refine (thread_yes rh _ hr0 hr1).mono ?_
  rintro e w' ⟨rfl, rfl⟩
  go_wp2_with fail
  refine (At_any B m d ys T _ ((G.out.alloc _).alloc _)).mono ?_
  rintro e w' ⟨rfl, rfl⟩
  rw [HX.out]
  have b3 := Lib.hid ((((Blk5.new w (.int .i64 wt) (.int .i64 wh) (.int .i64 0) (.int .i64 rh) (.slice A 0 c)).alloc (.cells #[.int .i64 0, .int .i64 0, .int .i64 0, .int .i64 0, .slice none 0 0] 45)).alloc (.cells #[.int .i64 wt, .int .i64 wh, .int .i64 x, .int .i64 (T : Int), .slice none 0 0] 45)))
  have b6 : Hid (Blk5 (((w.alloc (.cells #[.int .i64 wt, .int .i64 wh, .int .i64 0, .int .i64 rh, .slice A 0 c] 45)).alloc (.cells #[.int .i64 0, .int .i64 0, .int .i64 0, .int .i64 0, .slice none 0 0] 45)).alloc (.cells #[.int .i64 wt, .int .i64 wh, .int .i64 x, .int .i64 (T : Int), .slice none 0 0] 45)) (w.heap.size + 1) (.int .i64 0) (.int .i64 0) (.int .i64 0) (.int .i64 0) (.slice none 0 0)) :=
    Blk5.alloc (by simpa using Blk5.new (w.alloc _) (.int .i64 0) (.int .i64 0) (.int .i64 0) (.int .i64 0) (.slice none 0 0)) _
  have b9 : Hid (Blk5 (((w.alloc (.cells #[.int .i64 wt, .int .i64 wh, .int .i64 0, .int .i64 rh, .slice A 0 c] 45)).alloc (.cells #[.int .i64 0, .int .i64 0, .int .i64 0, .int .i64 0, .slice none 0 0] 45)).alloc (.cells #[.int .i64 wt, .int .i64 wh, .int .i64 x, .int .i64 (T : Int), .slice none 0 0] 45)) (w.heap.size + 1 + 1) (.int .i64 wt) (.int .i64 wh) (.int .i64 x) (.int .i64 (T : Int)) (.slice none 0 0)) := by
    have := Blk5.new ((w.alloc (.cells #[.int .i64 wt, .int .i64 wh, .int .i64 0, .int .i64 rh, .slice A 0 c] 45)).alloc (.cells #[.int .i64 0, .int .i64 0, .int .i64 0, .int .i64 0, .slice none 0 0] 45)) (.int .i64 wt) (.int .i64 wh) (.int .i64 x) (.int .i64 (T : Int)) (.slice none 0 0)
    show Blk5 _ _ _ _ _ _ _
    simpa using this
  have W0 := Lib.hid (bal (bal (bal (Below.refl w.heap.size w) (.cells #[.int .i64 wt, .int .i64 wh, .int .i64 0, .int .i64 rh, .slice A 0 c] 45)) (.cells #[.int .i64 0, .int .i64 0, .int .i64 0, .int .i64 0, .slice none 0 0] 45)) (.cells #[.int .i64 wt, .int .i64 wh, .int .i64 x, .int .i64 (T : Int), .slice none 0 0] 45))
  go_wp2
  obtain ⟨W, hW⟩ : ∃ W, W = (((w.alloc (.cells #[.int .i64 wt, .int .i64 wh, .int .i64 0, .int .i64 rh, .slice A 0 c] 45)).alloc (.cells #[.int .i64 0, .int .i64 0, .int .i64 0, .int .i64 0, .slice none 0 0] 45)).alloc (.cells #[.int .i64 wt, .int .i64 wh, .int .i64 x, .int .i64 (T : Int), .slice none 0 0] 45)) := ⟨_, rfl⟩
  rw [← hW]
  have c3 : Hid (Blk5 W w.heap.size (.int .i64 wt) (.int .i64 wh) (.int .i64 0) (.int .i64 rh) (.slice A 0 c)) := by rw [hW]; exact b3
  have c6 : Hid (Blk5 W (w.heap.size + 1) (.int .i64 0) (.int .i64 0) (.int .i64 0) (.int .i64 0) (.slice none 0 0)) := by rw [hW]; exact b6
  have c9 : Hid (Blk5 W (w.heap.size + 1 + 1) (.int .i64 wt) (.int .i64 wh) (.int .i64 x) (.int .i64 (T : Int)) (.slice none 0 0)) := by rw [hW]; exact b9
  have BW : Hid (Below w.heap.size w W) := by rw [hW]; exact W0
  clear hW b3 b6 b9 W0
  have GW : Hid (RdI W.drew B m d ys) := (G.out.below BW.out).drewN 0
  obtain ⟨x30, x31, _, _, _⟩ := (show Blk5 W.drew w.heap.size _ _ _ _ _ from c3.out).cells
  obtain ⟨x90, x91, x92, x93, x94⟩ := (show Blk5 W.drew (w.heap.size + 1 + 1) _ _ _ _ _ from c9.out).cells
  have l6 := c6.out.lt
  have l9 := c9.out.lt
  have l3 : w.heap.size < W.heap.size := by omega
  go_region_held3 (fun w' => w'.cell? ⟨w.heap.size, 0, none⟩ = some (.int .i64 wt) ∧ w'.cell? ⟨w.heap.size, 1, none⟩ = some (.int .i64 wh) ∧ w'.cell? ⟨w.heap.size + 1 + 1, 0, none⟩ = some (.int .i64 wt) ∧ w'.cell? ⟨w.heap.size + 1 + 1, 1, none⟩ = some (.int .i64 wh) ∧ w'.cell? ⟨w.heap.size + 1 + 1, 2, none⟩ = some (.int .i64 x) ∧ w'.cell? ⟨w.heap.size + 1 + 1, 3, none⟩ = some (.int .i64 (T : Int)) ∧ w'.cell? ⟨w.heap.size + 1 + 1, 4, none⟩ = some (.slice none 0 0)) (first | with_reducible exact ⟨z30, z31, z90, z91, z92, z93, z94⟩ | with_reducible exact ⟨x30, x31, x90, x91, x92, x93, x94⟩ | go_keep)
    (first | (go_at_call 30; refine (Covers_val B m d ys wt wh _ _ P ?_).mono ?_; (exact GW.out); rintro e wA ⟨rfl, hbA⟩; have z30 := (hbA.cell (p := ⟨w.heap.size, 0, none⟩) l3).trans x30; have z31 := (hbA.cell (p := ⟨w.heap.size, 1, none⟩) l3).trans x31; have z90 := (hbA.cell (p := ⟨w.heap.size + 1 + 1, 0, none⟩) l9).trans x90; have z91 := (hbA.cell (p := ⟨w.heap.size + 1 + 1, 1, none⟩) l9).trans x91; have z92 := (hbA.cell (p := ⟨w.heap.size + 1 + 1, 2, none⟩) l9).trans x92; have z93 := (hbA.cell (p := ⟨w.heap.size + 1 + 1, 3, none⟩) l9).trans x93; have z94 := (hbA.cell (p := ⟨w.heap.size + 1 + 1, 4, none⟩) l9).trans x94; have d6 := Lib.hid (c6.out.below (show Below W.heap.size W wA from ⟨hbA.os, hbA.tape, hbA.output, hbA.size, hbA.block⟩) l6); obtain ⟨y0, y1, y2, y3, y4⟩ := d6.out.cells; obtain ⟨v0, v1, v2, v3, v4⟩ := d6.out.frozen))
  go_wp2
  have hbW : Below W.heap.size W wA := ⟨hbA.os, hbA.tape, hbA.output, hbA.size, hbA.block⟩
  refine bodyPost_ret (v := .tuple #[.agg #[.int .i64 wt, .int .i64 wh, .int .i64 x, .int .i64 (T : Int), (.slice none 0 0)], .bool (!p)]) (by simp [results, Try.results41, go_sem, y0, y1, y2, y3, y4]) rfl ?_
  rw [HX.out]
  exact ⟨_, rfl, World.ownsRow_nil _ _ _ _, put5_below (btr BW.out hbW) (by omega) _ _ _ _ _⟩

set_option maxHeartbeats 4000000 in
theorem Read_after (wt wh rt : Int) (rh : Int) (A : Option Addr) (c : Nat) (rs : List Int) (B : Option Addr) (m d : Nat) (ys : List Int) (T : Nat) (w : World) (p : Bool) (P : Hid (coversC ys wt wh = p))
    (h : RdI w A 0 c rs) (g : RdI w B m d ys) (hT : T < 4) (hw0 : 0 ≤ wh) (hw1 : wh < 4) (hr0 : 0 ≤ rh) (hr1 : rh < 4) (hrt : (rt == 0) = false) (Q : Hid (coversC ys rt rh = true)) :
    Calls Try.prog 41 #[.agg #[.int .i64 wt, .int .i64 wh, .int .i64 rt, .int .i64 rh, .slice A 0 c], .slice B m d, .int .i64 (T : Int)] w fun e w' =>
      ∃ v, e = .returned (.tuple #[.agg #[.int .i64 wt, .int .i64 wh, .int .i64 (atC ys T), .int .i64 T, v], .bool (!p)]) ∧ w'.ownsRow w.heap.size 3 1 v (([] : List Int)).length (ints (([] : List Int))) ∧ Below w.heap.size w w' := by
  have H := Lib.hid h; clear h
  have G := Lib.hid g; clear g
  have hT' : (T : Int) < 4 := by omega
  obtain ⟨x, hx⟩ : ∃ x, atC ys T = x := ⟨_, rfl⟩
  have HX := Lib.hid hx; clear hx
  go_enter Try.func41, Try.ntmps41
  go_wp2_with fail
  refine (thread_yes T _ (by omega) hT').mono ?_
  rintro e w' ⟨rfl, rfl⟩
  go_wp2_with fail
  refine (thread_yes wh _ hw0 hw1).mono ?_
  rintro e w' ⟨rfl, rfl⟩
  go_wp2_with fail
  refine (thread_yes rh _ hr0 hr1).mono ?_
  rintro e w' ⟨rfl, rfl⟩
  go_wp2_with fail
  refine (At_any B m d ys T _ ((G.out.alloc _).alloc _)).mono ?_
  rintro e w' ⟨rfl, rfl⟩
  rw [HX.out]
  have b3 := Lib.hid ((((Blk5.new w (.int .i64 wt) (.int .i64 wh) (.int .i64 rt) (.int .i64 rh) (.slice A 0 c)).alloc (.cells #[.int .i64 0, .int .i64 0, .int .i64 0, .int .i64 0, .slice none 0 0] 45)).alloc (.cells #[.int .i64 wt, .int .i64 wh, .int .i64 rt, .int .i64 rh, .slice none 0 0] 45)))
  have b6 : Hid (Blk5 (((w.alloc (.cells #[.int .i64 wt, .int .i64 wh, .int .i64 rt, .int .i64 rh, .slice A 0 c] 45)).alloc (.cells #[.int .i64 0, .int .i64 0, .int .i64 0, .int .i64 0, .slice none 0 0] 45)).alloc (.cells #[.int .i64 wt, .int .i64 wh, .int .i64 rt, .int .i64 rh, .slice none 0 0] 45)) (w.heap.size + 1) (.int .i64 0) (.int .i64 0) (.int .i64 0) (.int .i64 0) (.slice none 0 0)) :=
    Blk5.alloc (by simpa using Blk5.new (w.alloc _) (.int .i64 0) (.int .i64 0) (.int .i64 0) (.int .i64 0) (.slice none 0 0)) _
  have b9 : Hid (Blk5 (((w.alloc (.cells #[.int .i64 wt, .int .i64 wh, .int .i64 rt, .int .i64 rh, .slice A 0 c] 45)).alloc (.cells #[.int .i64 0, .int .i64 0, .int .i64 0, .int .i64 0, .slice none 0 0] 45)).alloc (.cells #[.int .i64 wt, .int .i64 wh, .int .i64 rt, .int .i64 rh, .slice none 0 0] 45)) (w.heap.size + 1 + 1) (.int .i64 wt) (.int .i64 wh) (.int .i64 rt) (.int .i64 rh) (.slice none 0 0)) := by
    have := Blk5.new ((w.alloc (.cells #[.int .i64 wt, .int .i64 wh, .int .i64 rt, .int .i64 rh, .slice A 0 c] 45)).alloc (.cells #[.int .i64 0, .int .i64 0, .int .i64 0, .int .i64 0, .slice none 0 0] 45)) (.int .i64 wt) (.int .i64 wh) (.int .i64 rt) (.int .i64 rh) (.slice none 0 0)
    show Blk5 _ _ _ _ _ _ _
    simpa using this
  have W0 := Lib.hid (bal (bal (bal (Below.refl w.heap.size w) (.cells #[.int .i64 wt, .int .i64 wh, .int .i64 rt, .int .i64 rh, .slice A 0 c] 45)) (.cells #[.int .i64 0, .int .i64 0, .int .i64 0, .int .i64 0, .slice none 0 0] 45)) (.cells #[.int .i64 wt, .int .i64 wh, .int .i64 rt, .int .i64 rh, .slice none 0 0] 45))
  go_wp2_with fail
  refine (Covers_val B m d ys rt rh _ _ Q (((G.out.alloc _).alloc _).alloc _)).mono ?_
  rintro e w1 ⟨rfl, hb1⟩
  have q3 := Lib.hid (b3.out.below hb1 (by simp; omega))
  have q6 := Lib.hid (b6.out.below hb1 (by simp))
  have q9 := Lib.hid (b9.out.below hb1 (by simp))
  have B1 := Lib.hid (btr W0.out hb1)
  obtain ⟨x90, x91, x92, x93, x94⟩ := q9.out.cells
  obtain ⟨f90, f91, f92, f93, f94⟩ := q9.out.frozen
  have s9 := q9.out.lt
  clear hb1 b3 b6 b9 W0
  go_wp2
  obtain ⟨W, hW⟩ : ∃ W, W = (w1.setCell ⟨w.heap.size + 1 + 1, 2, none⟩ (.int .i64 x)).setCell ⟨w.heap.size + 1 + 1, 3, none⟩ (.int .i64 (T : Int)) := ⟨_, rfl⟩
  rw [← hW]
  have c3 : Hid (Blk5 W w.heap.size (.int .i64 wt) (.int .i64 wh) (.int .i64 rt) (.int .i64 rh) (.slice A 0 c)) := by rw [hW]; exact (q3.out.far2 (by omega) _).far2 (by omega) _
  have c6 : Hid (Blk5 W (w.heap.size + 1) (.int .i64 0) (.int .i64 0) (.int .i64 0) (.int .i64 0) (.slice none 0 0)) := by rw [hW]; exact (q6.out.far2 (by omega) _).far2 (by omega) _
  have c9 : Hid (Blk5 W (w.heap.size + 1 + 1) (.int .i64 wt) (.int .i64 wh) (.int .i64 x) (.int .i64 (T : Int)) (.slice none 0 0)) := by rw [hW]; exact q9.out.set23 _ _
  have BW : Hid (Below w.heap.size w W) := by rw [hW]; exact (B1.out.setCell (by simp; omega) _).setCell (by simp; omega) _
  clear hW q3 q6 q9 B1 x90 x91 x92 x93 x94 f90 f91 f92 f93 f94 s9
  have GW : Hid (RdI W.drew B m d ys) := (G.out.below BW.out).drewN 0
  obtain ⟨x30, x31, _, _, _⟩ := (show Blk5 W.drew w.heap.size _ _ _ _ _ from c3.out).cells
  obtain ⟨x90, x91, x92, x93, x94⟩ := (show Blk5 W.drew (w.heap.size + 1 + 1) _ _ _ _ _ from c9.out).cells
  have l6 := c6.out.lt
  have l9 := c9.out.lt
  have l3 : w.heap.size < W.heap.size := by omega
  go_region_held3 (fun w' => w'.cell? ⟨w.heap.size, 0, none⟩ = some (.int .i64 wt) ∧ w'.cell? ⟨w.heap.size, 1, none⟩ = some (.int .i64 wh) ∧ w'.cell? ⟨w.heap.size + 1 + 1, 0, none⟩ = some (.int .i64 wt) ∧ w'.cell? ⟨w.heap.size + 1 + 1, 1, none⟩ = some (.int .i64 wh) ∧ w'.cell? ⟨w.heap.size + 1 + 1, 2, none⟩ = some (.int .i64 x) ∧ w'.cell? ⟨w.heap.size + 1 + 1, 3, none⟩ = some (.int .i64 (T : Int)) ∧ w'.cell? ⟨w.heap.size + 1 + 1, 4, none⟩ = some (.slice none 0 0)) (first | with_reducible exact ⟨z30, z31, z90, z91, z92, z93, z94⟩ | with_reducible exact ⟨x30, x31, x90, x91, x92, x93, x94⟩ | go_keep)
    (first | (go_at_call 30; refine (Covers_val B m d ys wt wh _ _ P ?_).mono ?_; (exact GW.out); rintro e wA ⟨rfl, hbA⟩; have z30 := (hbA.cell (p := ⟨w.heap.size, 0, none⟩) l3).trans x30; have z31 := (hbA.cell (p := ⟨w.heap.size, 1, none⟩) l3).trans x31; have z90 := (hbA.cell (p := ⟨w.heap.size + 1 + 1, 0, none⟩) l9).trans x90; have z91 := (hbA.cell (p := ⟨w.heap.size + 1 + 1, 1, none⟩) l9).trans x91; have z92 := (hbA.cell (p := ⟨w.heap.size + 1 + 1, 2, none⟩) l9).trans x92; have z93 := (hbA.cell (p := ⟨w.heap.size + 1 + 1, 3, none⟩) l9).trans x93; have z94 := (hbA.cell (p := ⟨w.heap.size + 1 + 1, 4, none⟩) l9).trans x94; have d6 := Lib.hid (c6.out.below (show Below W.heap.size W wA from ⟨hbA.os, hbA.tape, hbA.output, hbA.size, hbA.block⟩) l6); obtain ⟨y0, y1, y2, y3, y4⟩ := d6.out.cells; obtain ⟨v0, v1, v2, v3, v4⟩ := d6.out.frozen))
  go_wp2
  have hbW : Below W.heap.size W wA := ⟨hbA.os, hbA.tape, hbA.output, hbA.size, hbA.block⟩
  refine bodyPost_ret (v := .tuple #[.agg #[.int .i64 wt, .int .i64 wh, .int .i64 x, .int .i64 (T : Int), (.slice none 0 0)], .bool (!p)]) (by simp [results, Try.results41, go_sem, y0, y1, y2, y3, y4]) rfl ?_
  rw [HX.out]
  exact ⟨_, rfl, World.ownsRow_nil _ _ _ _, put5_below (btr BW.out hbW) (by omega) _ _ _ _ _⟩

end Go.Proofs.Ytngfjoifkolaiaa
