/-
  What Read of package epoch computes. No condition.
-/
import Derived.Test.YtngfjoifkolaiaaEpWalk
import Derived.Test.YtngfjoifkolaiaaLawClockGrows
namespace Go.Proofs.Ytngfjoifkolaiaa
open Go.RowKit

def setC (l : List Int) (T : Nat) (x : Int) : List Int := (padTo l (T + 1)).set T x
theorem setC_length (l : List Int) (T : Nat) (x : Int) : (setC l T x).length = max l.length (T + 1) := by unfold setC; rw [List.length_set, padTo_length]
theorem setC_in {l : List Int} (h : InI l) (T : Nat) {x : Int} (hx : -9223372036854775808 ≤ x ∧ x ≤ 9223372036854775807) : InI (setC l T x) := (padTo_in h _).set_ _ _ hx
theorem Blk5.far {w : World} {g : Nat} {a0 a1 a2 a3 a4 : Value} (h : Blk5 w g a0 a1 a2 a3 a4) {p : Addr} (hp : g ≠ p.block) (u : Value) : Blk5 (w.setCell p u) g a0 a1 a2 a3 a4 := (Below.heap_setCell w p u g hp).trans h
theorem Blk5.far2 {w : World} {g b i : Nat} {a0 a1 a2 a3 a4 : Value} (h : Blk5 w g a0 a1 a2 a3 a4) (hp : g ≠ b) (u : Value) : Blk5 (w.setCell ⟨b, i, none⟩ u) g a0 a1 a2 a3 a4 := h.far (p := ⟨b, i, none⟩) hp u
theorem Blk5.set4 {w : World} {g : Nat} {a0 a1 a2 a3 a4 : Value} (h : Blk5 w g a0 a1 a2 a3 a4) (u : Value) : Blk5 (w.setCell ⟨g, 4, none⟩ u) g a0 a1 a2 a3 u := by
  unfold Blk5 at h ⊢
  simp [World.setCell, Array.getElem?_modify, h]
theorem Blk5.set23 {w : World} {g : Nat} {a0 a1 a2 a3 a4 : Value} (h : Blk5 w g a0 a1 a2 a3 a4) (u v : Value) : Blk5 ((w.setCell ⟨g, 2, none⟩ u).setCell ⟨g, 3, none⟩ v) g a0 a1 u v a4 := by
  unfold Blk5 at h ⊢
  simp [World.setCell, Array.getElem?_modify, h]

theorem own_keepAt {w w' : World} {base g n c : Nat} {e : TypeId} {xs : List Value} (h : w.ownsRow base e 1 (.slice (some ⟨g, 0, none⟩) n c) n xs) (hg : w'.heap[g]? = w.heap[g]?) : w'.ownsRow base e 1 (.slice (some ⟨g, 0, none⟩) n c) n xs := by
  refine ⟨h.1, ?_⟩
  rcases h.2 with ⟨h1, _⟩ | ⟨g', cap, cur, h1, h2, h3, h4⟩
  · simp at h1
  · have hgg : g' = g := by simp only [Value.slice.injEq, Option.some.injEq, Addr.mk.injEq, and_true] at h1; exact h1.1.symm
    subst hgg
    exact .inr ⟨g', cap, cur, h1, h2, by rw [hg]; exact h3, h4⟩
/-- the world after a shadow is stored at block b -/
def put5 (w : World) (b : Nat) (a0 a1 a2 a3 a4 : Value) : World := ((((w.setCell ⟨b, 0, none⟩ a0).setCell ⟨b, 1, none⟩ a1).setCell ⟨b, 2, none⟩ a2).setCell ⟨b, 3, none⟩ a3).setCell ⟨b, 4, none⟩ a4
theorem put5_heap (w : World) (b k : Nat) (a0 a1 a2 a3 a4 : Value) (h : k ≠ b) : (put5 w b a0 a1 a2 a3 a4).heap[k]? = w.heap[k]? := by
  unfold put5
  rw [Below.heap_setCell _ _ _ _ h, Below.heap_setCell _ _ _ _ h, Below.heap_setCell _ _ _ _ h, Below.heap_setCell _ _ _ _ h, Below.heap_setCell _ _ _ _ h]
theorem put5_below {w0 w : World} {B b : Nat} (h : Below B w0 w) (hb : B ≤ b) (a0 a1 a2 a3 a4 : Value) : Below B w0 (put5 w b a0 a1 a2 a3 a4) :=
  ((((h.setCell hb _).setCell hb _).setCell hb _).setCell hb _).setCell hb _
theorem put5_size (w : World) (b : Nat) (a0 a1 a2 a3 a4 : Value) : (put5 w b a0 a1 a2 a3 a4).heap.size = w.heap.size := by simp [put5, World.setCell]
theorem put5_blk {w : World} {b : Nat} {c0 c1 c2 c3 c4 : Value} (h : Blk5 w b c0 c1 c2 c3 c4) (a0 a1 a2 a3 a4 : Value) : Blk5 (put5 w b a0 a1 a2 a3 a4) b a0 a1 a2 a3 a4 := by
  unfold Blk5 at h ⊢
  simp [put5, World.setCell, Array.getElem?_modify, h]

set_option maxHeartbeats 4000000 in
theorem Read_many (wt wh rt rh : Int) (A : Option Addr) (n c : Nat) (rs : List Int) (B : Option Addr) (m d : Nat) (ys : List Int) (T : Nat) (w : World) (p : Bool) (P : Hid (coversC ys wt wh = p))
    (h : RdI w A n c rs) (g : RdI w B m d ys) (hT : T < 4) (hw0 : 0 ≤ wh) (hw1 : wh < 4) (hr0 : 0 ≤ rh) (hr1 : rh < 4) (hn : n ≤ 65536) (hn0 : 0 < n) :
    Calls Try.prog 41 #[.agg #[.int .i64 wt, .int .i64 wh, .int .i64 rt, .int .i64 rh, .slice A n c], .slice B m d, .int .i64 (T : Int)] w fun e w' =>
      ∃ v, e = .returned (.tuple #[.agg #[.int .i64 wt, .int .i64 wh, .int .i64 rt, .int .i64 rh, v], .bool (!p)]) ∧ w'.ownsRow w.heap.size 3 1 v (setC rs T (atC ys T)).length (ints (setC rs T (atC ys T))) ∧ Below w.heap.size w w' := by
  obtain ⟨i0, hi, hz0, hz1, hz2⟩ := info_parts int_info
  have hsz1 : (Try.prog.info? 3).map (·.size) = some 1 := by rw [hi]; simp [hz1]
  have HS := Lib.hid hsz1; clear hsz1
  have H := Lib.hid h; clear h
  have G := Lib.hid g; clear g
  obtain ⟨N, hN⟩ : ∃ N, N = max n (T + 1) := ⟨_, rfl⟩
  have hN1 : n ≤ N := by omega
  have hN2 : T < N := by omega
  have hN3 : N ≤ 65536 := by omega
  have HN := Lib.hid hN; clear hN
  have hT' : (T : Int) < 4 := by omega
  obtain ⟨x, hx⟩ : ∃ x, atC ys T = x := ⟨_, rfl⟩
  have HX := Lib.hid hx; clear hx
  go_enter Try.func41, Try.ntmps41
  go_wp2_with fail
  refine (thread_yes T _ (by omega) hT').mono ?_
  rintro e w' ⟨rfl, rfl⟩
  go_wp2_with fail
  refine (thread_yes wh _ hw0 hw1).mono ?_
  rintro e w' ⟨rfl, rfl⟩
  go_wp2_with fail
  refine (thread_yes rh _ hr0 hr1).mono ?_
  rintro e w' ⟨rfl, rfl⟩
  go_wp2_with fail
  refine (At_any B m d ys T _ ((G.out.alloc _).alloc _)).mono ?_
  rintro e w' ⟨rfl, rfl⟩
  rw [HX.out]
  have b3 := Lib.hid ((((Blk5.new w (.int .i64 wt) (.int .i64 wh) (.int .i64 rt) (.int .i64 rh) (.slice A n c)).alloc (.cells #[.int .i64 0, .int .i64 0, .int .i64 0, .int .i64 0, .slice none 0 0] 45)).alloc (.cells #[.int .i64 wt, .int .i64 wh, .int .i64 rt, .int .i64 rh, .slice none 0 0] 45)))
  have b6 : Hid (Blk5 (((w.alloc (.cells #[.int .i64 wt, .int .i64 wh, .int .i64 rt, .int .i64 rh, .slice A n c] 45)).alloc (.cells #[.int .i64 0, .int .i64 0, .int .i64 0, .int .i64 0, .slice none 0 0] 45)).alloc (.cells #[.int .i64 wt, .int .i64 wh, .int .i64 rt, .int .i64 rh, .slice none 0 0] 45)) (w.heap.size + 1) (.int .i64 0) (.int .i64 0) (.int .i64 0) (.int .i64 0) (.slice none 0 0)) :=
    Blk5.alloc (by simpa using Blk5.new (w.alloc _) (.int .i64 0) (.int .i64 0) (.int .i64 0) (.int .i64 0) (.slice none 0 0)) _
  have b9 : Hid (Blk5 (((w.alloc (.cells #[.int .i64 wt, .int .i64 wh, .int .i64 rt, .int .i64 rh, .slice A n c] 45)).alloc (.cells #[.int .i64 0, .int .i64 0, .int .i64 0, .int .i64 0, .slice none 0 0] 45)).alloc (.cells #[.int .i64 wt, .int .i64 wh, .int .i64 rt, .int .i64 rh, .slice none 0 0] 45)) (w.heap.size + 1 + 1) (.int .i64 wt) (.int .i64 wh) (.int .i64 rt) (.int .i64 rh) (.slice none 0 0)) := by
    have := Blk5.new ((w.alloc (.cells #[.int .i64 wt, .int .i64 wh, .int .i64 rt, .int .i64 rh, .slice A n c] 45)).alloc (.cells #[.int .i64 0, .int .i64 0, .int .i64 0, .int .i64 0, .slice none 0 0] 45)) (.int .i64 wt) (.int .i64 wh) (.int .i64 rt) (.int .i64 rh) (.slice none 0 0)
    show Blk5 _ _ _ _ _ _ _
    simpa using this
  have W0 := Lib.hid (bal (bal (bal (Below.refl w.heap.size w) (.cells #[.int .i64 wt, .int .i64 wh, .int .i64 rt, .int .i64 rh, .slice A n c] 45)) (.cells #[.int .i64 0, .int .i64 0, .int .i64 0, .int .i64 0, .slice none 0 0] 45)) (.cells #[.int .i64 wt, .int .i64 wh, .int .i64 rt, .int .i64 rh, .slice none 0 0] 45))
  go_wp2_with (first
    | (at_make
       refine wpList_make_full _ rfl _ _ 22 rfl (w.heap.size + 1 + 1 + 1) 3 i0 (.int .i64 0) 1 Try.underlying22 hi hz0 hz1 _ _ _ _ N rfl rfl (by have := HN.out; omega) (by have := HN.out; omega) (by rw [hz2]; omega) (by unfold maxLen; omega) (by simp) ?_
       intro w1 hown1 hgrow1
       have hown2 : w1.ownsRow (w.heap.size + 1 + 1 + 1) 3 1 (.slice (some ⟨(w.heap.size + 1 + 1 + 1), 0, none⟩) N N) N (madeCells (Value.int .i64 0).cells (N * 1)).toList := by simpa using hown1
       have hbA : Below (w.heap.size + 1 + 1 + 1) _ w1 := (Below.refl _ _).grown hgrow1 (by simp) (by simp)
       have O2 : Hid ((w1.setCell ⟨w.heap.size + 1 + 1, 4, none⟩ (.slice (some ⟨w.heap.size + 1 + 1 + 1, 0, none⟩) N N)).heap[(w.heap.size + 1 + 1 + 1)]? = some (.cells (List.replicate N (Value.int .i64 0)).toArray 3 (0, 0))) := (Below.heap_setCell _ _ _ _ (by simp)).trans (block_of_made hown2)
       have q3 := Lib.hid (b3.out.below hbA (by omega))
       have q6 := Lib.hid (b6.out.below hbA (by omega))
       have q9 := Lib.hid (b9.out.below hbA (by omega))
       have B1 := Lib.hid (W0.out.trans (hbA.mono (by omega)))
       have hs1 : (w.heap.size + 1 + 1 + 1) < w1.heap.size := by
         have := (Array.getElem?_eq_some_iff.1 (block_of_made hown2)).1
         exact this
       have B2 : Hid (Below w.heap.size w (w1.setCell ⟨w.heap.size + 1 + 1, 4, none⟩ (.slice (some ⟨w.heap.size + 1 + 1 + 1, 0, none⟩) N N))) := B1.out.setCell (by simp; omega) _
       have H2 := Lib.hid (H.out.below B2.out)
       obtain ⟨x30, x31, x32, x33, x34⟩ := q3.out.cells
       obtain ⟨x90, x91, x92, x93, x94⟩ := q9.out.cells
       obtain ⟨f90, f91, f92, f93, f94⟩ := q9.out.frozen
       clear hown1 hgrow1 hown2 hbA)
    | ((with_reducible show wpList _ _ _ _ _ _)
       refine wpList_copy_splice rfl (.tmp 74) (.tmp 76) 22 22 rfl 3 Try.underlying22 HS.out _ _ N N n c (by rfl) (by rfl) (w.heap.size + 1 + 1 + 1) 0 (List.replicate N (Value.int .i64 0)) 3 O2.out (ints rs) (by rw [ints_length, H.out.1]; exact (Nat.min_eq_left hN1).symm) (fun hp => ⟨rfl, H2.out.src hp⟩) (by rw [ints_length, H.out.1, List.length_replicate]; omega) (ints_one rs) (w.heap.size + 1 + 1 + 1) (w1.setCell ⟨w.heap.size + 1 + 1, 4, none⟩ (.slice (some ⟨w.heap.size + 1 + 1 + 1, 0, none⟩) N N)) (Below.refl _ _) (Nat.le_refl _) ?_
       intro w2 hg2 hb2
       have hg3 := Lib.hid hg2.out
       rw [splice_zero] at hg3
       have hc2 : ∃ y, w2.cell? ⟨(w.heap.size + 1 + 1 + 1), T, none⟩ = some y := by
         rw [cell_of_row w2 _ T _ _ (0, 0) hg3.out]
         simp only [List.getElem?_toArray]
         exact ⟨_, List.getElem?_eq_getElem (by rw [ints_length, padTo_length]; omega)⟩
       obtain ⟨y, hc3⟩ := hc2
       have hf2 : w2.frozen? ⟨(w.heap.size + 1 + 1 + 1), T, none⟩ = false := frozen_of_row w2 _ T _ _ hg3.out
       have r3 := Lib.hid ((q3.out.far2 (by omega) _).below hb2 (by omega))
       have r6 := Lib.hid ((q6.out.far2 (by omega) _).below hb2 (by omega))
       have r9 := Lib.hid ((q9.out.set4 _).below hb2 (by omega))
       have B3 := Lib.hid (B2.out.trans (hb2.mono (by omega)))
       obtain ⟨x40, x41, x42, x43, x44⟩ := r9.out.cells
       clear x30 x31 x32 x33 x34 x90 x91 x92 x93 x94 f90 f91 f92 f93 f94 hg2 hb2))
  all_goals
    obtain ⟨W, hW⟩ : ∃ W, W = w2.setCell ⟨w.heap.size + 1 + 1 + 1, T, none⟩ (.int .i64 x) := ⟨_, rfl⟩
    rw [← hW]
    have c3 : Hid (Blk5 W w.heap.size (.int .i64 wt) (.int .i64 wh) (.int .i64 rt) (.int .i64 rh) (.slice A n c)) := by rw [hW]; exact r3.out.far2 (by omega) _
    have c6 : Hid (Blk5 W (w.heap.size + 1) (.int .i64 0) (.int .i64 0) (.int .i64 0) (.int .i64 0) (.slice none 0 0)) := by rw [hW]; exact r6.out.far2 (by omega) _
    have c9 : Hid (Blk5 W (w.heap.size + 1 + 1) (.int .i64 wt) (.int .i64 wh) (.int .i64 rt) (.int .i64 rh) (.slice (some ⟨w.heap.size + 1 + 1 + 1, 0, none⟩) N N)) := by rw [hW]; exact r9.out.far2 (by omega) _
    have BW : Hid (Below w.heap.size w W) := by rw [hW]; exact B3.out.setCell (by simp; omega) _
    have OW : Hid (W.ownsRow w.heap.size 3 1 (.slice (some ⟨w.heap.size + 1 + 1 + 1, 0, none⟩) N N) N (ints (setC rs T x))) := by
      have e1 : padTo rs N = padTo rs (T + 1) := by
        unfold padTo; rw [H.out.1, show N - n = T + 1 - n from by have := HN.out; omega]
      have h1 : w2.ownsRow w.heap.size 3 1 (.slice (some ⟨w.heap.size + 1 + 1 + 1, 0, none⟩) N N) N (ints (padTo rs N)) :=
        own_of_block (by omega) hg3.out (Nat.le_refl _) (by unfold maxLen; omega) (by simp [ints_length, padTo_length]; have := H.out.1; omega) (by
          rw [List.take_of_length_le]; simp [ints_length, padTo_length]; have := H.out.1; omega)
      have h2 := (h1.stored T (.int .i64 x)).1
      rw [ints_set, e1] at h2
      rw [hW]; exact h2
    clear hW hg3 hc3 hf2 r3 r6 r9 B3 x40 x41 x42 x43 x44
    have GW : Hid (RdI W.drew B m d ys) := (G.out.below BW.out).drewN 0
    obtain ⟨x30, x31, _, _, _⟩ := (show Blk5 W.drew w.heap.size _ _ _ _ _ from c3.out).cells
    obtain ⟨x90, x91, x92, x93, x94⟩ := (show Blk5 W.drew (w.heap.size + 1 + 1) _ _ _ _ _ from c9.out).cells
    have l6 := c6.out.lt
    have l9 := c9.out.lt
    have l3 : w.heap.size < W.heap.size := by omega
    go_region_held3 (fun w' => w'.cell? ⟨w.heap.size, 0, none⟩ = some (.int .i64 wt) ∧ w'.cell? ⟨w.heap.size, 1, none⟩ = some (.int .i64 wh) ∧ w'.cell? ⟨w.heap.size + 1 + 1, 0, none⟩ = some (.int .i64 wt) ∧ w'.cell? ⟨w.heap.size + 1 + 1, 1, none⟩ = some (.int .i64 wh) ∧ w'.cell? ⟨w.heap.size + 1 + 1, 2, none⟩ = some (.int .i64 rt) ∧ w'.cell? ⟨w.heap.size + 1 + 1, 3, none⟩ = some (.int .i64 rh) ∧ w'.cell? ⟨w.heap.size + 1 + 1, 4, none⟩ = some (.slice (some ⟨w.heap.size + 1 + 1 + 1, 0, none⟩) N N)) (first | with_reducible exact ⟨z30, z31, z90, z91, z92, z93, z94⟩ | with_reducible exact ⟨x30, x31, x90, x91, x92, x93, x94⟩ | go_keep)
      (first | (go_at_call 30; refine (Covers_val B m d ys wt wh _ _ P ?_).mono ?_; (exact GW.out); rintro e wA ⟨rfl, hbA⟩; have z30 := (hbA.cell (p := ⟨w.heap.size, 0, none⟩) (show w.heap.size < W.drew.heap.size from l3)).trans x30; have z31 := (hbA.cell (p := ⟨w.heap.size, 1, none⟩) l3).trans x31; have z90 := (hbA.cell (p := ⟨w.heap.size + 1 + 1, 0, none⟩) l9).trans x90; have z91 := (hbA.cell (p := ⟨w.heap.size + 1 + 1, 1, none⟩) l9).trans x91; have z92 := (hbA.cell (p := ⟨w.heap.size + 1 + 1, 2, none⟩) l9).trans x92; have z93 := (hbA.cell (p := ⟨w.heap.size + 1 + 1, 3, none⟩) l9).trans x93; have z94 := (hbA.cell (p := ⟨w.heap.size + 1 + 1, 4, none⟩) l9).trans x94; have d6 := Lib.hid (c6.out.below (show Below W.heap.size W wA from ⟨hbA.os, hbA.tape, hbA.output, hbA.size, hbA.block⟩) l6); obtain ⟨y0, y1, y2, y3, y4⟩ := d6.out.cells; obtain ⟨v0, v1, v2, v3, v4⟩ := d6.out.frozen))
    go_wp2
    have lm : w.heap.size + 1 + 1 + 1 < W.heap.size := by
      have := (OW.out.lt (w.heap.size + 1 + 1 + 1) rfl).2
      exact this
    have hbW : Below W.heap.size W wA := ⟨hbA.os, hbA.tape, hbA.output, hbA.size, hbA.block⟩
    refine bodyPost_ret (v := .tuple #[.agg #[.int .i64 wt, .int .i64 wh, .int .i64 rt, .int .i64 rh, (.slice (some ⟨w.heap.size + 1 + 1 + 1, 0, none⟩) N N)], .bool (!p)]) (by simp [results, Try.results41, go_sem, y0, y1, y2, y3, y4]) rfl ⟨_, rfl, ?_, put5_below (btr BW.out hbW) (by omega) _ _ _ _ _⟩
    rw [HX.out]
    have hl : (setC rs T x).length = N := by rw [setC_length, H.out.1]; exact HN.out.symm
    rw [hl]
    exact own_keepAt OW.out ((put5_heap wA (w.heap.size + 1) _ _ _ _ _ _ (by omega)).trans (hbW.block _ lm))

end Go.Proofs.Ytngfjoifkolaiaa
