/-
  The blocks of the statement EpochSequences: the four clocks, the bytes. No condition.
-/
import Derived.Test.YtngfjoifkolaiaaLawEpochReads
import Derived.Deep.RegionWith
namespace Go.Proofs.Ytngfjoifkolaiaa
open Go.RowKit

/-- a slice of arrays of three bytes reads as a list of triples -/
def RdU3 (w : World) (A : Option Addr) (n c : Nat) (xs : List (Int × Int × Int)) : Prop :=
  xs.length = n ∧ n ≤ c ∧ c ≤ maxLen ∧ (∀ x ∈ xs, (0 ≤ x.1 ∧ x.1 ≤ 255) ∧ (0 ≤ x.2.1 ∧ x.2.1 ≤ 255) ∧ (0 ≤ x.2.2 ∧ x.2.2 ≤ 255)) ∧
  (0 < n → ∃ ad, A = some ad ∧ ad.block < w.heap.size ∧ ∀ j, j < n → w.cell? (ad.add (j * 3)) = some (.int .u8 (xs.getD j (0, 0, 0)).1) ∧ w.cell? (ad.add (j * 3 + 1)) = some (.int .u8 (xs.getD j (0, 0, 0)).2.1) ∧ w.cell? (ad.add (j * 3 + 2)) = some (.int .u8 (xs.getD j (0, 0, 0)).2.2))
theorem RdU3.at_ {w w' : World} {A : Option Addr} {n c k : Nat} {xs : List (Int × Int × Int)} (h : RdU3 w A n c xs) (hb : Below w.heap.size w w') (hk : k < n) :
    ∃ ad b0 b1 b2, A = some ad ∧ (0 ≤ b0 ∧ b0 ≤ 255) ∧ (0 ≤ b1 ∧ b1 ≤ 255) ∧ (0 ≤ b2 ∧ b2 ≤ 255) ∧ w'.cell? (ad.add (k * 3)) = some (.int .u8 b0) ∧ w'.cell? ⟨(ad.add (k * 3)).block, (ad.add (k * 3)).off + 1, none⟩ = some (.int .u8 b1) ∧ w'.cell? ⟨(ad.add (k * 3)).block, (ad.add (k * 3)).off + 2, none⟩ = some (.int .u8 b2) := by
  obtain ⟨ad, e, hl, hc⟩ := h.2.2.2.2 (by omega)
  obtain ⟨h1, h2, h3⟩ := hc k hk
  have hx : xs.getD k (0, 0, 0) ∈ xs := by
    rw [List.getD_eq_getElem?_getD, List.getElem?_eq_getElem (by rw [h.1]; exact hk)]
    exact List.getElem_mem _
  have hB := h.2.2.2.1 _ hx
  have hbk : ∀ j, (ad.add j).block < w.heap.size := fun j => by unfold Addr.add; split <;> exact hl
  have ea : ∀ j, 0 < j → (⟨(ad.add (k * 3)).block, (ad.add (k * 3)).off + j, none⟩ : Addr) = ad.add (k * 3 + j) := fun j hj => by
    unfold Addr.add
    by_cases h0 : k * 3 = 0
    · rw [if_pos h0, if_neg (by omega), h0, Nat.zero_add]
    · rw [if_neg h0, if_neg (by omega)]; simp only [Nat.add_assoc]
  refine ⟨ad, _, _, _, e, hB.1, hB.2.1, hB.2.2, (hb.cell (hbk _)).trans h1, ?_, ?_⟩
  · rw [ea 1 (by omega)]; exact (hb.cell (hbk _)).trans h2
  · rw [ea 2 (by omega)]; exact (hb.cell (hbk _)).trans h3

/-- block g holds the four clocks' slices -/
def Blk4 (w : World) (g : Nat) (f : Nat → Value) : Prop := w.heap[g]? = some (.cells #[f 0, f 1, f 2, f 3] 22 (0, 0))
theorem Blk4.cell {w : World} {g : Nat} {f : Nat → Value} (h : Blk4 w g f) {T : Nat} (hT : T < 4) : w.cell? ⟨g, T, none⟩ = some (f T) := by
  rw [cell_of_row w g T _ _ (0, 0) h]
  match T, hT with
  | 0, _ => rfl
  | 1, _ => rfl
  | 2, _ => rfl
  | 3, _ => rfl
theorem Blk4.frozen {w : World} {g : Nat} {f : Nat → Value} (h : Blk4 w g f) (T : Nat) : w.frozen? ⟨g, T, none⟩ = false := frozen_of_row w g T _ _ h
theorem Blk4.lt {w : World} {g : Nat} {f : Nat → Value} (h : Blk4 w g f) : g < w.heap.size := (Array.getElem?_eq_some_iff.1 h).1
theorem Blk4.below {w w' : World} {g B : Nat} {f : Nat → Value} (h : Blk4 w g f) (hb : Below B w w') (hg : g < B) : Blk4 w' g f := (hb.block g hg).trans h
theorem Blk4.alloc {w : World} {g : Nat} {f : Nat → Value} (h : Blk4 w g f) (o : Obj) : Blk4 (w.alloc o) g f := (Below.heap_alloc w o g h.lt).trans h
theorem Blk4.far {w : World} {g b i : Nat} {f : Nat → Value} (h : Blk4 w g f) (hp : g ≠ b) (u : Value) : Blk4 (w.setCell ⟨b, i, none⟩ u) g f := (Below.heap_setCell w _ u g hp).trans h
theorem Blk4.put5 {w : World} {g b : Nat} {f : Nat → Value} (h : Blk4 w g f) (hp : g ≠ b) (a0 a1 a2 a3 a4 : Value) : Blk4 (put5 w b a0 a1 a2 a3 a4) g f := (put5_heap w b g _ _ _ _ _ hp).trans h
theorem Blk4.set_ {w : World} {g : Nat} {f : Nat → Value} (h : Blk4 w g f) {T : Nat} (hT : T < 4) (u : Value) : Blk4 (w.setCell ⟨g, T, none⟩ u) g (fun i => if i = T then u else f i) := by
  unfold Blk4 at h ⊢
  match T, hT with
  | 0, _ => simp [World.setCell, Array.getElem?_modify, h]
  | 1, _ => simp [World.setCell, Array.getElem?_modify, h]
  | 2, _ => simp [World.setCell, Array.getElem?_modify, h]
  | 3, _ => simp [World.setCell, Array.getElem?_modify, h]
theorem Blk5.put5f {w : World} {g b : Nat} {c0 c1 c2 c3 c4 : Value} (h : Blk5 w g c0 c1 c2 c3 c4) (hp : g ≠ b) (a0 a1 a2 a3 a4 : Value) : Blk5 (put5 w b a0 a1 a2 a3 a4) g c0 c1 c2 c3 c4 := (put5_heap w b g _ _ _ _ _ hp).trans h

theorem below_frozen {w w' : World} (hb : Below w.heap.size w w') {p : Addr} {v : Value} (h : w.cell? p = some v) (hf : w.frozen? p = false) : w'.frozen? p = false := (hb.frozen (World.block_lt_of_cell? _ _ h)).trans hf
/-- from block B0 on, w' is as w was -/
def Over (B0 : Nat) (w w' : World) : Prop := w.heap.size ≤ w'.heap.size ∧ ∀ k, B0 ≤ k → k < w.heap.size → w'.heap[k]? = w.heap[k]?
theorem Over.setCell {B0 : Nat} {w : World} {b i : Nat} (hb : b < B0) (u : Value) : Over B0 w (w.setCell ⟨b, i, none⟩ u) :=
  ⟨by simp [World.setCell], fun k hk _ => Below.heap_setCell w _ u k (show k ≠ b by omega)⟩
theorem Over.put5 {B0 : Nat} {w : World} {b : Nat} (hb : b < B0) (a0 a1 a2 a3 a4 : Value) : Over B0 w (put5 w b a0 a1 a2 a3 a4) :=
  ⟨by rw [put5_size]; omega, fun k hk _ => put5_heap w b k _ _ _ _ _ (by omega)⟩
theorem Over.below {B0 : Nat} {w w' : World} (hb : Below w.heap.size w w') : Over B0 w w' := ⟨hb.size, fun k _ hk => hb.block k hk⟩
/-- the slice reads, and lies from block B0 on -/
def RdO (B0 : Nat) (w : World) (A : Option Addr) (n c : Nat) (xs : List Int) : Prop := RdI w A n c xs ∧ ∀ ad, A = some ad → 0 < n → B0 ≤ ad.block
theorem RdO.over {B0 : Nat} {w w' : World} {A : Option Addr} {n c : Nat} {xs : List Int} (h : RdO B0 w A n c xs) (ho : Over B0 w w') : RdO B0 w' A n c xs := by
  refine ⟨⟨h.1.1, h.1.2.1, h.1.2.2.1, h.1.2.2.2.1, fun hn => ?_, h.1.2.2.2.2.2⟩, h.2⟩
  obtain ⟨ad, e, hb, hc⟩ := h.1.2.2.2.2.1 hn
  refine ⟨ad, e, by have := ho.1; omega, fun j hj => ?_⟩
  have hbk : (ad.add j).block = ad.block := by unfold Addr.add; split <;> rfl
  rw [World.cell?_of_block (w := w) (by rw [hbk]; exact ho.2 _ (h.2 ad e hn) hb)]
  exact hc j hj
theorem RdO.nil_ (B0 : Nat) (w : World) : RdO B0 w none 0 0 [] := ⟨RdI.nil_ w, fun _ h => by cases h⟩
theorem RdO.of_own {w : World} {B0 base e : Nat} {v : Value} {n : Nat} {xs : List Int} (h : w.ownsRow base e 1 v n (ints xs)) (hi : InI xs) (hb : B0 ≤ base) : ∃ A c, v = .slice A n c ∧ RdO B0 w A n c xs := by
  obtain ⟨A, c, hv, hr⟩ := RdI.of_own h hi
  refine ⟨A, c, hv, hr, fun ad ha _ => ?_⟩
  have := (h.lt ad.block (by rw [hv, ha]; rfl)).1
  omega

/-- the four clocks read as lists of at most four entries -/
def Clks (B0 : Nat) (w : World) (f : Nat → Value) (cl : Nat → List Int) : Prop := ∀ i, i < 4 → ∃ A c, f i = .slice A (cl i).length c ∧ RdO B0 w A (cl i).length c (cl i) ∧ (cl i).length ≤ 4
theorem Clks.over {B0 : Nat} {w w' : World} {f : Nat → Value} {cl : Nat → List Int} (h : Clks B0 w f cl) (ho : Over B0 w w') : Clks B0 w' f cl := fun i hi => by
  obtain ⟨A, c, h1, h2, h3⟩ := h i hi
  exact ⟨A, c, h1, h2.over ho, h3⟩
theorem Clks.set_ {B0 : Nat} {w : World} {f : Nat → Value} {cl : Nat → List Int} (h : Clks B0 w f cl) (T : Nat) {A : Option Addr} {n c : Nat} {l : List Int} (hn : n = l.length) (hr : RdO B0 w A n c l) (hl : l.length ≤ 4) : Clks B0 w (fun i => if i = T then .slice A n c else f i) (fun i => if i = T then l else cl i) := fun i hi => by
  subst hn
  by_cases e : i = T
  · simp only [if_pos e]; exact ⟨A, c, rfl, hr, hl⟩
  · simp only [if_neg e]; exact h i hi

theorem made44 (w : World) : (Instr.makeSlice 52 (.int .i64 4) (.int .i64 4)).run Try.prog w = .ok (.slice (some ⟨w.heap.size, 0, none⟩) 4 4) (w.alloc (.cells #[.slice none 0 0, .slice none 0 0, .slice none 0 0, .slice none 0 0] 22)) := by kernel_rfl

/-- the clocks at block g -/
structure St (w : World) (g : Nat) (f : Nat → Value) (cl : Nat → List Int) : Prop where
  ck : Blk4 w g f
  cs : Clks (g + 3) w f cl
theorem St.below {w w' : World} {g : Nat} {f : Nat → Value} {cl : Nat → List Int} (h : St w g f cl) (hb : Below w.heap.size w w') : St w' g f cl := ⟨h.ck.below hb h.ck.lt, h.cs.over (Over.below hb)⟩
theorem St.putFar {w : World} {g b : Nat} {f : Nat → Value} {cl : Nat → List Int} (h : St w g f cl) (hp : g < b) (hb : b < g + 3) (a0 a1 a2 a3 a4 : Value) : St (put5 w b a0 a1 a2 a3 a4) g f cl := ⟨h.ck.put5 (by omega) _ _ _ _ _, h.cs.over (Over.put5 hb _ _ _ _ _)⟩
theorem St.set_ {w : World} {g : Nat} {f : Nat → Value} {cl : Nat → List Int} (h : St w g f cl) {T : Nat} (hT : T < 4) {A : Option Addr} {n c : Nat} {l : List Int} (hn : n = l.length) (hr : RdO (g + 3) w A n c l) (hl : l.length ≤ 4) :
    St (w.setCell ⟨g, T, none⟩ (.slice A n c)) g (fun i => if i = T then .slice A n c else f i) (fun i => if i = T then l else cl i) :=
  ⟨h.ck.set_ hT _, (h.cs.set_ T hn hr hl).over (Over.setCell (by omega) _)⟩
/-- a shadow at block b -/
def ShOk (B0 : Nat) (w : World) (b : Nat) (wt wh rt rh : Int) (A : Option Addr) (n c : Nat) (rs : List Int) : Prop :=
  Blk5 w b (.int .i64 wt) (.int .i64 wh) (.int .i64 rt) (.int .i64 rh) (.slice A n c) ∧ RdO B0 w A n c rs ∧ (0 ≤ wh ∧ wh < 4 ∧ 0 ≤ rh ∧ rh < 4) ∧ (-9223372036854775808 ≤ rt ∧ rt ≤ 9223372036854775807) ∧ rs.length ≤ 64
theorem ShOk.below {B0 b : Nat} {w w' : World} {wt wh rt rh : Int} {A : Option Addr} {n c : Nat} {rs : List Int} (h : ShOk B0 w b wt wh rt rh A n c rs) (hb : Below w.heap.size w w') : ShOk B0 w' b wt wh rt rh A n c rs :=
  ⟨h.1.below hb h.1.lt, h.2.1.over (Over.below hb), h.2.2⟩
theorem ShOk.setCell {B0 b g T : Nat} {w : World} {wt wh rt rh : Int} {A : Option Addr} {n c : Nat} {rs : List Int} (h : ShOk B0 w b wt wh rt rh A n c rs) (hg : g < B0) (hne : b ≠ g) (u : Value) : ShOk B0 (w.setCell ⟨g, T, none⟩ u) b wt wh rt rh A n c rs :=
  ⟨h.1.far2 hne _, h.2.1.over (Over.setCell hg _), h.2.2⟩
theorem ShOk.putFar {B0 b g : Nat} {w : World} {wt wh rt rh : Int} {A : Option Addr} {n c : Nat} {rs : List Int} (h : ShOk B0 w b wt wh rt rh A n c rs) (hg : g < B0) (hne : b ≠ g) (a0 a1 a2 a3 a4 : Value) : ShOk B0 (put5 w g a0 a1 a2 a3 a4) b wt wh rt rh A n c rs :=
  ⟨h.1.put5f hne _ _ _ _ _, h.2.1.over (Over.put5 hg _ _ _ _ _), h.2.2⟩
theorem ShOk.new_ {B0 b : Nat} {w : World} {c0 c1 c2 c3 c4 : Value} (h : Blk5 w b c0 c1 c2 c3 c4) (hb : b < B0) {wt wh rt rh : Int} {A : Option Addr} {n c : Nat} {rs : List Int} (hr : RdO B0 w A n c rs) (h0 : 0 ≤ wh ∧ wh < 4 ∧ 0 ≤ rh ∧ rh < 4) (h1 : -9223372036854775808 ≤ rt ∧ rt ≤ 9223372036854775807) (hl : rs.length ≤ 64) :
    ShOk B0 (put5 w b (.int .i64 wt) (.int .i64 wh) (.int .i64 rt) (.int .i64 rh) (.slice A n c)) b wt wh rt rh A n c rs :=
  ⟨put5_blk h _ _ _ _ _, hr.over (Over.put5 hb _ _ _ _ _), h0, h1, hl⟩

end Go.Proofs.Ytngfjoifkolaiaa
