/-
  Plain functions on clocks as lists of integers, and what it means that a slice value reads as such a list in a world. No condition.
-/
import Derived.WalkKit
import Derived.Lib.Hide
import Derived.Deep.QuietTactic
namespace Go.Proofs.Ytngfjoifkolaiaa
open Go.RowKit

/-- The slice value 'slice A n c' reads in w as the integers xs. -/
def RdI (w : World) (A : Option Addr) (n c : Nat) (xs : List Int) : Prop :=
  xs.length = n ∧ n ≤ c ∧ c ≤ maxLen ∧ (∀ x ∈ xs, -9223372036854775808 ≤ x ∧ x ≤ 9223372036854775807) ∧
  (0 < n → ∃ ad, A = some ad ∧ ad.block < w.heap.size ∧ ∀ j, j < n → w.cell? (ad.add j) = some (.int .i64 (xs.getD j 0))) ∧ (A = none → c = 0)

def ints (xs : List Int) : List Value := xs.map (Value.int .i64)
theorem ints_length (xs : List Int) : (ints xs).length = xs.length := by simp [ints]
theorem ints_get (xs : List Int) (j : Nat) : (ints xs)[j]? = xs[j]?.map (Value.int .i64) := by simp [ints]
theorem ints_append (xs ys : List Int) : ints (xs ++ ys) = ints xs ++ ints ys := by simp [ints]
theorem ints_set (xs : List Int) (j : Nat) (x : Int) : (ints xs).set j (.int .i64 x) = ints (xs.set j x) := by simp [ints, List.map_set]
theorem ints_replicate (n : Nat) (x : Int) : ints (List.replicate n x) = List.replicate n (.int .i64 x) := by simp [ints]

def InI (xs : List Int) : Prop := ∀ x ∈ xs, -9223372036854775808 ≤ x ∧ x ≤ 9223372036854775807

theorem RdI.len {w : World} {A : Option Addr} {n c : Nat} {xs : List Int} (h : RdI w A n c xs) : xs.length = n := h.1
theorem RdI.le {w : World} {A : Option Addr} {n c : Nat} {xs : List Int} (h : RdI w A n c xs) : n ≤ 9223372036854775807 := by
  have h1 := h.2.1; have h2 := h.2.2.1; unfold maxLen at h2; omega
theorem RdI.inI {w : World} {A : Option Addr} {n c : Nat} {xs : List Int} (h : RdI w A n c xs) : InI xs := h.2.2.2.1
theorem RdI.nil_ (w : World) : RdI w none 0 0 [] := ⟨rfl, Nat.le_refl _, by unfold maxLen; omega, by simp, fun h => absurd h (by omega), fun _ => rfl⟩
theorem RdI.keep {w w' : World} {A : Option Addr} {n c : Nat} {xs : List Int} (h : RdI w A n c xs) (hs : w.heap.size ≤ w'.heap.size)
    (hk : ∀ p : Addr, p.block < w.heap.size → w'.cell? p = w.cell? p) : RdI w' A n c xs :=
  ⟨h.1, h.2.1, h.2.2.1, h.2.2.2.1, fun hn => by
    obtain ⟨ad, e, hb, hc⟩ := h.2.2.2.2.1 hn
    exact ⟨ad, e, by omega, fun j hj => (hk _ (by unfold Addr.add; split <;> exact hb)).trans (hc j hj)⟩, h.2.2.2.2.2⟩
theorem RdI.below {w w' : World} {A : Option Addr} {n c : Nat} {xs : List Int} (h : RdI w A n c xs) (hb : Below w.heap.size w w') : RdI w' A n c xs :=
  h.keep hb.size fun _ hp => hb.cell hp
theorem RdI.alloc {w : World} {A : Option Addr} {n c : Nat} {xs : List Int} (h : RdI w A n c xs) (o : Obj) : RdI (w.alloc o) A n c xs :=
  h.below ((Below.refl _ _).alloc (Nat.le_refl _) o)
theorem RdI.drewN {w : World} {A : Option Addr} {n c : Nat} {xs : List Int} (h : RdI w A n c xs) (q : Nat) : RdI (w.drewN q) A n c xs := h
theorem RdI.cellAt {w : World} {A : Option Addr} {n c : Nat} {xs : List Int} (h : RdI w A n c xs) {k : Nat} (hk : k < n) :
    ∃ ad, A = some ad ∧ ad.block < w.heap.size ∧ w.cell? (ad.add k) = some (.int .i64 (xs.getD k 0)) := by
  obtain ⟨ad, e, hb, hc⟩ := h.2.2.2.2.1 (by omega)
  exact ⟨ad, e, hb, hc k hk⟩

theorem RdI.src {w : World} {A : Option Addr} {n c : Nat} {xs : List Int} (h : RdI w A n c xs) (hp : 0 < (ints xs).length) :
    ∃ ad, A = some ad ∧ ∀ j v, (ints xs)[j]? = some v → w.cell? (ad.add j) = some v := by
  rw [ints_length, h.1] at hp
  obtain ⟨ad, e, _, hc⟩ := h.2.2.2.2.1 hp
  refine ⟨ad, e, fun j v hv => ?_⟩
  rw [ints_get] at hv
  rcases Nat.lt_or_ge j xs.length with hj | hj
  · rw [List.getElem?_eq_getElem hj] at hv
    simp only [Option.map_some, Option.some.injEq] at hv
    rw [hc j (by have := h.1; omega), ← hv]
    simp [List.getElem?_eq_getElem hj]
  · rw [List.getElem?_eq_none hj] at hv; cases hv
theorem ints_one (xs : List Int) : ∀ u ∈ ints xs, u.oneCell' = true := ints_oneCell .i64 xs

theorem add_zero_addr (g j : Nat) : (⟨g, 0, none⟩ : Addr).add j = ⟨g, j, none⟩ := by unfold Addr.add; split <;> simp_all

/-- What is owned reads. -/
theorem RdI.of_own {w : World} {base e : Nat} {v : Value} {n : Nat} {xs : List Int} (h : w.ownsRow base e 1 v n (ints xs)) (hi : InI xs) :
    ∃ A c, v = .slice A n c ∧ RdI w A n c xs := by
  have hl : xs.length = n := by have := h.1; simpa [ints] using this
  rcases h.2 with ⟨rfl, rfl⟩ | ⟨g, cap, cur, rfl, hb, hg, hnc, hcm, hcs, htake⟩
  · exact ⟨_, _, rfl, by
      have : xs = [] := List.eq_nil_of_length_eq_zero hl
      subst this; exact RdI.nil_ w⟩
  · refine ⟨_, _, rfl, hl, hnc, hcm, hi, fun hn => ⟨_, rfl, (Array.getElem?_eq_some_iff.1 hg).1, fun j hj => ?_⟩, fun h => by cases h⟩
    refine h.cells (g := g) rfl j _ ?_
    rw [ints_get, List.getElem?_eq_getElem (by omega)]
    simp [List.getElem?_eq_getElem (show j < xs.length by omega)]

/-- A slice literal, just laid. -/
theorem RdI.lit (w : World) (e : TypeId) (xs : List Int) (hi : InI xs) (hl : xs.length ≤ 65536) : RdI (w.alloc (.cells (ints xs).toArray e)) (some ⟨w.heap.size, 0, none⟩) xs.length xs.length xs := by
  refine ⟨rfl, Nat.le_refl _, by unfold maxLen; omega, hi, fun _ => ⟨_, rfl, by simp, fun j hj => ?_⟩, fun h => by cases h⟩
  rw [add_zero_addr, World.cell?_alloc_at _ _ _ _ rfl]
  simp only [List.getElem?_toArray, ints_get]
  rw [List.getElem?_eq_getElem hj]
  simp [List.getElem?_eq_getElem hj]
theorem RdI.litAt (w : World) (e : TypeId) (xs : List Int) (g : Nat) (hg : g = w.heap.size) (hi : InI xs) (hl : xs.length ≤ 65536) : RdI (w.alloc (.cells (ints xs).toArray e)) (some ⟨g, 0, none⟩) xs.length xs.length xs := by
  subst hg; exact RdI.lit w e xs hi hl
/-- An owned row of at least one element begins a block. -/
theorem own_form {w : World} {base : Nat} {e : TypeId} {n c : Nat} {A : Option Addr} {xs : List Value} (h : w.ownsRow base e 1 (.slice A n c) n xs) (hn : 0 < n) :
    ∃ g, A = some ⟨g, 0, none⟩ ∧ base ≤ g ∧ g < w.heap.size := by
  rcases h.2 with ⟨_, h0⟩ | ⟨g, cap, cur, h1, hb, hg, _⟩
  · omega
  · injection h1 with h1 _ _
    exact ⟨g, h1, hb, (Array.getElem?_eq_some_iff.1 hg).1⟩

def atC (xs : List Int) (t : Int) : Int := if t < 0 then 0 else xs.getD t.toNat 0
def leqTo (xs ys : List Int) (k : Nat) : Bool := (List.range k).all fun i => decide (atC xs i ≤ atC ys i)
def leqC (xs ys : List Int) : Bool := leqTo xs ys (max xs.length ys.length)
theorem leqTo_step (xs ys : List Int) (k : Nat) : leqTo xs ys (k + 1) = (leqTo xs ys k && decide (atC xs k ≤ atC ys k)) := by
  unfold leqTo; rw [List.range_succ, List.all_append]; simp
theorem leqTo_false (xs ys : List Int) (k m : Nat) (h : leqTo xs ys k = false) (hm : k ≤ m) : leqTo xs ys m = false := by
  induction m with
  | zero =>
    have : k = 0 := by omega
    subst this; exact h
  | succ m ih =>
    rcases Nat.lt_or_ge k (m + 1) with h1 | h1
    · rw [leqTo_step, ih (by omega)]; rfl
    · have : k = m + 1 := by omega
      subst this; exact h
theorem leqC_of_gt {xs ys : List Int} {k : Nat} (h : atC ys k < atC xs k) (hk : k < max xs.length ys.length) : leqC xs ys = false := by
  refine leqTo_false xs ys (k + 1) _ ?_ (by omega)
  rw [leqTo_step]; simp; intro _; omega

def joinTo (xs ys : List Int) (k : Nat) : List Int := (List.range k).map fun (i : Nat) => max (atC xs i) (atC ys i)
def joinC (xs ys : List Int) : List Int := joinTo xs ys (max xs.length ys.length)
theorem joinTo_length (xs ys : List Int) (k : Nat) : (joinTo xs ys k).length = k := by simp [joinTo]
theorem joinTo_step (xs ys : List Int) (k : Nat) : joinTo xs ys (k + 1) = joinTo xs ys k ++ [max (atC xs k) (atC ys k)] := by
  simp [joinTo, List.range_succ]
theorem joinC_length (xs ys : List Int) : (joinC xs ys).length = max xs.length ys.length := joinTo_length _ _ _
theorem atC_in {xs : List Int} (h : InI xs) (t : Int) : -9223372036854775808 ≤ atC xs t ∧ atC xs t ≤ 9223372036854775807 := by
  unfold atC
  split
  · omega
  · rcases Nat.lt_or_ge t.toNat xs.length with hl | hl
    · rw [List.getD_eq_getElem?_getD, List.getElem?_eq_getElem hl]; exact h _ (List.getElem_mem hl)
    · rw [List.getD_eq_getElem?_getD, List.getElem?_eq_none hl]; simp
theorem joinTo_in {xs ys : List Int} (hx : InI xs) (hy : InI ys) (k : Nat) : InI (joinTo xs ys k) := by
  intro x hm
  simp only [joinTo, List.mem_map] at hm
  obtain ⟨i, _, rfl⟩ := hm
  have := atC_in hx i; have := atC_in hy i; omega
theorem joinC_in {xs ys : List Int} (hx : InI xs) (hy : InI ys) : InI (joinC xs ys) := joinTo_in hx hy _
/-- the join's array while it is being filled -/
theorem set_fill (l : List Int) (n : Nat) (x : Int) (hl : l.length < n) :
    (l ++ List.replicate (n - l.length) 0).set l.length x = (l ++ [x]) ++ List.replicate (n - (l.length + 1)) 0 := by
  rw [List.set_append_right _ _ (Nat.le_refl _), Nat.sub_self]
  obtain ⟨m, hm⟩ : ∃ m, n - l.length = m + 1 := ⟨n - l.length - 1, by omega⟩
  rw [hm, List.replicate_succ, List.set_cons_zero, show n - (l.length + 1) = m from by omega]
  simp

def coversC (xs : List Int) (time thread : Int) : Bool := decide (time ≤ atC xs thread)

theorem imax_if (a b : Int) : max a b = if a < b then b else a := by split <;> omega

theorem ret_int {k : IntKind} {a b : Int} (h : a = b) : Ending.returned (.int k a) = .returned (.int k b) := by rw [h]
theorem ret_bool {a b : Bool} (h : a = b) : Ending.returned (.bool a) = .returned (.bool b) := by rw [h]

theorem bal {w w1 : World} (h : Below w.heap.size w w1) (o : Obj) : Below w.heap.size w (w1.alloc o) := h.alloc h.size o
theorem btr {w w1 w2 : World} (h : Below w.heap.size w w1) (k : Below w1.heap.size w1 w2) : Below w.heap.size w w2 := h.trans (k.mono h.size)
theorem bdr {w w1 : World} (h : Below w.heap.size w w1) (q : Nat) : Below w.heap.size w (w1.drewN q) := ⟨h.os, h.tape, h.output, h.size, h.block⟩

def lenOfV : Value → Nat | .slice _ n _ => n | _ => 0

end Go.Proofs.Ytngfjoifkolaiaa
