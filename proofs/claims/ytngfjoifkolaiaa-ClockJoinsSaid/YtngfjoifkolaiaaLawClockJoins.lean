/-
  The statement ClockJoins returns true for every input: the walk. No condition.
-/
import Derived.Test.YtngfjoifkolaiaaClkSpare
namespace Go.Proofs.Ytngfjoifkolaiaa
open Go.RowKit

theorem SpareAt.keepB {w w' : World} {base g n B : Nat} {xs : List Int} (h : SpareAt w base g n xs) (hb : Below B w w') (hg : g < B) : SpareAt w' base g n xs := by
  refine ⟨h.1, ?_⟩
  rcases h.2 with ⟨h1, _⟩ | ⟨g', cap, cur, h1, h2, h3, h4⟩
  · simp at h1
  · have hgg : g' = g := by simp only [Value.slice.injEq, Option.some.injEq, Addr.mk.injEq, and_true] at h1; exact h1.1.symm
    subst hgg
    exact .inr ⟨g', cap, cur, h1, h2, by rw [hb.block g' hg]; exact h3, h4⟩

set_option maxHeartbeats 4000000 in
theorem ClockJoins_in (A : Option Addr) (n c : Nat) (xs : List Int) (B : Option Addr) (m d : Nat) (ys : List Int) (w : World) (h : RdI w A n c xs) (g : RdI w B m d ys) (hl : ¬ 60 < n) (hl2 : ¬ 60 < m) :
    Calls Try.prog 4 #[.slice A n c, .slice B m d] w fun e w' => e = .returned (.bool true) ∧ Below w.heap.size w w' := by
  have H := Lib.hid h
  have G := Lib.hid g
  obtain ⟨M, hM⟩ : ∃ M, M = (joinC xs ys).length := ⟨_, rfl⟩
  have hM60 : M ≤ 60 := by rw [hM]; exact join_len_le (by rw [h.1]; omega) (by rw [g.1]; omega)
  have HM := Lib.hid hM
  clear h g hM
  go_enter Try.func4, Try.ntmps4
  go_wp2_with fail
  refine (long_no A n c w hl).mono ?_
  rintro e w' ⟨rfl, rfl⟩
  go_wp2_with fail
  refine (long_no B m d w hl2).mono ?_
  rintro e w' ⟨rfl, rfl⟩
  go_wp2_with fail
  refine (spare_any A n c xs w H.out (by omega)).mono ?_
  rintro e w1 ⟨rfl, s1, hb1⟩
  go_wp2_with fail
  refine (spare_any B m d ys w1 (G.out.below hb1) (by omega)).mono ?_
  rintro e w2 ⟨rfl, t2, hb2⟩
  have s2 := s1.below hb2
  have hB2 := btr hb1 hb2
  have hg1 := s1.lt
  have hg2 := t2.lt
  have hz12 : w1.heap.size ≤ w2.heap.size := hb2.size
  clear s1 hb2 hb1
  have S2 := Lib.hid s2
  have T2 := Lib.hid t2
  clear s2 t2
  go_wp2_with fail
  refine (Join_any _ n (n + 2) xs _ m (m + 2) ys w2 (S2.out.rd H.out.inI) (T2.out.rd G.out.inI) (by omega) (by omega)).mono ?_
  rintro e w3 ⟨v3, rfl, o3, hb3⟩
  rw [← HM.out] at o3
  obtain ⟨J, cj, hv3, _⟩ := RdI.of_own o3 (joinC_in H.out.inI G.out.inI)
  subst hv3
  have O3 := Lib.hid o3
  have hB3 := btr hB2 hb3
  have S3 := Lib.hid (S2.out.below hb3)
  have T3 := Lib.hid (T2.out.below hb3)
  have hz23 : w2.heap.size ≤ w3.heap.size := hb3.size
  clear o3 hb3
  go_wp2_with fail
  refine (rJoin_any A n c xs B m d ys w3 (H.out.below hB3) (G.out.below hB3) (by omega) (by omega)).mono ?_
  rintro e w4 ⟨v4, rfl, o4, hb4⟩
  rw [← HM.out] at o4
  obtain ⟨J4, cj4, hv4, r4⟩ := RdI.of_own o4 (joinC_in H.out.inI G.out.inI)
  subst hv4
  have R4 := Lib.hid r4
  have O4 : Hid (w4.ownsRow w2.heap.size 3 1 (.slice J M cj) M (ints (joinC xs ys))) :=
    O3.out.kept (row := none) ⟨hb4.os, hb4.tape, hb4.output, hb4.size, fun k hk _ => hb4.block k hk⟩ (by cases hv : (Value.slice J M cj).ownBlock <;> simp)
  have hB4 := btr hB3 hb4
  have S4 := Lib.hid (S3.out.below hb4)
  have T4 := Lib.hid (T3.out.below hb4)
  have hz34 : w3.heap.size ≤ w4.heap.size := hb4.size
  clear o4 r4 hb4
  obtain ⟨_, _, hv, rO4⟩ := RdI.of_own O4.out (joinC_in H.out.inI G.out.inI)
  injection hv with e1 _ e3
  subst e1 e3
  have RO4 := Lib.hid rO4
  clear rO4
  go_wp2_with fail
  refine (EqualB_any J M cj (joinC xs ys) J4 M cj4 (joinC xs ys) w4 RO4.out R4.out).mono ?_
  rintro e w5 ⟨rfl, hb5⟩
  rw [show eqL (joinC xs ys) (joinC xs ys) = true from by simp [eqL]]
  have O5 : Hid (w5.ownsRow w2.heap.size 3 1 (.slice J M cj) M (ints (joinC xs ys))) :=
    O4.out.kept (row := none) ⟨hb5.os, hb5.tape, hb5.output, hb5.size, fun k hk _ => hb5.block k hk⟩ (by cases hv : (Value.slice J M cj).ownBlock <;> simp)
  have hB5 := btr hB4 hb5
  have S5 := Lib.hid (S4.out.below hb5)
  have T5 := Lib.hid (T4.out.below hb5)
  have hz45 : w4.heap.size ≤ w5.heap.size := hb5.size
  clear hb5
  go_wp2
  go_loopw [31] (fun i wr => ∃ k : Nat, k ≤ M ∧ i = .int .i64 k ∧ Hid (∃ zs, wr.ownsRow w2.heap.size 3 1 (.slice J M cj) M (ints zs)) ∧ Below w2.heap.size w5 wr) (fun i _ => M - (intOf i).toNat)
  case atStart => exact ⟨0, by omega, rfl, ⟨_, O5.out⟩, Below.refl _ _⟩
  case round =>
    obtain ⟨k, hk, rfl, hO, hB⟩ := hrel
    by_cases hkM : k < M
    · obtain ⟨zs, hzs⟩ := hO.out
      obtain ⟨g, hJ, hgb, hgs⟩ := own_form hzs (by omega)
      subst hJ
      have hzl : (ints zs).length = M := by have := hzs.1; omega
      have hcell : ∃ u, wr.cell? ⟨g, k, none⟩ = some u := by rw [hzs.cellAt k (by omega)]; exact ⟨_, List.getElem?_eq_getElem (by omega)⟩
      obtain ⟨u, hu⟩ := hcell
      have hfr := hzs.frozenAt k
      have Z := Lib.hid hzs
      clear hzs hO hzl
      go_wp2
      go_roundw
      case rel => exact ⟨k + 1, by omega, by go_num, ⟨_, by have := (Z.out.stored k (.int .i64 (-5))).1; rw [ints_set] at this; exact this⟩, hB.setCell hgb _⟩
      case measure => simp [intOf]; omega
    · have S6 := Lib.hid (S5.out.keepB hB (by omega))
      have T6 := Lib.hid (T5.out.keepB hB (by omega))
      have hB6 : Below w.heap.size w wr := hB5.trans (hB.mono (by have := hB2.size; omega))
      clear hO hB
      go_wp2_with fail
      refine (kept_yes _ _ A n c xs wr (H.out.below hB6) S6.out (by omega)).mono ?_
      rintro e w7 ⟨rfl, hb7⟩
      have T7 := Lib.hid (T6.out.below hb7)
      go_wp2_with fail
      refine (kept_yes _ _ B m d ys w7 (G.out.below (btr hB6 hb7)) T7.out (by omega)).mono ?_
      rintro e w8 ⟨rfl, hb8⟩
      go_wp2_with fail
      refine (awake22_any _).mono ?_
      rintro e w9 ⟨rfl, hb9⟩
      go_wp2
      go_ret
      exact ⟨rfl, btr (btr (btr hB6 hb7) hb8) hb9⟩

set_option maxHeartbeats 2000000 in
theorem ClockJoins_walk (A : Option Addr) (n c : Nat) (xs : List Int) (B : Option Addr) (m d : Nat) (ys : List Int) (w : World) (h : RdI w A n c xs) (g : RdI w B m d ys) :
    Calls Try.prog 4 #[.slice A n c, .slice B m d] w fun e w' => e = .returned (.bool true) ∧ Below w.heap.size w w' := by
  have hn := h.le
  have hm := g.le
  have H := Lib.hid h; clear h
  have G := Lib.hid g; clear g
  by_cases hl0 : 60 < n
  · go_enter Try.func4, Try.ntmps4
    go_wp2_with fail
    refine (long_yes A n c w hl0).mono ?_
    rintro e w' ⟨rfl, rfl⟩
    go_wp2_with fail
    refine (awake22_any _).mono ?_
    rintro e wz ⟨rfl, hbz⟩
    go_wp2
    go_ret
    exact ⟨rfl, hbz⟩
  · by_cases hl1 : 60 < m
    · go_enter Try.func4, Try.ntmps4
      go_wp2_with fail
      refine (long_no A n c w hl0).mono ?_
      rintro e w' ⟨rfl, rfl⟩
      go_wp2_with fail
      refine (long_yes B m d w hl1).mono ?_
      rintro e w' ⟨rfl, rfl⟩
      go_wp2_with fail
      refine (awake22_any _).mono ?_
      rintro e wz ⟨rfl, hbz⟩
      go_wp2
      go_ret
      exact ⟨rfl, hbz⟩
    · exact ClockJoins_in A n c xs B m d ys w H.out G.out hl0 hl1

end Go.Proofs.Ytngfjoifkolaiaa
