/-
  The statement ClockTicks returns true for every input: the walk. No condition.
-/
import Derived.Test.YtngfjoifkolaiaaLawClockJoins
namespace Go.Proofs.Ytngfjoifkolaiaa
open Go.RowKit

set_option maxHeartbeats 4000000 in
theorem ClockTicks_in (A : Option Addr) (n c : Nat) (xs : List Int) (t : Int) (w : World) (h : RdI w A n c xs) (hl : ¬ 60 < n) (ht0 : -9223372036854775808 ≤ t) (ht1 : t ≤ 9223372036854775807) :
    Calls Try.prog 11 #[.slice A n c, .int .i64 t] w fun e w' => e = .returned (.bool true) ∧ Below w.heap.size w w' := by
  have H := Lib.hid h
  clear h
  have hus : InI [t, -1, 0, 1, 3, 4] := by
    intro x hx
    simp only [List.mem_cons, List.not_mem_nil, or_false] at hx
    omega
  have L0 := Lib.hid (RdI.lit w 3 [t, -1, 0, 1, 3, 4] hus (by simp))
  clear hus
  go_enter Try.func11, Try.ntmps11
  go_wp2_with fail
  refine (long_no A n c w hl).mono ?_
  rintro e w' ⟨rfl, rfl⟩
  go_wp2
  go_loopw [16] (fun i wr => ∃ k : Nat, k ≤ 6 ∧ i = .int .i64 k ∧ Below (w.heap.size + 1) (w.alloc (.cells (ints [t, -1, 0, 1, 3, 4]).toArray 3)) wr) (fun i _ => 6 - (intOf i).toNat)
  case atStart => exact ⟨0, by omega, rfl, Below.refl _ _⟩
  case round =>
    obtain ⟨k, hk, rfl, hB⟩ := hrel
    have hBw : Below w.heap.size w wr := ((Below.refl _ _).alloc (Nat.le_refl _) _).trans (hB.mono (by omega))
    have hsz : w.heap.size + 1 ≤ wr.heap.size := by have := hB.size; simpa using this
    by_cases hk6 : k < 6
    · obtain ⟨u, hu⟩ : ∃ u, u = [t, -1, 0, 1, 3, 4].getD k 0 := ⟨_, rfl⟩
      have hcu : wr.cell? ⟨w.heap.size, k, none⟩ = some (.int .i64 u) := by
        obtain ⟨ad, e1, _, e3⟩ := L0.out.cellAt (k := k) (by simpa using hk6)
        injection e1 with e1
        subst e1
        rw [add_zero_addr] at e3
        rw [hB.cell (p := ⟨w.heap.size, k, none⟩) (by simp), e3, hu]
      clear hu
      obtain ⟨wo, hwo⟩ : ∃ wo : World, wo = wr := ⟨_, rfl⟩
      subst hwo
      obtain ⟨M, hM⟩ : ∃ M, M = (tickC xs u).length := ⟨_, rfl⟩
      have hM64 : M ≤ 64 := by rw [hM]; exact tick_len_le (by rw [H.out.1]; omega) (by omega)
      have HM := Lib.hid hM
      clear hM
      go_wp2_with fail
      refine (spare_any A n c xs wo (H.out.below hBw) (by omega)).mono ?_
      rintro e w1 ⟨rfl, s1, hb1⟩
      have S1 := Lib.hid s1
      have hg1 := s1.lt
      have hB1 := btr hBw hb1
      clear s1
      go_wp2_with fail
      refine (Tick_any _ n (n + 2) xs u w1 (S1.out.rd H.out.inI) (by omega)).mono ?_
      rintro e w2 ⟨v2, rfl, o2, hb2⟩
      rw [← HM.out] at o2
      obtain ⟨J, cj, hv2, _⟩ := RdI.of_own o2 (tickC_in H.out.inI u)
      subst hv2
      have O2 := Lib.hid o2
      have S2 := Lib.hid (S1.out.below hb2)
      have hB2 := btr hB1 hb2
      have hz12 : w1.heap.size ≤ w2.heap.size := hb2.size
      clear o2
      go_wp2_with fail
      refine (rTick_any A n c xs u w2 (H.out.below hB2) (by omega)).mono ?_
      rintro e w3 ⟨v3, rfl, o3, hb3⟩
      rw [← HM.out] at o3
      obtain ⟨J3, cj3, hv3, r3⟩ := RdI.of_own o3 (tickC_in H.out.inI u)
      subst hv3
      have R3 := Lib.hid r3
      have O3 : Hid (w3.ownsRow w1.heap.size 3 1 (.slice J M cj) M (ints (tickC xs u))) :=
        O2.out.kept (row := none) ⟨hb3.os, hb3.tape, hb3.output, hb3.size, fun k hk _ => hb3.block k hk⟩ (by cases hv : (Value.slice J M cj).ownBlock <;> simp)
      have S3 := Lib.hid (S2.out.below hb3)
      have hB3 := btr hB2 hb3
      have hz23 : w2.heap.size ≤ w3.heap.size := hb3.size
      clear o3 r3
      obtain ⟨_, _, hv, rO3⟩ := RdI.of_own O3.out (tickC_in H.out.inI u)
      injection hv with e1 _ e3
      subst e1 e3
      have RO3 := Lib.hid rO3
      clear rO3
      go_wp2_with fail
      refine (EqualB_any J M cj (tickC xs u) J3 M cj3 (tickC xs u) w3 RO3.out R3.out).mono ?_
      rintro e w4 ⟨rfl, hb4⟩
      rw [show eqL (tickC xs u) (tickC xs u) = true from by simp [eqL]]
      have S4 := Lib.hid (S3.out.below hb4)
      have hB4 := btr hB3 hb4
      have hz34 : w3.heap.size ≤ w4.heap.size := hb4.size
      go_wp2_with fail
      refine (kept_yes _ _ A n c xs w4 (H.out.below hB4) S4.out (by omega)).mono ?_
      rintro e w5 ⟨rfl, hb5⟩
      have S5 := Lib.hid (S4.out.below hb5)
      have hB5 := btr hB4 hb5
      have hz45 : w4.heap.size ≤ w5.heap.size := hb5.size
      have hBt : Hid (Below wo.heap.size wo w5) := btr (btr (btr (btr hb1 hb2) hb3) hb4) hb5
      have O5 : Hid (w5.ownsRow w1.heap.size 3 1 (.slice J M cj) M (ints (tickC xs u))) :=
        (O3.out.kept (row := none) ⟨hb4.os, hb4.tape, hb4.output, hb4.size, fun k hk _ => hb4.block k hk⟩ (by cases hv : (Value.slice J M cj).ownBlock <;> simp)).kept (row := none) ⟨hb5.os, hb5.tape, hb5.output, hb5.size, fun k hk _ => hb5.block k hk⟩ (by cases hv : (Value.slice J M cj).ownBlock <;> simp)
      clear hb1 hb2 hb3 hb4 hb5
      go_wp2
      go_loopw [39] (fun i wr => ∃ j : Nat, j ≤ M ∧ i = .int .i64 j ∧ Hid (∃ zs, wr.ownsRow w1.heap.size 3 1 (.slice J M cj) M (ints zs)) ∧ Below w1.heap.size w5 wr) (fun i _ => M - (intOf i).toNat)
      case atStart => exact ⟨0, by omega, rfl, ⟨_, O5.out⟩, Below.refl _ _⟩
      case round =>
        obtain ⟨j, hj, rfl, hO, hBi⟩ := hrel
        by_cases hjM : j < M
        · obtain ⟨zs, hzs⟩ := hO.out
          obtain ⟨g, hJ, hgb, hgs⟩ := own_form hzs (by omega)
          subst hJ
          have hzl : (ints zs).length = M := by have := hzs.1; omega
          have hcell : ∃ x, wr.cell? ⟨g, j, none⟩ = some x := by rw [hzs.cellAt j (by omega)]; exact ⟨_, List.getElem?_eq_getElem (by omega)⟩
          obtain ⟨x, hx⟩ := hcell
          have hfr := hzs.frozenAt j
          have Z := Lib.hid hzs
          clear hzs hO hzl
          go_wp2
          go_roundw
          case rel => exact ⟨j + 1, by omega, by go_num, ⟨_, by have := (Z.out.stored j (.int .i64 (-5))).1; rw [ints_set] at this; exact this⟩, hBi.setCell hgb _⟩
          case measure => simp [intOf]; omega
        · have S6 := Lib.hid (S5.out.keepB hBi (by omega))
          have hB6 : Below w.heap.size w wr := hB5.trans (hBi.mono (by have := hBw.size; omega))
          have hB7 : Hid (Below (w.heap.size + 1) (w.alloc (.cells (ints [t, -1, 0, 1, 3, 4]).toArray 3)) wr) :=
            hB.trans (((hBt.out).mono hsz).trans (hBi.mono (by have := hg1.1; omega)))
          clear hO hBi
          go_wp2_with fail
          refine (kept_yes _ _ A n c xs wr (H.out.below hB6) S6.out (by omega)).mono ?_
          rintro e w7 ⟨rfl, hb7⟩
          have hB8 : Hid (Below (w.heap.size + 1) (w.alloc (.cells (ints [t, -1, 0, 1, 3, 4]).toArray 3)) w7) := hB7.out.trans (hb7.mono (by have := hB7.out.size; simpa using this))
          clear hB7 hb7
          go_wp2
          go_roundw
          case rel => exact ⟨k + 1, by omega, by go_num, hB8.out⟩
          case measure => simp [intOf]; omega
    · go_wp2_with fail
      refine (awake22_any _).mono ?_
      rintro e w9 ⟨rfl, hb9⟩
      go_wp2
      go_ret
      exact ⟨rfl, btr hBw hb9⟩

set_option maxHeartbeats 2000000 in
theorem ClockTicks_walk (A : Option Addr) (n c : Nat) (xs : List Int) (t : Int) (w : World) (h : RdI w A n c xs) (ht0 : -9223372036854775808 ≤ t) (ht1 : t ≤ 9223372036854775807) :
    Calls Try.prog 11 #[.slice A n c, .int .i64 t] w fun e w' => e = .returned (.bool true) ∧ Below w.heap.size w w' := by
  have hn := h.le
  have H := Lib.hid h; clear h
  by_cases hl0 : 60 < n
  · go_enter Try.func11, Try.ntmps11
    go_wp2_with fail
    refine (long_yes A n c w hl0).mono ?_
    rintro e w' ⟨rfl, rfl⟩
    go_wp2_with fail
    refine (awake22_any _).mono ?_
    rintro e wz ⟨rfl, hbz⟩
    go_wp2
    go_ret
    exact ⟨rfl, hbz⟩
  · exact ClockTicks_in A n c xs t w H.out hl0 ht0 ht1

end Go.Proofs.Ytngfjoifkolaiaa
