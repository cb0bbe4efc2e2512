/-
  The statement ClockAlgebra returns true for every input: the walk. No condition.
-/
import Derived.Test.YtngfjoifkolaiaaClkVals
namespace Go.Proofs.Ytngfjoifkolaiaa
open Go.RowKit

set_option maxHeartbeats 4000000 in
theorem ClockAlgebra_walk (A : Option Addr) (n c : Nat) (xs : List Int) (B : Option Addr) (m d : Nat) (ys : List Int) (C : Option Addr) (l f : Nat) (zs : List Int) (w : World) (h : RdI w A n c xs) (g : RdI w B m d ys) (k : RdI w C l f zs) :
    Calls Try.prog 8 #[.slice A n c, .slice B m d, .slice C l f] w fun e w' => e = .returned (.bool true) ∧ Below w.heap.size w w' := by
  have hn := h.le
  have hm := g.le
  have hk := k.le
  have H := Lib.hid h; clear h
  have G := Lib.hid g; clear g
  have K := Lib.hid k; clear k
  by_cases hl0 : 60 < n
  · go_enter Try.func8, Try.ntmps8
    go_wp2_with fail
    refine (long_yes A n c w hl0).mono ?_
    rintro e w' ⟨rfl, rfl⟩
    go_wp2_with fail
    refine (awake22_any _).mono ?_
    rintro e wz ⟨rfl, hbz⟩
    go_wp2
    go_ret
    exact ⟨rfl, hbz⟩
  · by_cases hl1 : 60 < m
    · go_enter Try.func8, Try.ntmps8
      go_wp2_with fail
      refine (long_no A n c w hl0).mono ?_
      rintro e w' ⟨rfl, rfl⟩
      go_wp2_with fail
      refine (long_yes B m d w hl1).mono ?_
      rintro e w' ⟨rfl, rfl⟩
      go_wp2_with fail
      refine (awake22_any _).mono ?_
      rintro e wz ⟨rfl, hbz⟩
      go_wp2
      go_ret
      exact ⟨rfl, hbz⟩
    · by_cases hl2 : 60 < l
      · go_enter Try.func8, Try.ntmps8
        go_wp2_with fail
        refine (long_no A n c w hl0).mono ?_
        rintro e w' ⟨rfl, rfl⟩
        go_wp2_with fail
        refine (long_no B m d w hl1).mono ?_
        rintro e w' ⟨rfl, rfl⟩
        go_wp2_with fail
        refine (long_yes C l f w hl2).mono ?_
        rintro e w' ⟨rfl, rfl⟩
        go_wp2_with fail
        refine (awake22_any _).mono ?_
        rintro e wz ⟨rfl, hbz⟩
        go_wp2
        go_ret
        exact ⟨rfl, hbz⟩
      · have ix := H.out.inI
        have iy := G.out.inI
        have iz := K.out.inI
        have IX := Lib.hid ix
        have IY := Lib.hid iy
        have IZ := Lib.hid iz
        clear ix iy iz
        have lx : xs.length ≤ 60 := by rw [H.out.1]; omega
        have ly : ys.length ≤ 60 := by rw [G.out.1]; omega
        have lz : zs.length ≤ 60 := by rw [K.out.1]; omega
        have l1 : (joinC xs ys).length ≤ 65536 := Nat.le_trans (join_len_le lx ly) (by omega)
        have l2 : (joinC ys zs).length ≤ 65536 := Nat.le_trans (join_len_le ly lz) (by omega)
        have l3 : (joinC xs xs).length ≤ 65536 := Nat.le_trans (join_len_le lx lx) (by omega)
        have l4 : (joinC ys (joinC xs xs)).length ≤ 65536 := Nat.le_trans (join_len_le ly (join_len_le lx lx)) (by omega)
        have XY : Hid (leqC (joinC (joinC xs ys) zs) (joinC xs (joinC ys zs)) = true) := leqC_of_at fun i => by simp only [atC_join]; omega
        have YX : Hid (leqC (joinC xs (joinC ys zs)) (joinC (joinC xs ys) zs) = true) := leqC_of_at fun i => by simp only [atC_join]; omega
        have XZ : Hid (leqC (joinC (joinC xs ys) zs) (joinC zs (joinC ys (joinC xs xs))) = true) := leqC_of_at fun i => by simp only [atC_join]; omega
        have ZX : Hid (leqC (joinC zs (joinC ys (joinC xs xs))) (joinC (joinC xs ys) zs) = true) := leqC_of_at fun i => by simp only [atC_join]; omega
        clear lx ly lz
        go_enter Try.func8, Try.ntmps8
        go_wp2_with fail
        refine (long_no A n c w hl0).mono ?_
        rintro e w' ⟨rfl, rfl⟩
        go_wp2_with fail
        refine (long_no B m d w hl1).mono ?_
        rintro e w' ⟨rfl, rfl⟩
        go_wp2_with fail
        refine (long_no C l f w hl2).mono ?_
        rintro e w' ⟨rfl, rfl⟩
        go_wp2_with fail
        refine (Join_any A n c xs B m d ys w H.out G.out (by omega) (by omega)).mono ?_
        rintro e w1 ⟨v1, rfl, ho1, hb1⟩
        obtain ⟨J1, cj1, hv1, hr1⟩ := RdI.of_own ho1 (joinC_in IX.out IY.out)
        subst hv1
        have Rj1 := Lib.hid hr1
        have H1 := Lib.hid (H.out.below hb1)
        have G1 := Lib.hid (G.out.below hb1)
        have K1 := Lib.hid (K.out.below hb1)
        clear hr1 ho1
        go_wp2_with fail
        refine (Join_any J1 _ cj1 (joinC xs ys) C l f zs w1 Rj1.out K1.out l1 (by omega)).mono ?_
        rintro e w2 ⟨v2, rfl, ho2, hb2⟩
        obtain ⟨J2, cj2, hv2, hr2⟩ := RdI.of_own ho2 (joinC_in (joinC_in IX.out IY.out) IZ.out)
        subst hv2
        have Rj2 := Lib.hid hr2
        have H2 := Lib.hid (H1.out.below hb2)
        have G2 := Lib.hid (G1.out.below hb2)
        have K2 := Lib.hid (K1.out.below hb2)
        clear hr2 ho2
        go_wp2_with fail
        refine (Join_any B m d ys C l f zs w2 G2.out K2.out (by omega) (by omega)).mono ?_
        rintro e w3 ⟨v3, rfl, ho3, hb3⟩
        obtain ⟨J3, cj3, hv3, hr3⟩ := RdI.of_own ho3 (joinC_in IY.out IZ.out)
        subst hv3
        have Rj3 := Lib.hid hr3
        have H3 := Lib.hid (H2.out.below hb3)
        have G3 := Lib.hid (G2.out.below hb3)
        have K3 := Lib.hid (K2.out.below hb3)
        have X3 := Lib.hid (Rj2.out.below hb3)
        clear hr3 ho3
        go_wp2_with fail
        refine (Join_any A n c xs J3 _ cj3 (joinC ys zs) w3 H3.out Rj3.out (by omega) l2).mono ?_
        rintro e w4 ⟨v4, rfl, ho4, hb4⟩
        obtain ⟨J4, cj4, hv4, hr4⟩ := RdI.of_own ho4 (joinC_in IX.out (joinC_in IY.out IZ.out))
        subst hv4
        have Rj4 := Lib.hid hr4
        have H4 := Lib.hid (H3.out.below hb4)
        have G4 := Lib.hid (G3.out.below hb4)
        have K4 := Lib.hid (K3.out.below hb4)
        have X4 := Lib.hid (X3.out.below hb4)
        clear hr4 ho4
        go_wp2_with fail
        refine (Join_any A n c xs A n c xs w4 H4.out H4.out (by omega) (by omega)).mono ?_
        rintro e w5 ⟨v5, rfl, ho5, hb5⟩
        obtain ⟨J5, cj5, hv5, hr5⟩ := RdI.of_own ho5 (joinC_in IX.out IX.out)
        subst hv5
        have Rj5 := Lib.hid hr5
        have G5 := Lib.hid (G4.out.below hb5)
        have K5 := Lib.hid (K4.out.below hb5)
        have X5 := Lib.hid (X4.out.below hb5)
        have Y5 := Lib.hid (Rj4.out.below hb5)
        clear hr5 ho5
        go_wp2_with fail
        refine (Join_any B m d ys J5 _ cj5 (joinC xs xs) w5 G5.out Rj5.out (by omega) l3).mono ?_
        rintro e w6 ⟨v6, rfl, ho6, hb6⟩
        obtain ⟨J6, cj6, hv6, hr6⟩ := RdI.of_own ho6 (joinC_in IY.out (joinC_in IX.out IX.out))
        subst hv6
        have Rj6 := Lib.hid hr6
        have K6 := Lib.hid (K5.out.below hb6)
        have X6 := Lib.hid (X5.out.below hb6)
        have Y6 := Lib.hid (Y5.out.below hb6)
        clear hr6 ho6
        go_wp2_with fail
        refine (Join_any C l f zs J6 _ cj6 (joinC ys (joinC xs xs)) w6 K6.out Rj6.out (by omega) l4).mono ?_
        rintro e w7 ⟨v7, rfl, ho7, hb7⟩
        obtain ⟨J7, cj7, hv7, hr7⟩ := RdI.of_own ho7 (joinC_in IZ.out (joinC_in IY.out (joinC_in IX.out IX.out)))
        subst hv7
        have Rj7 := Lib.hid hr7
        have X7 := Lib.hid (X6.out.below hb7)
        have Y7 := Lib.hid (Y6.out.below hb7)
        clear hr7 ho7
        go_wp2_with fail
        refine (Leq_val J2 _ cj2 (joinC (joinC xs ys) zs) J4 _ cj4 (joinC xs (joinC ys zs)) w7 _ XY X7.out Y7.out).mono ?_
        rintro e w' ⟨rfl, rfl⟩
        go_wp2_with fail
        refine (Leq_val J4 _ cj4 (joinC xs (joinC ys zs)) J2 _ cj2 (joinC (joinC xs ys) zs) w7 _ YX Y7.out X7.out).mono ?_
        rintro e w' ⟨rfl, rfl⟩
        go_wp2_with fail
        refine (Leq_val J2 _ cj2 (joinC (joinC xs ys) zs) J7 _ cj7 (joinC zs (joinC ys (joinC xs xs))) w7 _ XZ X7.out Rj7.out).mono ?_
        rintro e w' ⟨rfl, rfl⟩
        go_wp2_with fail
        refine (Leq_val J7 _ cj7 (joinC zs (joinC ys (joinC xs xs))) J2 _ cj2 (joinC (joinC xs ys) zs) w7 _ ZX Rj7.out X7.out).mono ?_
        rintro e w' ⟨rfl, rfl⟩
        go_wp2_with fail
        refine (awake22_any _).mono ?_
        rintro e wz ⟨rfl, hbz⟩
        go_wp2
        go_ret
        exact ⟨rfl, btr (btr (btr (btr (btr (btr (btr hb1 hb2) hb3) hb4) hb5) hb6) hb7) hbz⟩

end Go.Proofs.Ytngfjoifkolaiaa
