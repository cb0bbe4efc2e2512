/-
  The statement ClockBounds returns true for every input: the walk. No condition.
-/
import Derived.Test.YtngfjoifkolaiaaClkVals
namespace Go.Proofs.Ytngfjoifkolaiaa
open Go.RowKit

set_option maxHeartbeats 4000000 in
theorem ClockBounds_walk (A : Option Addr) (n c : Nat) (xs : List Int) (B : Option Addr) (m d : Nat) (ys : List Int) (C : Option Addr) (l f : Nat) (zs : List Int) (w : World) (h : RdI w A n c xs) (g : RdI w B m d ys) (k : RdI w C l f zs) :
    Calls Try.prog 7 #[.slice A n c, .slice B m d, .slice C l f] w fun e w' => e = .returned (.bool true) ∧ Below w.heap.size w w' := by
  have hn := h.le
  have hm := g.le
  have hk := k.le
  have H := Lib.hid h; clear h
  have G := Lib.hid g; clear g
  have K := Lib.hid k; clear k
  by_cases hl0 : 60 < n
  · go_enter Try.func7, Try.ntmps7
    go_wp2_with fail
    refine (long_yes A n c w hl0).mono ?_
    rintro e w' ⟨rfl, rfl⟩
    go_wp2_with fail
    refine (awake22_any _).mono ?_
    rintro e wz ⟨rfl, hbz⟩
    go_wp2
    go_ret
    exact ⟨rfl, hbz⟩
  · by_cases hl1 : 60 < m
    · go_enter Try.func7, Try.ntmps7
      go_wp2_with fail
      refine (long_no A n c w hl0).mono ?_
      rintro e w' ⟨rfl, rfl⟩
      go_wp2_with fail
      refine (long_yes B m d w hl1).mono ?_
      rintro e w' ⟨rfl, rfl⟩
      go_wp2_with fail
      refine (awake22_any _).mono ?_
      rintro e wz ⟨rfl, hbz⟩
      go_wp2
      go_ret
      exact ⟨rfl, hbz⟩
    · by_cases hl2 : 60 < l
      · go_enter Try.func7, Try.ntmps7
        go_wp2_with fail
        refine (long_no A n c w hl0).mono ?_
        rintro e w' ⟨rfl, rfl⟩
        go_wp2_with fail
        refine (long_no B m d w hl1).mono ?_
        rintro e w' ⟨rfl, rfl⟩
        go_wp2_with fail
        refine (long_yes C l f w hl2).mono ?_
        rintro e w' ⟨rfl, rfl⟩
        go_wp2_with fail
        refine (awake22_any _).mono ?_
        rintro e wz ⟨rfl, hbz⟩
        go_wp2
        go_ret
        exact ⟨rfl, hbz⟩
      · have LJ1 := Lib.hid (leqC_join_left xs ys)
        have LJ2 := Lib.hid (leqC_join_right xs ys)
        obtain ⟨p, hp⟩ : ∃ p, leqC xs ys = p := ⟨_, rfl⟩
        have P := Lib.hid hp
        have PJ : Hid (leqC (joinC xs ys) ys = p) := by rw [leqC_join_iff]; exact hp
        clear hp
        obtain ⟨q, hq⟩ : ∃ q, leqC xs zs = q := ⟨_, rfl⟩
        obtain ⟨r, hr⟩ : ∃ r, leqC ys zs = r := ⟨_, rfl⟩
        have Q1 := Lib.hid hq
        have Q2 := Lib.hid hr
        clear hq hr
        cases q
        · cases p
          · go_enter Try.func7, Try.ntmps7
            go_wp2_with fail
            refine (long_no A n c w hl0).mono ?_
            rintro e w' ⟨rfl, rfl⟩
            go_wp2_with fail
            refine (long_no B m d w hl1).mono ?_
            rintro e w' ⟨rfl, rfl⟩
            go_wp2_with fail
            refine (long_no C l f w hl2).mono ?_
            rintro e w' ⟨rfl, rfl⟩
            go_wp2_with fail
            refine (Join_any A n c xs B m d ys w H.out G.out (by omega) (by omega)).mono ?_
            rintro e w1 ⟨v1, rfl, ho1, hb1⟩
            obtain ⟨J1, cj1, hv1, hr1⟩ := RdI.of_own ho1 (joinC_in H.out.inI G.out.inI)
            subst hv1
            have Rj1 := Lib.hid hr1
            have H1 := Lib.hid (H.out.below hb1)
            have G1 := Lib.hid (G.out.below hb1)
            have K1 := Lib.hid (K.out.below hb1)
            clear hr1 ho1
            go_wp2_with fail
            refine (Leq_val A n c xs J1 (joinC xs ys).length cj1 (joinC xs ys) w1 _ LJ1 H1.out Rj1.out).mono ?_
            rintro e w' ⟨rfl, rfl⟩
            go_wp2_with fail
            refine (Leq_val B m d ys J1 (joinC xs ys).length cj1 (joinC xs ys) w1 _ LJ2 G1.out Rj1.out).mono ?_
            rintro e w' ⟨rfl, rfl⟩
            go_wp2_with fail
            refine (Leq_val A n c xs C l f zs w1 _ Q1 H1.out K1.out).mono ?_
            rintro e w' ⟨rfl, rfl⟩
            go_wp2_with fail
            refine (Leq_val A n c xs B m d ys w1 _ P H1.out G1.out).mono ?_
            rintro e w' ⟨rfl, rfl⟩
            go_wp2_with fail
            refine (Leq_val J1 (joinC xs ys).length cj1 (joinC xs ys) B m d ys w1 _ PJ Rj1.out G1.out).mono ?_
            rintro e w' ⟨rfl, rfl⟩
            go_wp2_with fail
            refine (awake22_any _).mono ?_
            rintro e wz ⟨rfl, hbz⟩
            go_wp2
            go_ret
            exact ⟨rfl, btr hb1 hbz⟩
          · go_enter Try.func7, Try.ntmps7
            go_wp2_with fail
            refine (long_no A n c w hl0).mono ?_
            rintro e w' ⟨rfl, rfl⟩
            go_wp2_with fail
            refine (long_no B m d w hl1).mono ?_
            rintro e w' ⟨rfl, rfl⟩
            go_wp2_with fail
            refine (long_no C l f w hl2).mono ?_
            rintro e w' ⟨rfl, rfl⟩
            go_wp2_with fail
            refine (Join_any A n c xs B m d ys w H.out G.out (by omega) (by omega)).mono ?_
            rintro e w1 ⟨v1, rfl, ho1, hb1⟩
            obtain ⟨J1, cj1, hv1, hr1⟩ := RdI.of_own ho1 (joinC_in H.out.inI G.out.inI)
            subst hv1
            have Rj1 := Lib.hid hr1
            have H1 := Lib.hid (H.out.below hb1)
            have G1 := Lib.hid (G.out.below hb1)
            have K1 := Lib.hid (K.out.below hb1)
            clear hr1 ho1
            go_wp2_with fail
            refine (Leq_val A n c xs J1 (joinC xs ys).length cj1 (joinC xs ys) w1 _ LJ1 H1.out Rj1.out).mono ?_
            rintro e w' ⟨rfl, rfl⟩
            go_wp2_with fail
            refine (Leq_val B m d ys J1 (joinC xs ys).length cj1 (joinC xs ys) w1 _ LJ2 G1.out Rj1.out).mono ?_
            rintro e w' ⟨rfl, rfl⟩
            go_wp2_with fail
            refine (Leq_val A n c xs C l f zs w1 _ Q1 H1.out K1.out).mono ?_
            rintro e w' ⟨rfl, rfl⟩
            go_wp2_with fail
            refine (Leq_val A n c xs B m d ys w1 _ P H1.out G1.out).mono ?_
            rintro e w' ⟨rfl, rfl⟩
            go_wp2_with fail
            refine (Leq_val J1 (joinC xs ys).length cj1 (joinC xs ys) B m d ys w1 _ PJ Rj1.out G1.out).mono ?_
            rintro e w' ⟨rfl, rfl⟩
            go_wp2_with fail
            refine (Leq_val B m d ys J1 (joinC xs ys).length cj1 (joinC xs ys) w1 _ LJ2 G1.out Rj1.out).mono ?_
            rintro e w' ⟨rfl, rfl⟩
            go_wp2_with fail
            refine (awake22_any _).mono ?_
            rintro e wz ⟨rfl, hbz⟩
            go_wp2
            go_ret
            exact ⟨rfl, btr hb1 hbz⟩
        · cases r
          · cases p
            · go_enter Try.func7, Try.ntmps7
              go_wp2_with fail
              refine (long_no A n c w hl0).mono ?_
              rintro e w' ⟨rfl, rfl⟩
              go_wp2_with fail
              refine (long_no B m d w hl1).mono ?_
              rintro e w' ⟨rfl, rfl⟩
              go_wp2_with fail
              refine (long_no C l f w hl2).mono ?_
              rintro e w' ⟨rfl, rfl⟩
              go_wp2_with fail
              refine (Join_any A n c xs B m d ys w H.out G.out (by omega) (by omega)).mono ?_
              rintro e w1 ⟨v1, rfl, ho1, hb1⟩
              obtain ⟨J1, cj1, hv1, hr1⟩ := RdI.of_own ho1 (joinC_in H.out.inI G.out.inI)
              subst hv1
              have Rj1 := Lib.hid hr1
              have H1 := Lib.hid (H.out.below hb1)
              have G1 := Lib.hid (G.out.below hb1)
              have K1 := Lib.hid (K.out.below hb1)
              clear hr1 ho1
              go_wp2_with fail
              refine (Leq_val A n c xs J1 (joinC xs ys).length cj1 (joinC xs ys) w1 _ LJ1 H1.out Rj1.out).mono ?_
              rintro e w' ⟨rfl, rfl⟩
              go_wp2_with fail
              refine (Leq_val B m d ys J1 (joinC xs ys).length cj1 (joinC xs ys) w1 _ LJ2 G1.out Rj1.out).mono ?_
              rintro e w' ⟨rfl, rfl⟩
              go_wp2_with fail
              refine (Leq_val A n c xs C l f zs w1 _ Q1 H1.out K1.out).mono ?_
              rintro e w' ⟨rfl, rfl⟩
              go_wp2_with fail
              refine (Leq_val B m d ys C l f zs w1 _ Q2 G1.out K1.out).mono ?_
              rintro e w' ⟨rfl, rfl⟩
              go_wp2_with fail
              refine (Leq_val A n c xs B m d ys w1 _ P H1.out G1.out).mono ?_
              rintro e w' ⟨rfl, rfl⟩
              go_wp2_with fail
              refine (Leq_val J1 (joinC xs ys).length cj1 (joinC xs ys) B m d ys w1 _ PJ Rj1.out G1.out).mono ?_
              rintro e w' ⟨rfl, rfl⟩
              go_wp2_with fail
              refine (awake22_any _).mono ?_
              rintro e wz ⟨rfl, hbz⟩
              go_wp2
              go_ret
              exact ⟨rfl, btr hb1 hbz⟩
            · go_enter Try.func7, Try.ntmps7
              go_wp2_with fail
              refine (long_no A n c w hl0).mono ?_
              rintro e w' ⟨rfl, rfl⟩
              go_wp2_with fail
              refine (long_no B m d w hl1).mono ?_
              rintro e w' ⟨rfl, rfl⟩
              go_wp2_with fail
              refine (long_no C l f w hl2).mono ?_
              rintro e w' ⟨rfl, rfl⟩
              go_wp2_with fail
              refine (Join_any A n c xs B m d ys w H.out G.out (by omega) (by omega)).mono ?_
              rintro e w1 ⟨v1, rfl, ho1, hb1⟩
              obtain ⟨J1, cj1, hv1, hr1⟩ := RdI.of_own ho1 (joinC_in H.out.inI G.out.inI)
              subst hv1
              have Rj1 := Lib.hid hr1
              have H1 := Lib.hid (H.out.below hb1)
              have G1 := Lib.hid (G.out.below hb1)
              have K1 := Lib.hid (K.out.below hb1)
              clear hr1 ho1
              go_wp2_with fail
              refine (Leq_val A n c xs J1 (joinC xs ys).length cj1 (joinC xs ys) w1 _ LJ1 H1.out Rj1.out).mono ?_
              rintro e w' ⟨rfl, rfl⟩
              go_wp2_with fail
              refine (Leq_val B m d ys J1 (joinC xs ys).length cj1 (joinC xs ys) w1 _ LJ2 G1.out Rj1.out).mono ?_
              rintro e w' ⟨rfl, rfl⟩
              go_wp2_with fail
              refine (Leq_val A n c xs C l f zs w1 _ Q1 H1.out K1.out).mono ?_
              rintro e w' ⟨rfl, rfl⟩
              go_wp2_with fail
              refine (Leq_val B m d ys C l f zs w1 _ Q2 G1.out K1.out).mono ?_
              rintro e w' ⟨rfl, rfl⟩
              go_wp2_with fail
              refine (Leq_val A n c xs B m d ys w1 _ P H1.out G1.out).mono ?_
              rintro e w' ⟨rfl, rfl⟩
              go_wp2_with fail
              refine (Leq_val J1 (joinC xs ys).length cj1 (joinC xs ys) B m d ys w1 _ PJ Rj1.out G1.out).mono ?_
              rintro e w' ⟨rfl, rfl⟩
              go_wp2_with fail
              refine (Leq_val B m d ys J1 (joinC xs ys).length cj1 (joinC xs ys) w1 _ LJ2 G1.out Rj1.out).mono ?_
              rintro e w' ⟨rfl, rfl⟩
              go_wp2_with fail
              refine (awake22_any _).mono ?_
              rintro e wz ⟨rfl, hbz⟩
              go_wp2
              go_ret
              exact ⟨rfl, btr hb1 hbz⟩
          · cases p
            · go_enter Try.func7, Try.ntmps7
              go_wp2_with fail
              refine (long_no A n c w hl0).mono ?_
              rintro e w' ⟨rfl, rfl⟩
              go_wp2_with fail
              refine (long_no B m d w hl1).mono ?_
              rintro e w' ⟨rfl, rfl⟩
              go_wp2_with fail
              refine (long_no C l f w hl2).mono ?_
              rintro e w' ⟨rfl, rfl⟩
              go_wp2_with fail
              refine (Join_any A n c xs B m d ys w H.out G.out (by omega) (by omega)).mono ?_
              rintro e w1 ⟨v1, rfl, ho1, hb1⟩
              obtain ⟨J1, cj1, hv1, hr1⟩ := RdI.of_own ho1 (joinC_in H.out.inI G.out.inI)
              subst hv1
              have Rj1 := Lib.hid hr1
              have H1 := Lib.hid (H.out.below hb1)
              have G1 := Lib.hid (G.out.below hb1)
              have K1 := Lib.hid (K.out.below hb1)
              clear hr1 ho1
              go_wp2_with fail
              refine (Leq_val A n c xs J1 (joinC xs ys).length cj1 (joinC xs ys) w1 _ LJ1 H1.out Rj1.out).mono ?_
              rintro e w' ⟨rfl, rfl⟩
              go_wp2_with fail
              refine (Leq_val B m d ys J1 (joinC xs ys).length cj1 (joinC xs ys) w1 _ LJ2 G1.out Rj1.out).mono ?_
              rintro e w' ⟨rfl, rfl⟩
              go_wp2_with fail
              refine (Leq_val A n c xs C l f zs w1 _ Q1 H1.out K1.out).mono ?_
              rintro e w' ⟨rfl, rfl⟩
              go_wp2_with fail
              refine (Leq_val B m d ys C l f zs w1 _ Q2 G1.out K1.out).mono ?_
              rintro e w' ⟨rfl, rfl⟩
              go_wp2_with fail
              refine (Leq_val J1 (joinC xs ys).length cj1 (joinC xs ys) C l f zs w1 _ (Lib.hid (leqC_join_least Q1.out Q2.out)) Rj1.out K1.out).mono ?_
              rintro e w' ⟨rfl, rfl⟩
              go_wp2_with fail
              refine (Leq_val A n c xs B m d ys w1 _ P H1.out G1.out).mono ?_
              rintro e w' ⟨rfl, rfl⟩
              go_wp2_with fail
              refine (Leq_val J1 (joinC xs ys).length cj1 (joinC xs ys) B m d ys w1 _ PJ Rj1.out G1.out).mono ?_
              rintro e w' ⟨rfl, rfl⟩
              go_wp2_with fail
              refine (awake22_any _).mono ?_
              rintro e wz ⟨rfl, hbz⟩
              go_wp2
              go_ret
              exact ⟨rfl, btr hb1 hbz⟩
            · go_enter Try.func7, Try.ntmps7
              go_wp2_with fail
              refine (long_no A n c w hl0).mono ?_
              rintro e w' ⟨rfl, rfl⟩
              go_wp2_with fail
              refine (long_no B m d w hl1).mono ?_
              rintro e w' ⟨rfl, rfl⟩
              go_wp2_with fail
              refine (long_no C l f w hl2).mono ?_
              rintro e w' ⟨rfl, rfl⟩
              go_wp2_with fail
              refine (Join_any A n c xs B m d ys w H.out G.out (by omega) (by omega)).mono ?_
              rintro e w1 ⟨v1, rfl, ho1, hb1⟩
              obtain ⟨J1, cj1, hv1, hr1⟩ := RdI.of_own ho1 (joinC_in H.out.inI G.out.inI)
              subst hv1
              have Rj1 := Lib.hid hr1
              have H1 := Lib.hid (H.out.below hb1)
              have G1 := Lib.hid (G.out.below hb1)
              have K1 := Lib.hid (K.out.below hb1)
              clear hr1 ho1
              go_wp2_with fail
              refine (Leq_val A n c xs J1 (joinC xs ys).length cj1 (joinC xs ys) w1 _ LJ1 H1.out Rj1.out).mono ?_
              rintro e w' ⟨rfl, rfl⟩
              go_wp2_with fail
              refine (Leq_val B m d ys J1 (joinC xs ys).length cj1 (joinC xs ys) w1 _ LJ2 G1.out Rj1.out).mono ?_
              rintro e w' ⟨rfl, rfl⟩
              go_wp2_with fail
              refine (Leq_val A n c xs C l f zs w1 _ Q1 H1.out K1.out).mono ?_
              rintro e w' ⟨rfl, rfl⟩
              go_wp2_with fail
              refine (Leq_val B m d ys C l f zs w1 _ Q2 G1.out K1.out).mono ?_
              rintro e w' ⟨rfl, rfl⟩
              go_wp2_with fail
              refine (Leq_val J1 (joinC xs ys).length cj1 (joinC xs ys) C l f zs w1 _ (Lib.hid (leqC_join_least Q1.out Q2.out)) Rj1.out K1.out).mono ?_
              rintro e w' ⟨rfl, rfl⟩
              go_wp2_with fail
              refine (Leq_val A n c xs B m d ys w1 _ P H1.out G1.out).mono ?_
              rintro e w' ⟨rfl, rfl⟩
              go_wp2_with fail
              refine (Leq_val J1 (joinC xs ys).length cj1 (joinC xs ys) B m d ys w1 _ PJ Rj1.out G1.out).mono ?_
              rintro e w' ⟨rfl, rfl⟩
              go_wp2_with fail
              refine (Leq_val B m d ys J1 (joinC xs ys).length cj1 (joinC xs ys) w1 _ LJ2 G1.out Rj1.out).mono ?_
              rintro e w' ⟨rfl, rfl⟩
              go_wp2_with fail
              refine (awake22_any _).mono ?_
              rintro e wz ⟨rfl, hbz⟩
              go_wp2
              go_ret
              exact ⟨rfl, btr hb1 hbz⟩

end Go.Proofs.Ytngfjoifkolaiaa
