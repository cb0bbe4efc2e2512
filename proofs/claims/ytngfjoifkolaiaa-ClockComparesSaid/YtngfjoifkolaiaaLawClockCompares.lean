/-
  The statement ClockCompares returns true for every input: the walk. No condition.
-/
import Derived.Test.YtngfjoifkolaiaaClkVals
namespace Go.Proofs.Ytngfjoifkolaiaa
open Go.RowKit

set_option maxHeartbeats 2000000 in
theorem ClockCompares_walk (A : Option Addr) (n c : Nat) (xs : List Int) (B : Option Addr) (m d : Nat) (ys : List Int) (w : World) (h : RdI w A n c xs) (g : RdI w B m d ys) :
    Calls Try.prog 5 #[.slice A n c, .slice B m d] w fun e w' => e = .returned (.bool true) ∧ Below w.heap.size w w' := by
  have hn := h.le
  have hm := g.le
  have H := Lib.hid h; clear h
  have G := Lib.hid g; clear g
  by_cases hl : 60 < n
  · go_enter Try.func5, Try.ntmps5
    go_wp2_with fail
    refine (long_yes A n c w hl).mono ?_
    rintro e w' ⟨rfl, rfl⟩
    go_wp2_with fail
    refine (awake22_any _).mono ?_
    rintro e wz ⟨rfl, hbz⟩
    go_wp2
    go_ret
    exact ⟨rfl, hbz⟩
  · by_cases hl2 : 60 < m
    · go_enter Try.func5, Try.ntmps5
      go_wp2_with fail
      refine (long_no A n c w hl).mono ?_
      rintro e w' ⟨rfl, rfl⟩
      go_wp2_with fail
      refine (long_yes B m d w hl2).mono ?_
      rintro e w' ⟨rfl, rfl⟩
      go_wp2_with fail
      refine (awake22_any _).mono ?_
      rintro e wz ⟨rfl, hbz⟩
      go_wp2
      go_ret
      exact ⟨rfl, hbz⟩
    · obtain ⟨p, hp⟩ : ∃ p, leqC xs ys = p := ⟨_, rfl⟩
      obtain ⟨q, hq⟩ : ∃ q, leqC ys xs = q := ⟨_, rfl⟩
      have K1 := Lib.hid hp
      have K2 := Lib.hid hq
      have K3 : Hid ((!leqC xs ys && !leqC ys xs) = (!p && !q)) := by rw [hp, hq]; rfl
      have K4 : Hid ((!leqC ys xs && !leqC xs ys) = (!q && !p)) := by rw [hp, hq]; rfl
      clear hp hq
      cases p <;> cases q
      all_goals
        go_enter Try.func5, Try.ntmps5
        go_wp2_with fail
        refine (long_no A n c w hl).mono ?_
        rintro e w' ⟨rfl, rfl⟩
        go_wp2_with fail
        refine (long_no B m d w hl2).mono ?_
        rintro e w' ⟨rfl, rfl⟩
        go_wp2_with fail
        refine (rLeq_val A n c xs B m d ys w _ K1 H.out G.out).mono ?_
        rintro e w' ⟨rfl, rfl⟩
        go_wp2_with fail
        refine (rLeq_val B m d ys A n c xs w _ K2 G.out H.out).mono ?_
        rintro e w' ⟨rfl, rfl⟩
        go_wp2_with fail
        refine (Leq_val A n c xs B m d ys w _ K1 H.out G.out).mono ?_
        rintro e w' ⟨rfl, rfl⟩
        go_wp2_with fail
        refine (Leq_val B m d ys A n c xs w _ K2 G.out H.out).mono ?_
        rintro e w' ⟨rfl, rfl⟩
        go_wp2_with fail
        refine (Concurrent_val A n c xs B m d ys w _ K3 H.out G.out).mono ?_
        rintro e w' ⟨rfl, rfl⟩
        go_wp2_with fail
        refine (Concurrent_val B m d ys A n c xs w _ K4 G.out H.out).mono ?_
        rintro e w' ⟨rfl, rfl⟩
        go_wp2_with fail
        refine (awake22_any _).mono ?_
        rintro e wz ⟨rfl, hbz⟩
        go_wp2
        go_ret
        exact ⟨rfl, hbz⟩

end Go.Proofs.Ytngfjoifkolaiaa
