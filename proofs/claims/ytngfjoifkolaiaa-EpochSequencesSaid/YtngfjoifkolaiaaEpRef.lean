/-
  What set and SameShadow of the reference of package epoch compute. No condition.
-/
import Derived.Test.YtngfjoifkolaiaaEpRead3
namespace Go.Proofs.Ytngfjoifkolaiaa
open Go.RowKit

set_option maxHeartbeats 1000000 in
theorem rset_any (A : Option Addr) (n c : Nat) (xs : List Int) (T : Nat) (x : Int) (w : World) (h : RdI w A n c xs) (hT : T < 4) (hn : n ≤ 65536) :
    Calls Try.prog 48 #[.slice A n c, .int .i64 (T : Int), .int .i64 x] w fun e w' => ∃ v, e = .returned v ∧ w'.ownsRow w.heap.size 3 1 v (setC xs T x).length (ints (setC xs T x)) ∧ Below w.heap.size w w' := by
  obtain ⟨i0, hi, hz0, hz1, hz2⟩ := info_parts int_info
  have H := Lib.hid h; clear h
  have hT' : (T : Int) < 4 := by omega
  go_enter Try.func48, Try.ntmps48
  go_wp2_with fail
  refine (rCopy_any A n c xs w H.out hn).mono ?_
  rintro e w1 ⟨v1, rfl, hown1, hb1⟩
  have hex : ∃ A1 c1, v1 = .slice A1 n c1 := by obtain ⟨A1, c1, h1, _⟩ := RdI.of_own hown1 H.out.inI; exact ⟨A1, c1, h1⟩
  obtain ⟨A1, c1, hv1⟩ := hex
  subst hv1
  have O1 := Lib.hid hown1; clear hown1
  go_wp2
  go_loopw [0] (fun s wr => ∃ (k : Nat) (A2 : Option Addr) (c2 : Nat), s = .slice A2 (n + k) c2 ∧ n + k ≤ max n (T + 1) ∧ Hid (wr.ownsRow w.heap.size 3 1 (.slice A2 (n + k) c2) (n + k) (ints (xs ++ List.replicate k 0))) ∧ Below w.heap.size w wr) (fun s _ => T + 1 - lenOfV s)
  case atStart => exact ⟨0, A1, c1, rfl, by omega, by simpa using O1, hb1⟩
  case round =>
    obtain ⟨k, A2, c2, rfl, hk, hO, hB⟩ := hrel
    by_cases hlt : n + k ≤ T
    · have hlt' : ((n + k : Nat) : Int) ≤ (T : Int) := by omega
      go_wp2_with (at_builtin; refine wpList_append_I rfl (.tmp 13) (.tmp 14) 22 rfl w.heap.size 3 i0 Try.underlying22 hi hz0 hz1 hz2 (.slice A2 (n + k) c2) (n + k) (xs ++ List.replicate k 0) rfl (hO.out.alloc _) (some ⟨wr.heap.size, 0, none⟩) 1 1 [0] rfl (RdI.lit wr 3 [0] (by intro x hx; simp at hx; omega) (by simp)) (by omega) (by have := hB.size; simp; omega) ?_; intro v3 w3 hown3 hg3 hat3)
      have hex3 : ∃ A3 c3, v3 = .slice A3 (n + k + 1) c3 := by
        obtain ⟨A3, c3, h1, _⟩ := RdI.of_own hown3 (by
          intro x hx
          simp only [List.mem_append, List.mem_replicate, List.mem_singleton] at hx
          rcases hx with (hx | ⟨_, rfl⟩) | rfl
          · exact H.out.inI x hx
          · omega
          · omega)
        exact ⟨A3, c3, h1⟩
      obtain ⟨A3, c3, hv3⟩ := hex3
      subst hv3
      have hB3 : Below w.heap.size w w3 := (hB.alloc hB.size _).grown hg3 (by have := hB.size; simp; omega) (fun q hq => (hO.out.lt q hq).1)
      have e3 : xs ++ List.replicate k 0 ++ [0] = xs ++ List.replicate (k + 1) 0 := by rw [List.append_assoc, List.replicate_succ']
      rw [e3] at hown3
      have O3 := Lib.hid hown3
      clear hown3 hg3 hat3 e3
      go_wp2
      go_roundw
      case rel => exact ⟨k + 1, A3, c3, rfl, by omega, O3, hB3⟩
      case measure => simp [lenOfV]; omega
    · have hgt : (T : Int) < ((n + k : Nat) : Int) := by omega
      obtain ⟨g, rfl, hgb, hgs⟩ := own_form hO.out (by omega)
      have hpk : xs ++ List.replicate k 0 = padTo xs (T + 1) := by
        unfold padTo; rw [H.out.1, show T + 1 - n = k from by omega]
      have hlen : (padTo xs (T + 1)).length = n + k := by rw [padTo_length, H.out.1]; omega
      have hO2 : Hid (wr.ownsRow w.heap.size 3 1 (.slice (some ⟨g, 0, none⟩) (n + k) c2) (n + k) (ints (padTo xs (T + 1)))) := by rw [← hpk]; exact hO
      have hc2 : ∃ y, wr.cell? ⟨g, T, none⟩ = some y := by
        rw [hO2.out.cellAt T (by omega)]; exact ⟨_, List.getElem?_eq_getElem (by rw [ints_length]; omega)⟩
      obtain ⟨y, hy⟩ := hc2
      have hf2 := hO2.out.frozenAt T
      have HL := Lib.hid hlen
      clear hO hpk hlen
      go_wp2
      go_ret
      refine ⟨_, rfl, ?_, hB.setCell hgb _⟩
      have h2 := (hO2.out.stored T (.int .i64 x)).1
      rw [ints_set] at h2
      have hl : (setC xs T x).length = n + k := by unfold setC; rw [List.length_set]; exact HL.out
      rw [hl]; exact h2

/-- two shadows of equal numbers whose lists read alike are the same -/
theorem SameShadow_yes (wt wh rt rh : Int) (A : Option Addr) (n c : Nat) (B : Option Addr) (d : Nat) (rs : List Int) (w : World) (h : RdI w A n c rs) (g : RdI w B n d rs) :
    Calls Try.prog 43 #[.agg #[.int .i64 wt, .int .i64 wh, .int .i64 rt, .int .i64 rh, .slice A n c], .agg #[.int .i64 wt, .int .i64 wh, .int .i64 rt, .int .i64 rh, .slice B n d]] w fun e w' => e = .returned (.bool true) ∧ Below w.heap.size w w' := by
  have H := Lib.hid h
  have G := Lib.hid g
  have K : Hid ((leqC rs rs && leqC rs rs) = true) := by show _ = _; rw [leqC_refl]; rfl
  clear h g
  go_enter Try.func43, Try.ntmps43
  go_wp2_with fail
  refine (Same_val A n c rs B n d rs _ _ K ((H.out.alloc _).alloc _) ((G.out.alloc _).alloc _)).mono ?_
  rintro e w' ⟨rfl, rfl⟩
  go_wp2
  go_ret
  exact ⟨rfl, bal (bal (Below.refl _ _) _) _⟩

end Go.Proofs.Ytngfjoifkolaiaa
