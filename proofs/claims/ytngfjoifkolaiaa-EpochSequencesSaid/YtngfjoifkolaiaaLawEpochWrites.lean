/-
  The statement EpochWrites returns true for every input: the walk. No condition.
-/
import Derived.Test.YtngfjoifkolaiaaEpAny
namespace Go.Proofs.Ytngfjoifkolaiaa
open Go.RowKit

set_option maxHeartbeats 1000000 in
theorem fit_yes (wt wh rt rh : Int) (A : Option Addr) (n c : Nat) (B : Option Addr) (m d : Nat) (t : Int) (w : World) (ht0 : 0 ≤ t) (ht1 : t < 4) (hw0 : 0 ≤ wh) (hw1 : wh < 4) (hr0 : 0 ≤ rh) (hr1 : rh < 4) (hn : n ≤ 60) (hm : m ≤ 60) :
    Calls Try.prog 38 #[.agg #[.int .i64 wt, .int .i64 wh, .int .i64 rt, .int .i64 rh, .slice A n c], .slice B m d, .int .i64 t] w fun e w' => e = .returned (.bool true) ∧ Below w.heap.size w w' := by
  have hn' : (n : Int) ≤ 60 := by omega
  have hm' : (m : Int) ≤ 60 := by omega
  go_enter Try.func38, Try.ntmps38
  go_wp2
  go_ret
  exact ⟨ret_bool (by simp), bal (Below.refl _ _) _⟩

set_option maxHeartbeats 1000000 in
theorem fit_no (wt wh rt rh : Int) (A : Option Addr) (n c : Nat) (B : Option Addr) (m d : Nat) (t : Int) (w : World) (ht0 : 0 ≤ t) (ht1 : t < 4) (hw0 : 0 ≤ wh) (hw1 : wh < 4) (hr0 : 0 ≤ rh) (hr1 : rh < 4) (h : ¬ (n ≤ 60 ∧ m ≤ 60)) :
    Calls Try.prog 38 #[.agg #[.int .i64 wt, .int .i64 wh, .int .i64 rt, .int .i64 rh, .slice A n c], .slice B m d, .int .i64 t] w fun e w' => e = .returned (.bool false) ∧ Below w.heap.size w w' := by
  by_cases hn : n ≤ 60
  · have hn' : (n : Int) ≤ 60 := by omega
    have hm' : ¬ (m : Int) ≤ 60 := by omega
    clear h
    go_enter Try.func38, Try.ntmps38
    go_wp2
    go_ret
    exact ⟨ret_bool (by simp), bal (Below.refl _ _) _⟩
  · have hn' : ¬ (n : Int) ≤ 60 := by omega
    clear h
    go_enter Try.func38, Try.ntmps38
    go_wp2
    go_ret
    exact ⟨ret_bool (by simp), bal (Below.refl _ _) _⟩

theorem mod4 (t : Int) : ∃ T : Nat, T < 4 ∧ wrap64 ((IntKind.u64.wrap t).tmod 4) = (T : Int) := by
  have h0 : 0 ≤ IntKind.u64.wrap t := by rw [IntKind.wrap_u64]; omega
  have h1 : (IntKind.u64.wrap t).tmod 4 = IntKind.u64.wrap t % 4 := Int.tmod_eq_emod_of_nonneg h0
  rw [h1]
  obtain ⟨x, hx⟩ : ∃ x, x = IntKind.u64.wrap t % 4 := ⟨_, rfl⟩
  have h2 : 0 ≤ x ∧ x < 4 := by rw [hx]; omega
  rw [← hx]
  refine ⟨x.toNat, by omega, ?_⟩
  rw [IntWalk.wrap64_in x (by omega)]
  omega

set_option maxHeartbeats 2000000 in
theorem EpochWrites_walk (wt wh rt rh : Int) (A : Option Addr) (n c : Nat) (rs : List Int) (B : Option Addr) (m d : Nat) (ys : List Int) (t : Int) (w : World) (h : RdI w A n c rs) (g : RdI w B m d ys) :
    Calls Try.prog 15 #[.agg #[.int .i64 wt, .int .i64 wh, .int .i64 rt, .int .i64 rh, .slice A n c], .slice B m d, .int .i64 t] w fun e w' => e = .returned (.bool true) ∧ Below w.heap.size w w' := by
  have H := Lib.hid h
  have G := Lib.hid g
  clear h g
  go_enter Try.func15, Try.ntmps15
  go_wp2_with fail
  obtain ⟨T, hT, eT⟩ := mod4 t
  obtain ⟨WH, hWH, eW⟩ := mod4 wh
  obtain ⟨RH, hRH, eR⟩ := mod4 rh
  rw [eT, eW, eR]
  clear eT eW eR
  have k0 := Lib.hid (Blk5.new w (.int .i64 wt) (.int .i64 (WH : Int)) (.int .i64 rt) (.int .i64 (RH : Int)) (.slice A n c))
  by_cases hfit : n ≤ 60 ∧ m ≤ 60
  · refine (fit_yes wt WH rt RH A n c B m d T _ (by omega) (by omega) (by omega) (by omega) (by omega) (by omega) hfit.1 hfit.2).mono ?_
    rintro e w1 ⟨rfl, hb1⟩
    have B1 := Lib.hid (btr (bal (Below.refl w.heap.size w) _) hb1)
    have k1 := Lib.hid (k0.out.below hb1 (by simp))
    have H1 := Lib.hid (H.out.below B1.out)
    have G1 := Lib.hid (G.out.below B1.out)
    have l1 : w.heap.size < w1.heap.size := k1.out.lt
    obtain ⟨x0, x1, x2, x3, x4⟩ := k1.out.cells
    clear hb1 k0
    go_wp2_with fail
    refine (Write_any wt WH rt RH A n c rs B m d ys T w1 H1.out G1.out (by omega) (by omega) (by omega) (by omega) (by omega) (by omega)).mono ?_
    rintro e w2 ⟨rfl, hb2⟩
    obtain ⟨r, hr⟩ : ∃ r, r = (!(coversC ys wt WH && coversC ys rt RH && leqC rs ys)) := ⟨_, rfl⟩
    rw [← hr]
    have B2 := Lib.hid (btr B1.out hb2)
    have k2 := Lib.hid (k1.out.below hb2 l1)
    have H2 := Lib.hid (H.out.below B2.out)
    have G2 := Lib.hid (G.out.below B2.out)
    have l2 : w.heap.size < w2.heap.size := k2.out.lt
    clear hb2 x0 x1 x2 x3 x4
    obtain ⟨x0, x1, x2, x3, x4⟩ := k2.out.cells
    have HR := Lib.hid hr
    clear hr
    go_wp2_with fail
    refine (rWrite_any wt WH rt RH A n c rs B m d ys T _ (H2.out.alloc _) (G2.out.alloc _)).mono ?_
    rintro e w3 ⟨rfl, hb3⟩
    rw [← HR.out]
    have B3 := Lib.hid (btr (bal B2.out _) hb3)
    have k3 := Lib.hid ((Blk5.new w2 (.int .i64 (atC ys T)) (.int .i64 (T : Int)) (.int .i64 0) (.int .i64 0) (.slice none 0 0)).below hb3 (by simp))
    have l3 : w2.heap.size < w3.heap.size := k3.out.lt
    clear hb3 x0 x1 x2 x3 x4
    obtain ⟨x0, x1, x2, x3, x4⟩ := k3.out.cells
    go_wp2_with fail
    refine (SameShadow_yes (atC ys T) T 0 0 none 0 0 none 0 [] _ (RdI.nil_ _) (RdI.nil_ _)).mono ?_
    rintro e w4 ⟨rfl, hb4⟩
    have B4 := Lib.hid (btr (bal B3.out _) hb4)
    clear hb4
    go_wp2_with fail
    refine (awake24_any _).mono ?_
    rintro e w5 ⟨rfl, hb5⟩
    go_wp2
    go_ret
    exact ⟨rfl, btr B4.out hb5⟩
  · refine (fit_no wt WH rt RH A n c B m d T _ (by omega) (by omega) (by omega) (by omega) (by omega) (by omega) hfit).mono ?_
    rintro e w1 ⟨rfl, hb1⟩
    go_wp2_with fail
    refine (awake24_any _).mono ?_
    rintro e w5 ⟨rfl, hb5⟩
    go_wp2
    go_ret
    exact ⟨rfl, btr (btr (bal (Below.refl w.heap.size w) _) hb1) hb5⟩

end Go.Proofs.Ytngfjoifkolaiaa
