/-
  What Read of package epoch and of its reference compute, in one form; the sanity check of the statements on epochs. No condition.
-/
import Derived.Test.YtngfjoifkolaiaaEpRRead2
namespace Go.Proofs.Ytngfjoifkolaiaa
open Go.RowKit

def fresh (rt rh : Int) (ys : List Int) : Bool := decide (rt = 0) || coversC ys rt rh
def readRt (rs : List Int) (rt rh : Int) (ys : List Int) (T : Nat) : Int := if rs = [] then (if fresh rt rh ys = true then atC ys T else 0) else rt
def readRh (rs : List Int) (rt rh : Int) (ys : List Int) (T : Nat) : Int := if rs = [] then (if fresh rt rh ys = true then (T : Int) else 0) else rh
def readRs (rs : List Int) (rt rh : Int) (ys : List Int) (T : Nat) : List Int := if rs = [] then (if fresh rt rh ys = true then [] else setC (setC [] rh.toNat rt) T (atC ys T)) else setC rs T (atC ys T)
theorem readRs_in {rs : List Int} {rt rh : Int} {ys : List Int} {T : Nat} (h : InI rs) (g : InI ys) (hr : -9223372036854775808 ≤ rt ∧ rt ≤ 9223372036854775807) : InI (readRs rs rt rh ys T) := by
  have hn : InI [] := by intro y hy; cases hy
  unfold readRs
  split
  · split
    · exact hn
    · exact setC_in (setC_in hn _ hr) T (atC_in g T)
  · exact setC_in h T (atC_in g T)
theorem readRs_len {rs : List Int} {rt rh : Int} {ys : List Int} {T k : Nat} (h : rs.length ≤ k) (hT : T < 4) (hr : rh < 4) (hk : 4 ≤ k) : (readRs rs rt rh ys T).length ≤ k := by
  unfold readRs
  split
  · split
    · simp
    · rw [setC_length, setC_length]; simp; omega
  · rw [setC_length]; omega

theorem Read_any (wt wh rt rh : Int) (A : Option Addr) (n c : Nat) (rs : List Int) (B : Option Addr) (m d : Nat) (ys : List Int) (T : Nat) (w : World)
    (h : RdI w A n c rs) (g : RdI w B m d ys) (hT : T < 4) (hw0 : 0 ≤ wh) (hw1 : wh < 4) (hr0 : 0 ≤ rh) (hr1 : rh < 4) (hn : n ≤ 65536) :
    Calls Try.prog 41 #[.agg #[.int .i64 wt, .int .i64 wh, .int .i64 rt, .int .i64 rh, .slice A n c], .slice B m d, .int .i64 (T : Int)] w fun e w' =>
      ∃ v, e = .returned (.tuple #[.agg #[.int .i64 wt, .int .i64 wh, .int .i64 (readRt rs rt rh ys T), .int .i64 (readRh rs rt rh ys T), v], .bool (!coversC ys wt wh)]) ∧
        w'.ownsRow w.heap.size 3 1 v (readRs rs rt rh ys T).length (ints (readRs rs rt rh ys T)) ∧ Below w.heap.size w w' := by
  by_cases h0 : rs = []
  · have hn0 : n = 0 := by rw [← h.1, h0]; rfl
    subst hn0
    by_cases h1 : rt = 0
    · have e : fresh rt rh ys = true := by simp [fresh, h1]
      simp only [readRt, readRh, readRs, if_pos h0, if_pos e]
      exact Read_fresh wt wh rt rh A c rs B m d ys T w _ rfl h g hT hw0 hw1 hr0 hr1 h1
    · have h1' : (rt == 0) = false := by simp [h1]
      by_cases h2 : coversC ys rt rh = true
      · have e : fresh rt rh ys = true := by simp [fresh, h2]
        simp only [readRt, readRh, readRs, if_pos h0, if_pos e]
        exact Read_after wt wh rt rh A c rs B m d ys T w _ rfl h g hT hw0 hw1 hr0 hr1 h1' h2
      · have h2' : coversC ys rt rh = false := by simpa using h2
        have e : ¬ fresh rt rh ys = true := by simp [fresh, h1, h2']
        simp only [readRt, readRh, readRs, if_pos h0, if_neg e]
        obtain ⟨RH, rfl⟩ := Int.eq_ofNat_of_zero_le hr0
        rw [Int.toNat_natCast]
        exact Read_second wt wh rt RH A c rs B m d ys T w _ rfl h g hT hw0 hw1 (by omega) h1' h2'
  · have hn0 : 0 < n := by
      rcases Nat.eq_zero_or_pos n with e | e
      · exact absurd (List.eq_nil_of_length_eq_zero (by rw [h.1, e])) h0
      · exact e
    simp only [readRt, readRh, readRs, if_neg h0]
    exact Read_many wt wh rt rh A n c rs B m d ys T w _ rfl h g hT hw0 hw1 hr0 hr1 hn hn0

theorem rRead_any (wt wh rt rh : Int) (A : Option Addr) (n c : Nat) (rs : List Int) (B : Option Addr) (m d : Nat) (ys : List Int) (T : Nat) (w : World)
    (h : RdI w A n c rs) (g : RdI w B m d ys) (hT : T < 4) (hr0 : 0 ≤ rh) (hr1 : rh < 4) (hrb : -9223372036854775808 ≤ rt ∧ rt ≤ 9223372036854775807) (hn : n ≤ 65536) :
    Calls Try.prog 42 #[.agg #[.int .i64 wt, .int .i64 wh, .int .i64 rt, .int .i64 rh, .slice A n c], .slice B m d, .int .i64 (T : Int)] w fun e w' =>
      ∃ v, e = .returned (.tuple #[.agg #[.int .i64 wt, .int .i64 wh, .int .i64 (readRt rs rt rh ys T), .int .i64 (readRh rs rt rh ys T), v], .bool (!coversC ys wt wh)]) ∧
        w'.ownsRow w.heap.size 3 1 v (readRs rs rt rh ys T).length (ints (readRs rs rt rh ys T)) ∧ Below w.heap.size w w' := by
  by_cases h0 : rs = []
  · have hn0 : n = 0 := by rw [← h.1, h0]; rfl
    subst hn0
    by_cases h1 : rt = 0
    · have e : fresh rt rh ys = true := by simp [fresh, h1]
      simp only [readRt, readRh, readRs, if_pos h0, if_pos e]
      exact rRead_fresh wt wh rt rh A c rs B m d ys T w _ rfl h g hT h1
    · have h1' : (rt == 0) = false := by simp [h1]
      by_cases h2 : coversC ys rt rh = true
      · have e : fresh rt rh ys = true := by simp [fresh, h2]
        simp only [readRt, readRh, readRs, if_pos h0, if_pos e]
        exact rRead_after wt wh rt rh A c rs B m d ys T w _ rfl h g hT h1' h2
      · have h2' : coversC ys rt rh = false := by simpa using h2
        have e : ¬ fresh rt rh ys = true := by simp [fresh, h1, h2']
        simp only [readRt, readRh, readRs, if_pos h0, if_neg e]
        obtain ⟨RH, rfl⟩ := Int.eq_ofNat_of_zero_le hr0
        rw [Int.toNat_natCast]
        exact rRead_second wt wh rt RH A c rs B m d ys T w _ rfl h g hT (by omega) hrb h1' h2'
  · have hn0 : 0 < n := by
      rcases Nat.eq_zero_or_pos n with e | e
      · exact absurd (List.eq_nil_of_length_eq_zero (by rw [h.1, e])) h0
      · exact e
    simp only [readRt, readRh, readRs, if_neg h0]
    exact rRead_many wt wh rt rh A n c rs B m d ys T w _ rfl h g hT hn hn0

theorem Write_any (wt wh rt rh : Int) (A : Option Addr) (n c : Nat) (rs : List Int) (B : Option Addr) (m d : Nat) (ys : List Int) (t : Int) (w : World)
    (h : RdI w A n c rs) (g : RdI w B m d ys) (ht0 : 0 ≤ t) (ht1 : t < 4) (hw0 : 0 ≤ wh) (hw1 : wh < 4) (hr0 : 0 ≤ rh) (hr1 : rh < 4) :
    Calls Try.prog 44 #[.agg #[.int .i64 wt, .int .i64 wh, .int .i64 rt, .int .i64 rh, .slice A n c], .slice B m d, .int .i64 t] w fun e w' =>
      e = .returned (.tuple #[.agg #[.int .i64 (atC ys t), .int .i64 t, .int .i64 0, .int .i64 0, .slice none 0 0], .bool (!(coversC ys wt wh && coversC ys rt rh && leqC rs ys))]) ∧ Below w.heap.size w w' :=
  Write_core wt wh rt rh A n c rs B m d ys t w _ _ _ rfl rfl rfl h g ht0 ht1 hw0 hw1 hr0 hr1
theorem rWrite_any (wt wh rt rh : Int) (A : Option Addr) (n c : Nat) (rs : List Int) (B : Option Addr) (m d : Nat) (ys : List Int) (t : Int) (w : World)
    (h : RdI w A n c rs) (g : RdI w B m d ys) :
    Calls Try.prog 45 #[.agg #[.int .i64 wt, .int .i64 wh, .int .i64 rt, .int .i64 rh, .slice A n c], .slice B m d, .int .i64 t] w fun e w' =>
      e = .returned (.tuple #[.agg #[.int .i64 (atC ys t), .int .i64 t, .int .i64 0, .int .i64 0, .slice none 0 0], .bool (!(coversC ys wt wh && coversC ys rt rh && leqC rs ys))]) ∧ Below w.heap.size w w' :=
  rWrite_core wt wh rt rh A n c rs B m d ys t w _ _ _ rfl rfl rfl h g

set_option maxHeartbeats 4000000 in
theorem awake24_any (w : World) : Calls Try.prog 39 #[] w fun e w' => e = .returned (.bool true) ∧ Below w.heap.size w w' := by
  go_enter Try.func39, Try.ntmps39
  go_wp2_with fail
  refine (Read_any 0 0 0 0 none 0 0 [] _ 2 2 [0, 3] 1 _ (RdI.nil_ _) (RdI.lit w 3 [0, 3] (InI_lit (by decide)) (by simp)) (by omega) (by omega) (by omega) (by omega) (by omega) (by omega)).mono ?_
  rintro e w1 ⟨v1, rfl, o1, hb1⟩
  rw [show readRs [] 0 0 [0, 3] 1 = [] from by decide] at o1
  rw [show readRt [] 0 0 [0, 3] 1 = 3 from by decide, show readRh [] 0 0 [0, 3] 1 = 1 from by decide, show coversC [0, 3] 0 0 = true from by decide]
  obtain ⟨A1, c1, hv1, r1⟩ := RdI.of_own o1 (InI_lit (by decide))
  subst hv1
  have R1 := Lib.hid r1
  have B1 := Lib.hid (btr (bal (Below.refl w.heap.size w) _) hb1)
  clear o1 r1 hb1
  have k1 := Lib.hid (Blk5.new w1 (.int .i64 0) (.int .i64 0) (.int .i64 3) (.int .i64 1) (.slice A1 0 c1))
  go_wp2_with fail
  refine (Read_any 0 0 3 1 A1 0 c1 [] _ 2 2 [2, 0] 0 _ ((R1.out.alloc _).alloc _) (RdI.litAt (w1.alloc _) 3 [2, 0] (w1.heap.size + 1) (by simp) (InI_lit (by decide)) (by simp)) (by omega) (by omega) (by omega) (by omega) (by omega) (by omega)).mono ?_
  rintro e w2 ⟨v2, rfl, o2, hb2⟩
  rw [show readRs [] 3 1 [2, 0] 0 = [2, 3] from by decide] at o2
  rw [show readRt [] 3 1 [2, 0] 0 = 0 from by decide, show readRh [] 3 1 [2, 0] 0 = 0 from by decide, show coversC [2, 0] 0 0 = true from by decide]
  obtain ⟨A2, c2, hv2, r2⟩ := RdI.of_own o2 (InI_lit (by decide))
  subst hv2
  have R2 := Lib.hid r2
  have B2 := Lib.hid (btr (bal (bal B1.out _) _) hb2)
  have k2 := Lib.hid ((k1.out.alloc _).below hb2 (by simp; omega))
  have l1 : w1.heap.size < w2.heap.size := k2.out.lt
  have m2 := Lib.hid (Blk5.new w2 (.int .i64 0) (.int .i64 0) (.int .i64 0) (.int .i64 0) (.slice A2 2 c2))
  clear o2 r2 hb2
  go_wp2_with fail
  refine (Write_any 0 0 0 0 A2 2 c2 [2, 3] _ 2 2 [3, 2] 0 _ ((R2.out.alloc _).alloc _) (RdI.litAt (w2.alloc _) 3 [3, 2] (w2.heap.size + 1) (by simp) (InI_lit (by decide)) (by simp)) (by omega) (by omega) (by omega) (by omega) (by omega) (by omega)).mono ?_
  rintro e w3 ⟨rfl, hb3⟩
  rw [show (!(coversC [3, 2] 0 0 && coversC [3, 2] 0 0 && leqC [2, 3] [3, 2])) = true from by decide]
  have B3 := Lib.hid (btr (bal (bal B2.out _) _) hb3)
  have k3 := Lib.hid (((k2.out.alloc _).alloc _).below hb3 (by simp; omega))
  have m3 := Lib.hid ((m2.out.alloc _).below hb3 (by simp; omega))
  have R3 := Lib.hid (((R2.out.alloc _).alloc _).below hb3)
  have l2 : w2.heap.size < w3.heap.size := m3.out.lt
  obtain ⟨x0, x1, x2, x3, x4⟩ := m3.out.cells
  clear hb3
  go_wp2_with fail
  refine (Write_any 0 0 0 0 A2 2 c2 [2, 3] _ 2 2 [3, 3] 0 _ ((R3.out.alloc _).alloc _) (RdI.litAt (w3.alloc _) 3 [3, 3] (w3.heap.size + 1) (by simp) (InI_lit (by decide)) (by simp)) (by omega) (by omega) (by omega) (by omega) (by omega) (by omega)).mono ?_
  rintro e w4 ⟨rfl, hb4⟩
  rw [show (!(coversC [3, 3] 0 0 && coversC [3, 3] 0 0 && leqC [2, 3] [3, 3])) = false from by decide]
  have B4 := Lib.hid (btr (bal (bal B3.out _) _) hb4)
  have k4 := Lib.hid (((k3.out.alloc _).alloc _).below hb4 (by simp; omega))
  have m4 := Lib.hid (((m3.out.alloc _).alloc _).below hb4 (by simp; omega))
  have R4 := Lib.hid (((R3.out.alloc _).alloc _).below hb4)
  have l3 : w2.heap.size < w4.heap.size := m4.out.lt
  have l4 : w1.heap.size < w4.heap.size := k4.out.lt
  clear hb4 x0 x1 x2 x3 x4
  obtain ⟨x0, x1, x2, x3, x4⟩ := m4.out.cells
  obtain ⟨y0, y1, y2, y3, y4⟩ := k4.out.cells
  go_wp2_with fail
  refine (Same_val A2 2 c2 [2, 3] _ 2 2 [2, 3] _ _ (show Hid ((leqC [2, 3] [2, 3] && leqC [2, 3] [2, 3]) = true) from by show _ = _; decide) ((R4.out.alloc _).alloc _) (RdI.litAt (w4.alloc _) 3 [2, 3] (w4.heap.size + 1) (by simp) (InI_lit (by decide)) (by simp))).mono ?_
  rintro e w' ⟨rfl, rfl⟩
  go_wp2
  go_ret
  exact ⟨rfl, bal (bal B4.out _) _⟩

end Go.Proofs.Ytngfjoifkolaiaa
