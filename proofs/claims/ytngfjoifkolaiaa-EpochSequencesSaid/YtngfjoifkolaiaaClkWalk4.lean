/-
  What Copy and Tick of the reference of package clock compute; spare and kept of the laws. No condition.
-/
import Derived.Test.YtngfjoifkolaiaaClkWalk3
import Derived.Laws.AppendOwnNone
namespace Go.Proofs.Ytngfjoifkolaiaa
open Go.RowKit

/-- append(v, x...), v a row of the call's own, x a slice of integers that reads as ys (nil let in) -/
theorem wpList_append_I {P : Program} {w : World} {ops : Array Oper} {rest : List Oper} {o : Oper} {a : Act} {Q : Exit → Act → World → Prop} (hgd : o.guard = none) (s x : Operand) (t : TypeId)
    (ho : o.op = .call { callee := .builtin .append, args := #[s, x], argTypes := #[t, t] })
    (base : Nat) (e : TypeId) (i : TypeInfo) (ht : P.underlying t = some (.slice e)) (hi : P.info? e = some i) (hz : i.zero = some (.int .i64 0)) (hsize : i.size = 1) (hby : i.bytes = 8)
    (v : Value) (n : Nat) (xs : List Int) (hs : a.eval s = v) (hown : w.ownsRow base e 1 v n (ints xs))
    (A : Option Addr) (m c : Nat) (ys : List Int) (hx : a.eval x = .slice A m c) (hr : RdI w A m c ys)
    (hsz : n + m ≤ 1000000) (hbase : base ≤ w.heap.size)
    (h : ∀ v' w', w'.ownsRow base e 1 v' (n + m) (ints (xs ++ ys)) → w.grownBy w' v.ownBlock → (v'.ownBlock = v.ownBlock ∨ v'.ownBlock = some w.heap.size) → wpList P ops Q rest (a.put o.dst v') w') :
    wpList P ops Q (o :: rest) a w := by
  rcases A with _ | ad
  · have hm : m = 0 := by
      rcases Nat.eq_zero_or_pos m with h0 | h0
      · exact h0
      · obtain ⟨ad, h1, _⟩ := hr.2.2.2.2.1 h0
        cases h1
    have hc : c = 0 := hr.2.2.2.2.2 rfl
    subst hm hc
    have hy : ys = [] := List.eq_nil_of_length_eq_zero hr.1
    subst hy
    exact wpList_append_own_none hgd s x t ho base e i 1 ht hi v n (ints xs) hs hown hx (h v w (by simpa using hown) (World.grownBy.refl w _) (.inl rfl))
  · refine wpList_append_own_at w hgd s x t ho base e i (.int .i64 0) 1 8 ht hi hz hsize hby rfl (by omega) v n (ints xs) hs hown ad m c (ints ys) hx (by rw [ints_length, hr.1]; omega) ?_ (ints_one ys) (by unfold maxLen; omega) (by omega) hbase ?_
    · intro j u hu
      have hp : 0 < (ints ys).length := by
        rcases Nat.lt_or_ge j (ints ys).length with h1 | h1
        · omega
        · rw [List.getElem?_eq_none h1] at hu; cases hu
      obtain ⟨ad', h1, h2⟩ := hr.src hp
      injection h1 with h1
      subst h1
      exact h2 j u hu
    · intro v' w' h1 h2 _ h4
      rw [← ints_append] at h1
      exact h v' w' h1 h2 h4

set_option maxHeartbeats 1000000 in
theorem rCopy_any (A : Option Addr) (n c : Nat) (xs : List Int) (w : World) (h : RdI w A n c xs) (hn : n ≤ 65536) :
    Calls Try.prog 40 #[.slice A n c] w fun e w' => ∃ v, e = .returned v ∧ w'.ownsRow w.heap.size 3 1 v n (ints xs) ∧ Below w.heap.size w w' := by
  obtain ⟨i0, hi, hz0, hz1, hz2⟩ := info_parts int_info
  have H := Lib.hid h; clear h
  go_enter Try.func40, Try.ntmps40
  go_wp2_with (at_builtin; refine wpList_append_I rfl (.const (.slice none 0 0)) (.tmp 3) 22 rfl w.heap.size 3 i0 Try.underlying22 hi hz0 hz1 hz2 (.slice none 0 0) 0 [] rfl (World.ownsRow_nil _ _ _ _) A n c xs rfl H.out (by omega) (Nat.le_refl _) ?_; intro v1 w1 hown1 hg1 hat1)
  have hb1 : Below w.heap.size w w1 := (Below.refl _ _).grown hg1 (Nat.le_refl _) (by simp [Value.ownBlock])
  go_ret
  exact ⟨_, rfl, by simpa using hown1, hb1⟩

theorem set_same (l : List Int) (T : Nat) : l.set T (l.getD T 0) = l := by
  apply List.ext_getElem?
  intro j
  rw [List.getElem?_set]
  split
  · rename_i h; subst h
    rw [List.getD_eq_getElem?_getD]
    split
    · rename_i h2; rw [List.getElem?_eq_getElem h2]; rfl
    · rename_i h2; rw [List.getElem?_eq_none (by omega)]
  · rfl
theorem rtick_close {w w2 W : World} {xs : List Int} {T M e g c : Nat} {y : Int} (hl : (padTo xs (T + 1)).length = M)
    (hO : w2.ownsRow w.heap.size e 1 (.slice (some ⟨g, 0, none⟩) M c) M (ints (padTo xs (T + 1)))) (hb : Below w.heap.size w w2) (hg : w.heap.size ≤ g) (hy : y = (padTo xs (T + 1)).getD T 0)
    (hw : (y < 9223372036854775807 ∧ W = w2.setCell ⟨g, T, none⟩ (.int .i64 (y + 1))) ∨ (9223372036854775807 ≤ y ∧ W = w2)) (hT : T < 4) :
    ∃ v, Ending.returned (.slice (some ⟨g, 0, none⟩) M c) = .returned v ∧ W.ownsRow w.heap.size e 1 v (tickC xs T).length (ints (tickC xs T)) ∧ Below w.heap.size w W := by
  have ht : tickC xs T = (padTo xs (T + 1)).set T (bump y) := by
    unfold tickC; rw [if_pos (by omega), Int.toNat_natCast, ← hy]
  refine ⟨_, rfl, ?_⟩
  rw [ht, List.length_set, hl]
  rcases hw with ⟨h1, rfl⟩ | ⟨h1, rfl⟩
  · refine ⟨?_, hb.setCell hg _⟩
    have := (hO.stored T (.int .i64 (y + 1))).1
    rw [ints_set] at this
    unfold bump; rw [if_pos h1]; exact this
  · refine ⟨?_, hb⟩
    unfold bump; rw [if_neg (by omega), hy, set_same]
    exact hO

set_option maxHeartbeats 1000000 in
theorem rTick_in (A : Option Addr) (n c : Nat) (xs : List Int) (T : Nat) (w : World) (h : RdI w A n c xs) (hT : T < 4) (hn : n ≤ 65536) :
    Calls Try.prog 37 #[.slice A n c, .int .i64 (T : Int)] w fun e w' => ∃ v, e = .returned v ∧ w'.ownsRow w.heap.size 3 1 v (tickC xs T).length (ints (tickC xs T)) ∧ Below w.heap.size w w' := by
  obtain ⟨i0, hi, hz0, hz1, hz2⟩ := info_parts int_info
  have H := Lib.hid h; clear h
  have hT' : (T : Int) < 4 := by omega
  go_enter Try.func37, Try.ntmps37
  go_wp2_with fail
  refine (rCopy_any A n c xs w H.out hn).mono ?_
  rintro e w1 ⟨v1, rfl, hown1, hb1⟩
  have hex : ∃ A1 c1, v1 = .slice A1 n c1 := by obtain ⟨A1, c1, h1, _⟩ := RdI.of_own hown1 H.out.inI; exact ⟨A1, c1, h1⟩
  obtain ⟨A1, c1, hv1⟩ := hex
  subst hv1
  have O1 := Lib.hid hown1; clear hown1
  go_wp2
  go_loopw [0] (fun s wr => ∃ (k : Nat) (A2 : Option Addr) (c2 : Nat), s = .slice A2 (n + k) c2 ∧ n + k ≤ max n (T + 1) ∧ Hid (wr.ownsRow w.heap.size 3 1 (.slice A2 (n + k) c2) (n + k) (ints (xs ++ List.replicate k 0))) ∧ Below w.heap.size w wr) (fun s _ => T + 1 - lenOfV s)
  case atStart => exact ⟨0, A1, c1, rfl, by omega, by simpa using O1, hb1⟩
  case round =>
    obtain ⟨k, A2, c2, rfl, hk, hO, hB⟩ := hrel
    by_cases hlt : n + k ≤ T
    · have hlt' : ((n + k : Nat) : Int) ≤ (T : Int) := by omega
      go_wp2_with (at_builtin; refine wpList_append_I rfl (.tmp 18) (.tmp 19) 22 rfl w.heap.size 3 i0 Try.underlying22 hi hz0 hz1 hz2 (.slice A2 (n + k) c2) (n + k) (xs ++ List.replicate k 0) rfl (hO.out.alloc _) (some ⟨wr.heap.size, 0, none⟩) 1 1 [0] rfl (RdI.lit wr 3 [0] (by intro x hx; simp at hx; omega) (by simp)) (by omega) (by have := hB.size; simp; omega) ?_; intro v3 w3 hown3 hg3 hat3)
      have hex3 : ∃ A3 c3, v3 = .slice A3 (n + k + 1) c3 := by
        obtain ⟨A3, c3, h1, _⟩ := RdI.of_own hown3 (by
          intro x hx
          simp only [List.mem_append, List.mem_replicate, List.mem_singleton] at hx
          rcases hx with (hx | ⟨_, rfl⟩) | rfl
          · exact H.out.inI x hx
          · omega
          · omega)
        exact ⟨A3, c3, h1⟩
      obtain ⟨A3, c3, hv3⟩ := hex3
      subst hv3
      have hB3 : Below w.heap.size w w3 := (hB.alloc hB.size _).grown hg3 (by have := hB.size; simp; omega) (fun q hq => (hO.out.lt q hq).1)
      have e3 : xs ++ List.replicate k 0 ++ [0] = xs ++ List.replicate (k + 1) 0 := by rw [List.append_assoc, List.replicate_succ']
      rw [e3] at hown3
      have O3 := Lib.hid hown3
      clear hown3 hg3 hat3 e3
      go_wp2
      go_roundw
      case rel => exact ⟨k + 1, A3, c3, rfl, by omega, O3, hB3⟩
      case measure => simp [lenOfV]; omega
    · have hgt : (T : Int) < ((n + k : Nat) : Int) := by omega
      obtain ⟨g, rfl, hgb, hgs⟩ := own_form hO.out (by omega)
      have hpk : xs ++ List.replicate k 0 = padTo xs (T + 1) := by
        unfold padTo; rw [H.out.1, show T + 1 - n = k from by omega]
      have hlen : (padTo xs (T + 1)).length = n + k := by rw [padTo_length, H.out.1]; omega
      have hO2 : Hid (wr.ownsRow w.heap.size 3 1 (.slice (some ⟨g, 0, none⟩) (n + k) c2) (n + k) (ints (padTo xs (T + 1)))) := by rw [← hpk]; exact hO
      obtain ⟨y, hy⟩ : ∃ y, y = (padTo xs (T + 1)).getD T 0 := ⟨_, rfl⟩
      have hc2 : wr.cell? ⟨g, T, none⟩ = some (.int .i64 y) := by
        rw [hO2.out.cellAt T (by omega), ints_get, List.getElem?_eq_getElem (by omega), hy]
        simp [List.getElem?_eq_getElem (show T < (padTo xs (T + 1)).length by omega)]
      have hf2 := hO2.out.frozenAt T
      have hyb : -9223372036854775808 ≤ y ∧ y ≤ 9223372036854775807 := by rw [hy]; exact (padTo_in H.out.inI (T + 1)).getD T
      have hyb1 := hyb.1
      have HY := Lib.hid hy
      have HL := Lib.hid hlen
      clear hy hyb hO hpk hlen
      by_cases hmx : y < 9223372036854775807
      · go_wp2
        go_ret
        exact rtick_close HL.out hO2.out hB hgb HY.out (.inl ⟨hmx, rfl⟩) hT
      · go_wp2
        go_ret
        exact rtick_close HL.out hO2.out hB hgb HY.out (.inr ⟨by omega, rfl⟩) hT

set_option maxHeartbeats 1000000 in
theorem rTick_out (A : Option Addr) (n c : Nat) (xs : List Int) (t : Int) (w : World) (h : RdI w A n c xs) (hT : ¬ (0 ≤ t ∧ t < 4)) (hn : n ≤ 65536) :
    Calls Try.prog 37 #[.slice A n c, .int .i64 t] w fun e w' => ∃ v, e = .returned v ∧ w'.ownsRow w.heap.size 3 1 v (tickC xs t).length (ints (tickC xs t)) ∧ Below w.heap.size w w' := by
  have H := Lib.hid h; clear h
  have HT := Lib.hid hT; clear hT
  by_cases h0 : t < 0
  all_goals
    have h2 : ¬ t < 0 → 4 ≤ t := by have := HT.out; omega
    go_enter Try.func37, Try.ntmps37
    go_wp2_with fail
    refine (rCopy_any A n c xs w H.out hn).mono ?_
    rintro e w1 ⟨v1, rfl, hown1, hb1⟩
    have O1 := Lib.hid hown1; clear hown1
    go_wp2
    go_ret
    refine ⟨_, rfl, ?_, hb1⟩
    have e : tickC xs t = xs := by unfold tickC; rw [if_neg HT.out]
    rw [e, H.out.1]
    exact O1.out

theorem rTick_any (A : Option Addr) (n c : Nat) (xs : List Int) (t : Int) (w : World) (h : RdI w A n c xs) (hn : n ≤ 65536) :
    Calls Try.prog 37 #[.slice A n c, .int .i64 t] w fun e w' => ∃ v, e = .returned v ∧ w'.ownsRow w.heap.size 3 1 v (tickC xs t).length (ints (tickC xs t)) ∧ Below w.heap.size w w' := by
  by_cases hT : 0 ≤ t ∧ t < 4
  · obtain ⟨T, rfl⟩ := Int.eq_ofNat_of_zero_le hT.1
    exact rTick_in A n c xs T w h (by omega) hn
  · exact rTick_out A n c xs t w h hT hn

end Go.Proofs.Ytngfjoifkolaiaa
