/-
  The statement EpochReads returns true for every input: the walk. No condition.
-/
import Derived.Test.YtngfjoifkolaiaaLawEpochWrites
namespace Go.Proofs.Ytngfjoifkolaiaa
open Go.RowKit

set_option maxHeartbeats 8000000 in
theorem EpochReads_walk (wt wh rt rh : Int) (A : Option Addr) (n c : Nat) (rs : List Int) (B : Option Addr) (m d : Nat) (ys : List Int) (t : Int) (w : World) (h : RdI w A n c rs) (g : RdI w B m d ys) (hrb : -9223372036854775808 ≤ rt ∧ rt ≤ 9223372036854775807) :
    Calls Try.prog 14 #[.agg #[.int .i64 wt, .int .i64 wh, .int .i64 rt, .int .i64 rh, .slice A n c], .slice B m d, .int .i64 t] w fun e w' => e = .returned (.bool true) ∧ Below w.heap.size w w' := by
  have H := Lib.hid h
  have G := Lib.hid g
  have HRB := Lib.hid hrb
  clear h g hrb
  go_enter Try.func14, Try.ntmps14
  go_wp2_with fail
  obtain ⟨T, hT, eT⟩ := mod4 t
  obtain ⟨WH, hWH, eW⟩ := mod4 wh
  obtain ⟨RH, hRH, eR⟩ := mod4 rh
  rw [eT, eW, eR]
  clear eT eW eR
  have k0 := Lib.hid (Blk5.new w (.int .i64 wt) (.int .i64 (WH : Int)) (.int .i64 rt) (.int .i64 (RH : Int)) (.slice A n c))
  by_cases hfit : n ≤ 60 ∧ m ≤ 60
  case neg =>
    refine (fit_no wt WH rt RH A n c B m d T _ (by omega) (by omega) (by omega) (by omega) (by omega) (by omega) hfit).mono ?_
    rintro e w1 ⟨rfl, hb1⟩
    go_wp2_with fail
    refine (awake24_any _).mono ?_
    rintro e w5 ⟨rfl, hb5⟩
    go_wp2
    go_ret
    exact ⟨rfl, btr (btr (bal (Below.refl w.heap.size w) _) hb1) hb5⟩
  case pos =>
    refine (fit_yes wt WH rt RH A n c B m d T _ (by omega) (by omega) (by omega) (by omega) (by omega) (by omega) hfit.1 hfit.2).mono ?_
    rintro e w1 ⟨rfl, hb1⟩
    have B1 := Lib.hid (btr (bal (Below.refl w.heap.size w) _) hb1)
    have b3 := Lib.hid (k0.out.below hb1 (by simp))
    have l3 : w.heap.size < w1.heap.size := b3.out.lt
    have hn60 := hfit.1
    clear hb1 k0 hfit
    obtain ⟨x30, x31, x32, x33, x34⟩ := (show Blk5 w1.drew w.heap.size _ _ _ _ _ from b3.out).cells
    have HW : Hid (RdI w1.drew A n c rs) := (H.out.below B1.out).drewN 0
    have hne13 : w.heap.size ≠ w1.heap.size := by omega
    have HW2 : Hid (RdI (w1.alloc (.cells #[.int .i64 0, .int .i64 0, .int .i64 0, .int .i64 0, .slice none 0 0] 45)).drew A n c rs) := ((H.out.below B1.out).alloc _).drewN 0
    obtain ⟨q30, q31, q32, q33, q34⟩ := (show Blk5 (w1.alloc (.cells #[.int .i64 0, .int .i64 0, .int .i64 0, .int .i64 0, .slice none 0 0] 45)).drew w.heap.size _ _ _ _ _ from b3.out.alloc _).cells
    go_wp2
    go_region_held3 (fun w' => w'.cell? ⟨w.heap.size, 0, none⟩ = some (.int .i64 wt) ∧ w'.cell? ⟨w.heap.size, 1, none⟩ = some (.int .i64 (WH : Int)) ∧ w'.cell? ⟨w.heap.size, 2, none⟩ = some (.int .i64 rt) ∧ w'.cell? ⟨w.heap.size, 3, none⟩ = some (.int .i64 (RH : Int)) ∧ w'.cell? ⟨w.heap.size, 4, none⟩ = some (.slice A n c)) (first | with_reducible exact ⟨z30, z31, z32, z33, z34⟩ | with_reducible exact ⟨x30, x31, x32, x33, x34⟩ | with_reducible exact ⟨q30, q31, q32, q33, q34⟩ | with_reducible exact ⟨put5x hne13 z30, put5x hne13 z31, put5x hne13 z32, put5x hne13 z33, put5x hne13 z34⟩ | with_reducible exact ⟨alx z30, alx z31, alx z32, alx z33, alx z34⟩ | go_keep)
      (first | (go_at_call 40; refine (rCopy_any A n c rs _ ?_ ?_).mono ?_; (with_reducible exact HW.out); omega; rintro e wA ⟨v1, rfl, o1, hbA⟩; obtain ⟨A1, c1, hv1, _⟩ := RdI.of_own o1 H.out.inI; subst hv1; have O1 := Lib.hid o1; clear o1; have z30 := below_cell hbA x30; have z31 := below_cell hbA x31; have z32 := below_cell hbA x32; have z33 := below_cell hbA x33; have z34 := below_cell hbA x34) | (go_at_call 40; refine (rCopy_any A n c rs _ ?_ ?_).mono ?_; (with_reducible exact HW2.out); omega; rintro e wA ⟨v1, rfl, o1, hbA⟩; obtain ⟨A1, c1, hv1, _⟩ := RdI.of_own o1 H.out.inI; subst hv1; have O1 := Lib.hid o1; clear o1; have z30 := below_cell hbA q30; have z31 := below_cell hbA q31; have z32 := below_cell hbA q32; have z33 := below_cell hbA q33; have z34 := below_cell hbA q34; have d10 := Lib.hid (Blk5.below (Blk5.new w1 (.int .i64 0) (.int .i64 0) (.int .i64 0) (.int .i64 0) (.slice none 0 0)) (show Below (w1.alloc (.cells #[.int .i64 0, .int .i64 0, .int .i64 0, .int .i64 0, .slice none 0 0] 45)).heap.size (w1.alloc (.cells #[.int .i64 0, .int .i64 0, .int .i64 0, .int .i64 0, .slice none 0 0] 45)) wA from ⟨hbA.os, hbA.tape, hbA.output, hbA.size, hbA.block⟩) (by simp)); obtain ⟨y0, y1, y2, y3, y4⟩ := d10.out.cells; obtain ⟨v0, v1, v2, v3, v4⟩ := d10.out.frozen))
    · have hbB : Below w1.heap.size w1 wA := ⟨hbA.os, hbA.tape, hbA.output, hbA.size, hbA.block⟩
      obtain ⟨W, hW⟩ : ∃ W, W = wA.alloc (.cells #[.int .i64 wt, .int .i64 (WH : Int), .int .i64 rt, .int .i64 (RH : Int), .slice A1 n c1] 45) := ⟨_, rfl⟩
      obtain ⟨g7, hg7⟩ : ∃ g, g = wA.heap.size := ⟨_, rfl⟩
      rw [← hW, ← hg7]
      have c3 : Hid (Blk5 W w.heap.size (.int .i64 wt) (.int .i64 (WH : Int)) (.int .i64 rt) (.int .i64 (RH : Int)) (.slice A n c)) := by rw [hW]; exact (b3.out.below hbB l3).alloc _
      have c7 : Hid (Blk5 W g7 (.int .i64 wt) (.int .i64 (WH : Int)) (.int .i64 rt) (.int .i64 (RH : Int)) (.slice A1 n c1)) := by rw [hW, hg7]; exact Blk5.new wA _ _ _ _ _
      have hg : w.heap.size < g7 := by have := hbB.size; omega
      have BW : Hid (Below w.heap.size w W) := by rw [hW]; exact bal (btr B1.out hbB) _
      have OW : Hid (W.ownsRow w.heap.size 3 1 (.slice A1 n c1) n (ints rs)) := by
        rw [hW]; exact own_base (O1.out.alloc _) (show w.heap.size ≤ w1.heap.size by omega)
      clear hW hg7 hbA hbB O1 b3 B1 x30 x31 x32 x33 x34 q30 q31 q32 q33 q34 z30 z31 z32 z33 z34 HW HW2 hne13
      obtain ⟨_, _, hv, rW⟩ := RdI.of_own OW.out H.out.inI
      injection hv with e1 _ e3
      subst e1 e3
      have RW := Lib.hid rW
      clear rW
      obtain ⟨x70, x71, x72, x73, x74⟩ := c7.out.cells
      have l7 : g7 < W.heap.size := c7.out.lt
      go_wp2_with fail
      refine (Read_any wt WH rt RH A1 n c1 rs B m d ys T W RW.out (G.out.below BW.out) hT (by omega) (by omega) (by omega) (by omega) (by omega)).mono ?_
      rintro e w3 ⟨v3, rfl, o3, hb3⟩
      obtain ⟨RT, hRT⟩ : ∃ q, q = readRt rs rt RH ys T := ⟨_, rfl⟩
      obtain ⟨RJ, hRJ⟩ : ∃ q, q = readRh rs rt RH ys T := ⟨_, rfl⟩
      obtain ⟨RS, hRS⟩ : ∃ q, q = readRs rs rt RH ys T := ⟨_, rfl⟩
      obtain ⟨p, hp⟩ : ∃ p, p = coversC ys wt WH := ⟨_, rfl⟩
      have IRS : Hid (InI RS) := by rw [hRS]; exact readRs_in H.out.inI G.out.inI HRB.out
      have LRS : RS.length ≤ 64 := by rw [hRS]; exact readRs_len (by rw [H.out.1]; omega) hT (by omega) (by omega)
      rw [← hRT, ← hRJ, ← hp]
      rw [← hRS] at o3
      have HRT := Lib.hid hRT
      have HRJ := Lib.hid hRJ
      have HRS := Lib.hid hRS
      have HP := Lib.hid hp
      clear hRT hRJ hRS hp
      obtain ⟨L, hL⟩ : ∃ L, L = RS.length := ⟨_, rfl⟩
      rw [← hL] at o3 LRS
      have HL := Lib.hid hL
      clear hL
      obtain ⟨A3, k3, hv3, q3⟩ := RdI.of_own o3 IRS.out
      subst hv3
      have O3base := fun k hk => (⟨(o3.lt k hk).1, (o3.lt k hk).2⟩ : W.heap.size ≤ k ∧ k < w3.heap.size)
      have OB := Lib.hid O3base
      clear O3base
      have O3 := Lib.hid (o3.alloc (.cells #[.int .i64 wt, .int .i64 (WH : Int), .int .i64 RT, .int .i64 RJ, .slice A3 L k3] 45))
      have d8 := Lib.hid (Blk5.new w3 (.int .i64 wt) (.int .i64 (WH : Int)) (.int .i64 RT) (.int .i64 RJ) (.slice A3 L k3))
      have d3 := Lib.hid ((c3.out.below hb3 c3.out.lt).alloc (.cells #[.int .i64 wt, .int .i64 (WH : Int), .int .i64 RT, .int .i64 RJ, .slice A3 L k3] 45))
      have d7 := Lib.hid ((c7.out.below hb3 c7.out.lt).alloc (.cells #[.int .i64 wt, .int .i64 (WH : Int), .int .i64 RT, .int .i64 RJ, .slice A3 L k3] 45))
      have B3 := Lib.hid (bal (btr BW.out hb3) (.cells #[.int .i64 wt, .int .i64 (WH : Int), .int .i64 RT, .int .i64 RJ, .slice A3 L k3] 45))
      have RW3 := Lib.hid ((RW.out.below hb3).alloc (.cells #[.int .i64 wt, .int .i64 (WH : Int), .int .i64 RT, .int .i64 RJ, .slice A3 L k3] 45))
      have R3 := Lib.hid (q3.alloc (.cells #[.int .i64 wt, .int .i64 (WH : Int), .int .i64 RT, .int .i64 RJ, .slice A3 L k3] 45))
      have lW3 : W.heap.size ≤ w3.heap.size := hb3.size
      obtain ⟨x30, x31, x32, x33, x34⟩ := (c3.out.below hb3 c3.out.lt).cells
      clear o3 hb3 q3 x70 x71 x72 x73 x74
      have l33 : w.heap.size < w3.heap.size := by omega
      go_wp2_with fail
      refine (rRead_any wt WH rt RH A n c rs B m d ys T _ (H.out.below B3.out) (G.out.below B3.out) hT (by omega) (by omega) HRB.out (by omega)).mono ?_
      rintro e w4 ⟨v4, rfl, o4, hb4⟩
      rw [← HRT.out, ← HRJ.out, ← HP.out]
      rw [← HRS.out, ← HL.out] at o4
      obtain ⟨A4, k4, hv4, q4⟩ := RdI.of_own o4 IRS.out
      subst hv4
      have R4 := Lib.hid q4
      have O4 := Lib.hid (own_keepV O3.out fun k hk => hb4.block k (O3.out.lt k hk).2)
      have e8 := Lib.hid (d8.out.below hb4 d8.out.lt)
      have e3 := Lib.hid (d3.out.below hb4 d3.out.lt)
      have e7 := Lib.hid (d7.out.below hb4 d7.out.lt)
      have B4 := Lib.hid (btr B3.out hb4)
      have RW4 := Lib.hid (RW3.out.below hb4)
      have R34 := Lib.hid (R3.out.below hb4)
      have l44 : w3.heap.size < w4.heap.size := e8.out.lt
      clear o4 hb4 q4 d8 d3 d7 B3 RW3 R3 O3 x30 x31 x32 x33 x34
      obtain ⟨x80, x81, x82, x83, x84⟩ := e8.out.cells
      obtain ⟨x30, x31, x32, x33, x34⟩ := e3.out.cells
      obtain ⟨x70, x71, x72, x73, x74⟩ := e7.out.cells
      have l74 : g7 < w4.heap.size := e7.out.lt
      have l34 : w.heap.size < w4.heap.size := e3.out.lt
      go_wp2_with fail
      refine (SameShadow_yes wt WH RT RJ A3 L k3 A4 k4 RS _ (R34.out.alloc _) (R4.out.alloc _)).mono ?_
      rintro e w5 ⟨rfl, hb5⟩
      have f8 := Lib.hid ((e8.out.alloc _).below hb5 (by simp; omega))
      have f3 := Lib.hid ((e3.out.alloc _).below hb5 (by simp; omega))
      have f7 := Lib.hid ((e7.out.alloc _).below hb5 (by simp; omega))
      have B5 := Lib.hid (btr (bal B4.out _) hb5)
      have RW5 := Lib.hid ((RW4.out.alloc _).below hb5)
      have O5 := Lib.hid (own_keepV (O4.out.alloc _) fun k hk => hb5.block k ((O4.out.alloc _).lt k hk).2)
      have l85 : w3.heap.size < w5.heap.size := f8.out.lt
      have l75 : g7 < w5.heap.size := f7.out.lt
      have l35 : w.heap.size < w5.heap.size := f3.out.lt
      clear hb5 e8 e3 e7 B4 RW4 R34 R4 O4 x80 x81 x82 x83 x84 x30 x31 x32 x33 x34 x70 x71 x72 x73 x74 l44 l74 l34
      obtain ⟨x80, x81, x82, x83, x84⟩ := f8.out.cells
      obtain ⟨x30, x31, x32, x33, x34⟩ := f3.out.cells
      obtain ⟨x70, x71, x72, x73, x74⟩ := f7.out.cells
      go_wp2_with fail
      refine (SameShadow_yes wt WH rt RH A1 n c1 A c rs _ RW5.out (H.out.below B5.out)).mono ?_
      rintro e w6 ⟨rfl, hb6⟩
      have g8 := Lib.hid (f8.out.below hb6 l85)
      have g3 := Lib.hid (f3.out.below hb6 l35)
      have g77 := Lib.hid (f7.out.below hb6 l75)
      have B6 := Lib.hid (btr B5.out hb6)
      have RW6 := Lib.hid (RW5.out.below hb6)
      have O6 := Lib.hid (own_keepV O5.out fun k hk => hb6.block k (O5.out.lt k hk).2)
      have l86 : w3.heap.size < w6.heap.size := g8.out.lt
      have OW6 : Hid (∀ k, (Value.slice A3 L k3).ownBlock = some k → W.heap.size ≤ k ∧ k < w3.heap.size) := fun k hk => OB.out k hk
      clear hb6 f8 f3 f7 B5 RW5 O5 x80 x81 x82 x83 x84 x30 x31 x32 x33 x34 x70 x71 x72 x73 x74
      obtain ⟨x80, x81, x82, x83, x84⟩ := g8.out.cells
      go_wp2
      go_loopw [79] (fun i wr => ∃ k : Nat, k ≤ L ∧ i = .int .i64 k ∧ Hid (∃ zs, wr.ownsRow W.heap.size 3 1 (.slice A3 L k3) L (ints zs)) ∧ Hid (∀ b, b < w6.heap.size → (Value.slice A3 L k3).ownBlock ≠ some b → wr.heap[b]? = w6.heap[b]?) ∧ Below w.heap.size w wr ∧ w6.heap.size ≤ wr.heap.size) (fun i _ => L - (intOf i).toNat)
      case atStart => exact ⟨0, by omega, rfl, ⟨_, O6.out⟩, fun _ _ _ => rfl, B6.out, Nat.le_refl _⟩
      case round =>
        obtain ⟨k, hk, rfl, hO, hK, hBr, hzr⟩ := hrel
        have j8 : Hid (Blk5 wr w3.heap.size (.int .i64 wt) (.int .i64 (WH : Int)) (.int .i64 RT) (.int .i64 RJ) (.slice A3 L k3)) := (hK.out w3.heap.size l86 (fun hh => by have := OW6.out _ hh; omega)).trans g8.out
        have j3 : Hid (Blk5 wr w.heap.size (.int .i64 wt) (.int .i64 (WH : Int)) (.int .i64 rt) (.int .i64 (RH : Int)) (.slice A n c)) := (hK.out w.heap.size g3.out.lt (fun hh => by have := OW6.out _ hh; omega)).trans g3.out
        have j7 : Hid (Blk5 wr g7 (.int .i64 wt) (.int .i64 (WH : Int)) (.int .i64 rt) (.int .i64 (RH : Int)) (.slice A1 n c1)) := (hK.out g7 g77.out.lt (fun hh => by have := OW6.out _ hh; omega)).trans g77.out
        have jA : Hid (RdI wr A1 n c1 rs) := by
          obtain ⟨h1, h2, h3, h4, h5, h6⟩ := RW6.out
          refine ⟨h1, h2, h3, h4, fun hn => ?_, h6⟩
          obtain ⟨ad, e1, e2, e3⟩ := h5 hn
          obtain ⟨ad', e1', e2', _⟩ := RW.out.2.2.2.2.1 hn
          have : ad' = ad := by rw [e1] at e1'; injection e1' with h; exact h.symm
          subst this
          refine ⟨_, e1, by omega, fun j hj => ?_⟩
          rw [World.cell?_of_block (w := w6) (by
            have hbk : (ad'.add j).block = ad'.block := by unfold Addr.add; split <;> rfl
            rw [hbk]
            exact hK.out _ e2 (fun hh => by have := OW6.out _ hh; omega))]
          exact e3 j hj
        by_cases hkL : k < L
        · obtain ⟨zs, hzs⟩ := hO.out
          obtain ⟨gv, hJ, hgb, hgs⟩ := own_form hzs (by omega)
          subst hJ
          have hzl : (ints zs).length = L := by have := hzs.1; omega
          have hcell : ∃ u, wr.cell? ⟨gv, k, none⟩ = some u := by rw [hzs.cellAt k (by omega)]; exact ⟨_, List.getElem?_eq_getElem (by omega)⟩
          obtain ⟨u, hu⟩ := hcell
          have hfr := hzs.frozenAt k
          obtain ⟨y80, y81, y82, y83, y84⟩ := j8.out.cells
          have Z0 := Lib.hid hzs
          clear hzs hO hzl j3 j7 jA
          go_wp2
          go_roundw
          case rel =>
            refine ⟨k + 1, by omega, by go_num, ⟨_, by have := (Z0.out.stored k (.int .i64 (-3))).1; rw [ints_set] at this; exact this⟩, fun b hb hne => ?_, hBr.setCell (p := ⟨gv, k, none⟩) (show w.heap.size ≤ gv by have := BW.out.size; omega) _, by simpa [World.setCell] using hzr⟩
            rw [Below.heap_setCell _ _ _ _ (show b ≠ gv from fun hh => hne (by rw [hh]; rfl))]
            exact hK.out b hb hne
          case measure => simp [intOf]; omega
        · obtain ⟨x30, x31, x32, x33, x34⟩ := j3.out.cells
          obtain ⟨x70, x71, x72, x73, x74⟩ := j7.out.cells
          clear hO hK
          go_wp2_with fail
          refine (SameShadow_yes wt WH rt RH A1 n c1 A c rs _ jA.out (H.out.below hBr)).mono ?_
          rintro e w8 ⟨rfl, hb8⟩
          go_wp2_with fail
          refine (awake24_any _).mono ?_
          rintro e w9 ⟨rfl, hb9⟩
          go_wp2
          go_ret
          exact ⟨rfl, btr (btr hBr hb8) hb9⟩
    · have hbB : Below w1.heap.size w1 wA := (bal (Below.refl w1.heap.size w1) (.cells #[.int .i64 0, .int .i64 0, .int .i64 0, .int .i64 0, .slice none 0 0] 45)).trans ((show Below (w1.alloc (.cells #[.int .i64 0, .int .i64 0, .int .i64 0, .int .i64 0, .slice none 0 0] 45)).heap.size (w1.alloc (.cells #[.int .i64 0, .int .i64 0, .int .i64 0, .int .i64 0, .slice none 0 0] 45)) wA from ⟨hbA.os, hbA.tape, hbA.output, hbA.size, hbA.block⟩).mono (by simp))
      obtain ⟨W, hW⟩ : ∃ W, W = put5 wA w1.heap.size (.int .i64 wt) (.int .i64 (WH : Int)) (.int .i64 rt) (.int .i64 (RH : Int)) (.slice A1 n c1) := ⟨_, rfl⟩
      obtain ⟨g7, hg7⟩ : ∃ g, g = w1.heap.size := ⟨_, rfl⟩
      rw [show (((((wA.setCell ⟨w1.heap.size, 0, none⟩ (.int .i64 wt)).setCell ⟨w1.heap.size, 1, none⟩ (.int .i64 (WH : Int))).setCell ⟨w1.heap.size, 2, none⟩ (.int .i64 rt)).setCell ⟨w1.heap.size, 3, none⟩ (.int .i64 (RH : Int))).setCell ⟨w1.heap.size, 4, none⟩ (.slice A1 n c1)) = W from hW.symm, ← hg7]
      have c3 : Hid (Blk5 W w.heap.size (.int .i64 wt) (.int .i64 (WH : Int)) (.int .i64 rt) (.int .i64 (RH : Int)) (.slice A n c)) := by rw [hW]; exact (put5_heap _ _ _ _ _ _ _ _ hne13).trans (b3.out.below hbB l3)
      have c7 : Hid (Blk5 W g7 (.int .i64 wt) (.int .i64 (WH : Int)) (.int .i64 rt) (.int .i64 (RH : Int)) (.slice A1 n c1)) := by rw [hW, hg7]; exact put5_blk d10.out _ _ _ _ _
      have hg : w.heap.size < g7 := by omega
      have BW : Hid (Below w.heap.size w W) := by rw [hW]; exact put5_below (btr B1.out hbB) (by omega) _ _ _ _ _
      have OW : Hid (W.ownsRow w.heap.size 3 1 (.slice A1 n c1) n (ints rs)) := by
        rw [hW]
        refine own_keepV (own_base O1.out (by simp; omega)) fun k hk => put5_heap _ _ _ _ _ _ _ _ ?_
        have h1 : w1.heap.size + 1 ≤ k := by simpa using (O1.out.lt k hk).1
        omega
      clear hW hg7 hbA hbB O1 b3 B1 x30 x31 x32 x33 x34 q30 q31 q32 q33 q34 z30 z31 z32 z33 z34 HW HW2 hne13 d10 y0 y1 y2 y3 y4 v0 v1 v2 v3 v4
      obtain ⟨_, _, hv, rW⟩ := RdI.of_own OW.out H.out.inI
      injection hv with e1 _ e3
      subst e1 e3
      have RW := Lib.hid rW
      clear rW
      obtain ⟨x70, x71, x72, x73, x74⟩ := c7.out.cells
      have l7 : g7 < W.heap.size := c7.out.lt
      go_wp2_with fail
      refine (Read_any wt WH rt RH A1 n c1 rs B m d ys T W RW.out (G.out.below BW.out) hT (by omega) (by omega) (by omega) (by omega) (by omega)).mono ?_
      rintro e w3 ⟨v3, rfl, o3, hb3⟩
      obtain ⟨RT, hRT⟩ : ∃ q, q = readRt rs rt RH ys T := ⟨_, rfl⟩
      obtain ⟨RJ, hRJ⟩ : ∃ q, q = readRh rs rt RH ys T := ⟨_, rfl⟩
      obtain ⟨RS, hRS⟩ : ∃ q, q = readRs rs rt RH ys T := ⟨_, rfl⟩
      obtain ⟨p, hp⟩ : ∃ p, p = coversC ys wt WH := ⟨_, rfl⟩
      have IRS : Hid (InI RS) := by rw [hRS]; exact readRs_in H.out.inI G.out.inI HRB.out
      have LRS : RS.length ≤ 64 := by rw [hRS]; exact readRs_len (by rw [H.out.1]; omega) hT (by omega) (by omega)
      rw [← hRT, ← hRJ, ← hp]
      rw [← hRS] at o3
      have HRT := Lib.hid hRT
      have HRJ := Lib.hid hRJ
      have HRS := Lib.hid hRS
      have HP := Lib.hid hp
      clear hRT hRJ hRS hp
      obtain ⟨L, hL⟩ : ∃ L, L = RS.length := ⟨_, rfl⟩
      rw [← hL] at o3 LRS
      have HL := Lib.hid hL
      clear hL
      obtain ⟨A3, k3, hv3, q3⟩ := RdI.of_own o3 IRS.out
      subst hv3
      have O3base := fun k hk => (⟨(o3.lt k hk).1, (o3.lt k hk).2⟩ : W.heap.size ≤ k ∧ k < w3.heap.size)
      have OB := Lib.hid O3base
      clear O3base
      have O3 := Lib.hid (o3.alloc (.cells #[.int .i64 wt, .int .i64 (WH : Int), .int .i64 RT, .int .i64 RJ, .slice A3 L k3] 45))
      have d8 := Lib.hid (Blk5.new w3 (.int .i64 wt) (.int .i64 (WH : Int)) (.int .i64 RT) (.int .i64 RJ) (.slice A3 L k3))
      have d3 := Lib.hid ((c3.out.below hb3 c3.out.lt).alloc (.cells #[.int .i64 wt, .int .i64 (WH : Int), .int .i64 RT, .int .i64 RJ, .slice A3 L k3] 45))
      have d7 := Lib.hid ((c7.out.below hb3 c7.out.lt).alloc (.cells #[.int .i64 wt, .int .i64 (WH : Int), .int .i64 RT, .int .i64 RJ, .slice A3 L k3] 45))
      have B3 := Lib.hid (bal (btr BW.out hb3) (.cells #[.int .i64 wt, .int .i64 (WH : Int), .int .i64 RT, .int .i64 RJ, .slice A3 L k3] 45))
      have RW3 := Lib.hid ((RW.out.below hb3).alloc (.cells #[.int .i64 wt, .int .i64 (WH : Int), .int .i64 RT, .int .i64 RJ, .slice A3 L k3] 45))
      have R3 := Lib.hid (q3.alloc (.cells #[.int .i64 wt, .int .i64 (WH : Int), .int .i64 RT, .int .i64 RJ, .slice A3 L k3] 45))
      have lW3 : W.heap.size ≤ w3.heap.size := hb3.size
      obtain ⟨x30, x31, x32, x33, x34⟩ := (c3.out.below hb3 c3.out.lt).cells
      clear o3 hb3 q3 x70 x71 x72 x73 x74
      have l33 : w.heap.size < w3.heap.size := by omega
      go_wp2_with fail
      refine (rRead_any wt WH rt RH A n c rs B m d ys T _ (H.out.below B3.out) (G.out.below B3.out) hT (by omega) (by omega) HRB.out (by omega)).mono ?_
      rintro e w4 ⟨v4, rfl, o4, hb4⟩
      rw [← HRT.out, ← HRJ.out, ← HP.out]
      rw [← HRS.out, ← HL.out] at o4
      obtain ⟨A4, k4, hv4, q4⟩ := RdI.of_own o4 IRS.out
      subst hv4
      have R4 := Lib.hid q4
      have O4 := Lib.hid (own_keepV O3.out fun k hk => hb4.block k (O3.out.lt k hk).2)
      have e8 := Lib.hid (d8.out.below hb4 d8.out.lt)
      have e3 := Lib.hid (d3.out.below hb4 d3.out.lt)
      have e7 := Lib.hid (d7.out.below hb4 d7.out.lt)
      have B4 := Lib.hid (btr B3.out hb4)
      have RW4 := Lib.hid (RW3.out.below hb4)
      have R34 := Lib.hid (R3.out.below hb4)
      have l44 : w3.heap.size < w4.heap.size := e8.out.lt
      clear o4 hb4 q4 d8 d3 d7 B3 RW3 R3 O3 x30 x31 x32 x33 x34
      obtain ⟨x80, x81, x82, x83, x84⟩ := e8.out.cells
      obtain ⟨x30, x31, x32, x33, x34⟩ := e3.out.cells
      obtain ⟨x70, x71, x72, x73, x74⟩ := e7.out.cells
      have l74 : g7 < w4.heap.size := e7.out.lt
      have l34 : w.heap.size < w4.heap.size := e3.out.lt
      go_wp2_with fail
      refine (SameShadow_yes wt WH RT RJ A3 L k3 A4 k4 RS _ (R34.out.alloc _) (R4.out.alloc _)).mono ?_
      rintro e w5 ⟨rfl, hb5⟩
      have f8 := Lib.hid ((e8.out.alloc _).below hb5 (by simp; omega))
      have f3 := Lib.hid ((e3.out.alloc _).below hb5 (by simp; omega))
      have f7 := Lib.hid ((e7.out.alloc _).below hb5 (by simp; omega))
      have B5 := Lib.hid (btr (bal B4.out _) hb5)
      have RW5 := Lib.hid ((RW4.out.alloc _).below hb5)
      have O5 := Lib.hid (own_keepV (O4.out.alloc _) fun k hk => hb5.block k ((O4.out.alloc _).lt k hk).2)
      have l85 : w3.heap.size < w5.heap.size := f8.out.lt
      have l75 : g7 < w5.heap.size := f7.out.lt
      have l35 : w.heap.size < w5.heap.size := f3.out.lt
      clear hb5 e8 e3 e7 B4 RW4 R34 R4 O4 x80 x81 x82 x83 x84 x30 x31 x32 x33 x34 x70 x71 x72 x73 x74 l44 l74 l34
      obtain ⟨x80, x81, x82, x83, x84⟩ := f8.out.cells
      obtain ⟨x30, x31, x32, x33, x34⟩ := f3.out.cells
      obtain ⟨x70, x71, x72, x73, x74⟩ := f7.out.cells
      go_wp2_with fail
      refine (SameShadow_yes wt WH rt RH A1 n c1 A c rs _ RW5.out (H.out.below B5.out)).mono ?_
      rintro e w6 ⟨rfl, hb6⟩
      have g8 := Lib.hid (f8.out.below hb6 l85)
      have g3 := Lib.hid (f3.out.below hb6 l35)
      have g77 := Lib.hid (f7.out.below hb6 l75)
      have B6 := Lib.hid (btr B5.out hb6)
      have RW6 := Lib.hid (RW5.out.below hb6)
      have O6 := Lib.hid (own_keepV O5.out fun k hk => hb6.block k (O5.out.lt k hk).2)
      have l86 : w3.heap.size < w6.heap.size := g8.out.lt
      have OW6 : Hid (∀ k, (Value.slice A3 L k3).ownBlock = some k → W.heap.size ≤ k ∧ k < w3.heap.size) := fun k hk => OB.out k hk
      clear hb6 f8 f3 f7 B5 RW5 O5 x80 x81 x82 x83 x84 x30 x31 x32 x33 x34 x70 x71 x72 x73 x74
      obtain ⟨x80, x81, x82, x83, x84⟩ := g8.out.cells
      go_wp2
      go_loopw [79] (fun i wr => ∃ k : Nat, k ≤ L ∧ i = .int .i64 k ∧ Hid (∃ zs, wr.ownsRow W.heap.size 3 1 (.slice A3 L k3) L (ints zs)) ∧ Hid (∀ b, b < w6.heap.size → (Value.slice A3 L k3).ownBlock ≠ some b → wr.heap[b]? = w6.heap[b]?) ∧ Below w.heap.size w wr ∧ w6.heap.size ≤ wr.heap.size) (fun i _ => L - (intOf i).toNat)
      case atStart => exact ⟨0, by omega, rfl, ⟨_, O6.out⟩, fun _ _ _ => rfl, B6.out, Nat.le_refl _⟩
      case round =>
        obtain ⟨k, hk, rfl, hO, hK, hBr, hzr⟩ := hrel
        have j8 : Hid (Blk5 wr w3.heap.size (.int .i64 wt) (.int .i64 (WH : Int)) (.int .i64 RT) (.int .i64 RJ) (.slice A3 L k3)) := (hK.out w3.heap.size l86 (fun hh => by have := OW6.out _ hh; omega)).trans g8.out
        have j3 : Hid (Blk5 wr w.heap.size (.int .i64 wt) (.int .i64 (WH : Int)) (.int .i64 rt) (.int .i64 (RH : Int)) (.slice A n c)) := (hK.out w.heap.size g3.out.lt (fun hh => by have := OW6.out _ hh; omega)).trans g3.out
        have j7 : Hid (Blk5 wr g7 (.int .i64 wt) (.int .i64 (WH : Int)) (.int .i64 rt) (.int .i64 (RH : Int)) (.slice A1 n c1)) := (hK.out g7 g77.out.lt (fun hh => by have := OW6.out _ hh; omega)).trans g77.out
        have jA : Hid (RdI wr A1 n c1 rs) := by
          obtain ⟨h1, h2, h3, h4, h5, h6⟩ := RW6.out
          refine ⟨h1, h2, h3, h4, fun hn => ?_, h6⟩
          obtain ⟨ad, e1, e2, e3⟩ := h5 hn
          obtain ⟨ad', e1', e2', _⟩ := RW.out.2.2.2.2.1 hn
          have : ad' = ad := by rw [e1] at e1'; injection e1' with h; exact h.symm
          subst this
          refine ⟨_, e1, by omega, fun j hj => ?_⟩
          rw [World.cell?_of_block (w := w6) (by
            have hbk : (ad'.add j).block = ad'.block := by unfold Addr.add; split <;> rfl
            rw [hbk]
            exact hK.out _ e2 (fun hh => by have := OW6.out _ hh; omega))]
          exact e3 j hj
        by_cases hkL : k < L
        · obtain ⟨zs, hzs⟩ := hO.out
          obtain ⟨gv, hJ, hgb, hgs⟩ := own_form hzs (by omega)
          subst hJ
          have hzl : (ints zs).length = L := by have := hzs.1; omega
          have hcell : ∃ u, wr.cell? ⟨gv, k, none⟩ = some u := by rw [hzs.cellAt k (by omega)]; exact ⟨_, List.getElem?_eq_getElem (by omega)⟩
          obtain ⟨u, hu⟩ := hcell
          have hfr := hzs.frozenAt k
          obtain ⟨y80, y81, y82, y83, y84⟩ := j8.out.cells
          have Z0 := Lib.hid hzs
          clear hzs hO hzl j3 j7 jA
          go_wp2
          go_roundw
          case rel =>
            refine ⟨k + 1, by omega, by go_num, ⟨_, by have := (Z0.out.stored k (.int .i64 (-3))).1; rw [ints_set] at this; exact this⟩, fun b hb hne => ?_, hBr.setCell (p := ⟨gv, k, none⟩) (show w.heap.size ≤ gv by have := BW.out.size; omega) _, by simpa [World.setCell] using hzr⟩
            rw [Below.heap_setCell _ _ _ _ (show b ≠ gv from fun hh => hne (by rw [hh]; rfl))]
            exact hK.out b hb hne
          case measure => simp [intOf]; omega
        · obtain ⟨x30, x31, x32, x33, x34⟩ := j3.out.cells
          obtain ⟨x70, x71, x72, x73, x74⟩ := j7.out.cells
          clear hO hK
          go_wp2_with fail
          refine (SameShadow_yes wt WH rt RH A1 n c1 A c rs _ jA.out (H.out.below hBr)).mono ?_
          rintro e w8 ⟨rfl, hb8⟩
          go_wp2_with fail
          refine (awake24_any _).mono ?_
          rintro e w9 ⟨rfl, hb9⟩
          go_wp2
          go_ret
          exact ⟨rfl, btr (btr hBr hb8) hb9⟩

end Go.Proofs.Ytngfjoifkolaiaa
