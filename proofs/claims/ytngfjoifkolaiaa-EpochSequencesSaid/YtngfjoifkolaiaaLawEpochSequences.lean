/-
  The statement EpochSequences returns true for every input: the walk. No condition.
-/
import Derived.Test.YtngfjoifkolaiaaEpSeq
import Derived.Deep.DeepCutAuto
namespace Go.Proofs.Ytngfjoifkolaiaa
open Go.RowKit

set_option maxRecDepth 100000 in
set_option maxHeartbeats 8000000 in
theorem EpochSequences_walk (A : Option Addr) (n c : Nat) (xs : List (Int × Int × Int)) (w : World) (h : RdU3 w A n c xs) :
    Calls Try.prog 16 #[.slice A n c] w fun e w' => e = .returned (.bool true) ∧ Below w.heap.size w w' := by
  have hn : n ≤ 9223372036854775807 := by have h1 := h.2.1; have h2 := h.2.2.1; unfold maxLen at h2; omega
  have H := Lib.hid h
  clear h
  have hmk := made44
  go_enter Try.func16, Try.ntmps16
  go_wp2
  clear hmk
  go_loopw [16] (fun i wr => ∃ (k : Nat) (f : Nat → Value) (cl : Nat → List Int) (wt wh rt rh : Int) (A1 : Option Addr) (n1 c1 : Nat) (B1 : Option Addr) (d1 : Nat) (rs : List Int), k ≤ n ∧ k ≤ 60 ∧ i = .int .i64 k ∧
      Hid (St wr w.heap.size f cl) ∧ Hid (ShOk (w.heap.size + 3) wr (w.heap.size + 1) wt wh rt rh A1 n1 c1 rs) ∧ Hid (ShOk (w.heap.size + 3) wr (w.heap.size + 1 + 1) wt wh rt rh B1 n1 d1 rs) ∧ Below w.heap.size w wr) (fun i _ => n - (intOf i).toNat)
  case atStart =>
    refine ⟨0, fun _ => .slice none 0 0, fun _ => [], 0, 0, 0, 0, none, 0, 0, none, 0, [], by omega, by omega, rfl, ⟨?_, fun i _ => ⟨none, 0, rfl, RdO.nil_ _ _, by simp⟩⟩, ⟨?_, RdO.nil_ _ _, by omega, by omega, by simp⟩, ⟨?_, RdO.nil_ _ _, by omega, by omega, by simp⟩, bal (bal (bal (Below.refl _ _) _) _) _⟩
    · exact Blk4.alloc (Blk4.alloc (show Blk4 (w.alloc (.cells #[.slice none 0 0, .slice none 0 0, .slice none 0 0, .slice none 0 0] 22)) w.heap.size (fun _ => .slice none 0 0) from heap_alloc_new w _) _) _
    · exact Blk5.alloc (by simpa using Blk5.new (w.alloc _) (.int .i64 0) (.int .i64 0) (.int .i64 0) (.int .i64 0) (.slice none 0 0)) _
    · have := Blk5.new ((w.alloc (.cells #[.slice none 0 0, .slice none 0 0, .slice none 0 0, .slice none 0 0] 22)).alloc (.cells #[.int .i64 0, .int .i64 0, .int .i64 0, .int .i64 0, .slice none 0 0] 45)) (.int .i64 0) (.int .i64 0) (.int .i64 0) (.int .i64 0) (.slice none 0 0)
      simpa using this
  case round =>
    obtain ⟨k, f, cl, wt, wh, rt, rh, A1, n1, c1, B1, d1, rs, hkn, hk60, rfl, ST, SA, SB, hB⟩ := hrel
    by_cases hlt : k < n
    · obtain ⟨ad, b0, b1, b2, rfl, hb0, hb1, hb2, hx0, hx1, hx2⟩ := H.out.at_ hB hlt
      obtain ⟨hb00, hb01⟩ := hb0
      obtain ⟨hb10, hb11⟩ := hb1
      obtain ⟨hb20, hb21⟩ := hb2
      by_cases h60 : k < 60
      · go_wp2
        obtain ⟨T, eT⟩ : ∃ T : Nat, b0 % 4 = (T : Int) := ⟨(b0 % 4).toNat, by omega⟩
        obtain ⟨U, eU⟩ : ∃ U : Nat, b1 % 4 = (U : Int) := ⟨(b1 % 4).toNat, by omega⟩
        have hT : T < 4 := by omega
        have hU : U < 4 := by omega
        have hT' : (T : Int) < 4 := by omega
        have hU' : (U : Int) < 4 := by omega
        rw [eT]
        have m1 : b1.tmod 4 = (U : Int) := by rw [Int.tmod_eq_emod_of_nonneg hb10]; exact eU
        have m2 : IntKind.i64.wrap b1 = b1 := IntWalk.i64_in _ (by omega)
        have m3 : wrap64 b1 = b1 := IntWalk.wrap64_in _ (by omega)
        obtain ⟨AT, cT, efT, rT, lT⟩ := ST.out.cs T hT
        obtain ⟨AU, cU, efU, rU, lU⟩ := ST.out.cs U hU
        have xT := ST.out.ck.cell hT
        have xU := ST.out.ck.cell hU
        rw [efT] at xT
        rw [efU] at xU
        have fT := ST.out.ck.frozen T
        have gl := ST.out.ck.lt
        have RT : Hid (RdI (wr.alloc (.cells #[.int .u8 b0, .int .u8 b1, .int .u8 b2] 53)).drew AT (cl T).length cT (cl T)) := (rT.1.alloc _).drewN 0
        have RU : Hid (RdI (wr.alloc (.cells #[.int .u8 b0, .int .u8 b1, .int .u8 b2] 53)).drew AU (cl U).length cU (cl U)) := (rU.1.alloc _).drewN 0
        obtain ⟨nT, hnT⟩ : ∃ q, q = (cl T).length := ⟨_, rfl⟩
        obtain ⟨nU, hnU⟩ : ∃ q, q = (cl U).length := ⟨_, rfl⟩
        rw [← hnT] at xT lT
        rw [← hnU] at xU lU
        have HnT := Lib.hid hnT
        have HnU := Lib.hid hnU
        rw [← hnT] at RT
        rw [← hnU] at RU
        have XT : Hid ((wr.alloc (.cells #[.int .u8 b0, .int .u8 b1, .int .u8 b2] 53)).drew.cell? ⟨w.heap.size, T, none⟩ = some (.slice AT nT cT)) := alx xT
        have FT : Hid ((wr.alloc (.cells #[.int .u8 b0, .int .u8 b1, .int .u8 b2] 53)).drew.frozen? ⟨w.heap.size, T, none⟩ = false) := (Blk4.frozen (f := f) (show Blk4 (wr.alloc (.cells #[.int .u8 b0, .int .u8 b1, .int .u8 b2] 53)).drew w.heap.size f from ST.out.ck.alloc _) T)
        have LJ := Lib.hid (join_len_le (xs := cl T) (ys := cl U) (k := 4) (by omega) (by omega))
        have IJ := Lib.hid (joinC_in rT.1.inI rU.1.inI)
        clear eT eU efT efU rT rU hnT hnU hx0 hx1 hx2 H
        have HX : Hid (Below wr.heap.size wr (wr.alloc (.cells #[.int .u8 b0, .int .u8 b1, .int .u8 b2] 53)).drew) := (bal (Below.refl wr.heap.size wr) _).drew
        have cx2 : Hid ((wr.alloc (.cells #[.int .u8 b0, .int .u8 b1, .int .u8 b2] 53)).drew.cell? ⟨wr.heap.size, 2, none⟩ = some (.int .u8 b2)) := World.cell?_alloc_at _ _ _ _ rfl
        go_cut [] (fun wx => ∃ (f' : Nat → Value) (cl' : Nat → List Int), Hid (St wx w.heap.size f' cl') ∧ Hid (ShOk (w.heap.size + 3) wx (w.heap.size + 1) wt wh rt rh A1 n1 c1 rs) ∧ Hid (ShOk (w.heap.size + 3) wx (w.heap.size + 1 + 1) wt wh rt rh B1 n1 d1 rs) ∧ Below w.heap.size w wx ∧ wx.cell? ⟨wr.heap.size, 2, none⟩ = some (.int .u8 b2))
        case first =>
         go_region_with (first
            | (go_at_call 25; refine (rJoin_any AT nT cT (cl T) AU nU cU (cl U) _ ?_ ?_ ?_ ?_).mono ?_; (exact RT.out); (exact RU.out); omega; omega; rintro e wA ⟨vA, rfl, oA, hbA⟩; obtain ⟨AJ, cJ, hvJ, rJ⟩ := RdI.of_own oA IJ.out; subst hvJ; have RJ := Lib.hid rJ; have xA := below_cell hbA XT.out; have fA := below_frozen hbA XT.out FT.out; clear oA rJ)
            | (go_at_call 37; refine (rTick_any AJ _ cJ (joinC (cl T) (cl U)) T _ ?_ ?_).mono ?_; (exact RJ.out); (have := LJ.out; omega); rintro e wB ⟨vB, rfl, oB, hbB⟩; obtain ⟨AK, cK, hvK, rK⟩ := RdI.of_own oB (tickC_in IJ.out T); subst hvK; have OB := Lib.hid oB; have xB := below_cell hbB xA; have fB := below_frozen hbB xA fA; clear oB))
         all_goals
           go_wp2_with fail
           go_meet
           have hbw : Below wr.heap.size wr wB := btr (btr HX.out hbA) hbB
           have lB := SB.out.1.lt
           have hsA : w.heap.size + 3 ≤ wA.heap.size := by
             have h1 : wr.heap.size ≤ wA.heap.size := (btr HX.out hbA).size
             omega
           obtain ⟨_, _, hvv, rO⟩ := RdO.of_own (B0 := w.heap.size + 3) OB.out (tickC_in IJ.out T) hsA
           injection hvv with e1 _ e3
           subst e1 e3
           refine ⟨_, _, (ST.out.below hbw).set_ hT rfl rO (tick_len_le LJ.out (Nat.le_refl _)), (SA.out.below hbw).setCell (by omega) (by omega) _, (SB.out.below hbw).setCell (by omega) (by omega) _, (btr hB hbw).setCell (p := ⟨w.heap.size, T, none⟩) (Nat.le_refl _) _, ?_⟩
           rw [World.cell?_setCell_other _ _ _ _ (fun hh => by injection hh with hh1; omega)]
           exact below_cell hbB (below_cell hbA cx2.out)
        case rest =>
          obtain ⟨f', cl', ST0, SA0, SB0, hb0w, hx2⟩ := hcut
          obtain ⟨wc0, hwc⟩ : ∃ W, W = wc := ⟨_, rfl⟩
          subst hwc
          clear HX cx2 RT RU XT FT LJ IJ xT xU fT HnT HnU m1 m2 m3 ST SA SB lT lU
          by_cases h3 : b2 % 3 = 0
          · have h3' : (b2 % 3 == 0) = true := by simp [h3]
            clear h3
            go_wp2
            have lb0 := SB0.out.1.lt
            have L64 : n1 ≤ 65536 := by rw [← SA0.out.2.1.1.1]; have := SA0.out.2.2.2.2; omega
            have HH := Lib.hid SA0.out.2.2.1
            have HRR := Lib.hid SA0.out.2.2.2.1
            obtain ⟨q, hq⟩ : ∃ q, (coversC (cl' T) wt wh && coversC (cl' T) rt rh && leqC rs (cl' T)) = q := ⟨_, rfl⟩
            have HQ := Lib.hid hq
            have AB := Lib.hid (show -9223372036854775808 ≤ atC (cl' T) T ∧ atC (cl' T) T ≤ 9223372036854775807 from by obtain ⟨A9, c9, _, r9, _⟩ := ST0.out.cs T hT; exact atC_in r9.1.inI T)
            clear hq
            obtain ⟨AT, cT, efT, rT, lT⟩ := ST0.out.cs T hT
            have xT := ST0.out.ck.cell hT
            rw [efT] at xT
            obtain ⟨y0, y1, y2, y3, y4⟩ := SA0.out.1.cells
            have RT : Hid (RdI wc0.drew AT (cl' T).length cT (cl' T)) := rT.1.drewN 0
            have RM : Hid (RdI wc0.drew A1 n1 c1 rs) := SA0.out.2.1.1.drewN 0
            obtain ⟨nT, hnT⟩ : ∃ q, q = (cl' T).length := ⟨_, rfl⟩
            rw [← hnT] at xT RT
            clear efT rT lT hnT
            go_cut [9] (fun s9 wx => s9 = .bool (!q) ∧ Hid (St wx w.heap.size f' cl') ∧ Hid (ShOk (w.heap.size + 3) wx (w.heap.size + 1) (atC (cl' T) T) T 0 0 none 0 0 []) ∧ Hid (ShOk (w.heap.size + 3) wx (w.heap.size + 1 + 1) wt wh rt rh B1 n1 d1 rs) ∧ Below w.heap.size w wx)
            case first =>
              go_region_with (first
                | (go_at_call 44; refine (Write_any wt wh rt rh A1 n1 c1 rs AT nT cT (cl' T) T _ ?_ ?_ (by omega) (by omega) HH.out.1 HH.out.2.1 HH.out.2.2.1 HH.out.2.2.2).mono ?_; (exact RM.out); (exact RT.out); rintro e wA ⟨rfl, hbA⟩; rw [HQ.out]; have SM := Lib.hid (SA0.out.below (show Below wc0.heap.size wc0 wA from ⟨hbA.os, hbA.tape, hbA.output, hbA.size, hbA.block⟩)); obtain ⟨u0, u1, u2, u3, u4⟩ := SM.out.1.cells; obtain ⟨v0, v1, v2, v3, v4⟩ := SM.out.1.frozen; have lM := SM.out.1.lt))
              all_goals
                go_wp2_with fail
                go_meet
                have hbW : Below wc0.heap.size wc0 wA := ⟨hbA.os, hbA.tape, hbA.output, hbA.size, hbA.block⟩
                exact ⟨rfl, (ST0.out.below hbW).putFar (by omega) (by omega) _ _ _ _ _, ShOk.new_ SM.out.1 (by omega) (RdO.nil_ _ _) (by omega) (by omega) (by simp), (SB0.out.below hbW).putFar (by omega) (by omega) _ _ _ _ _, put5_below (btr hb0w hbW) (by omega) _ _ _ _ _⟩
            case rest =>
              obtain ⟨rfl, ST1, SA1, SB1, hb1w⟩ := hcut
              obtain ⟨wc1, hwc⟩ : ∃ W, W = wc := ⟨_, rfl⟩
              subst hwc
              clear xT y0 y1 y2 y3 y4 RT RM
              have lb1 := SB1.out.1.lt
              go_wp2
              obtain ⟨AT, cT, efT, rT, lT⟩ := ST1.out.cs T hT
              have xT := ST1.out.ck.cell hT
              rw [efT] at xT
              obtain ⟨y0, y1, y2, y3, y4⟩ := SB1.out.1.cells
              have RT : Hid (RdI wc1.drew AT (cl' T).length cT (cl' T)) := rT.1.drewN 0
              have RM : Hid (RdI wc1.drew B1 n1 d1 rs) := SB1.out.2.1.1.drewN 0
              obtain ⟨nT, hnT⟩ : ∃ q, q = (cl' T).length := ⟨_, rfl⟩
              rw [← hnT] at xT RT
              clear efT rT lT hnT
              go_cut [10] (fun s10 wx => s10 = .bool (!q) ∧ Hid (St wx w.heap.size f' cl') ∧ Hid (ShOk (w.heap.size + 3) wx (w.heap.size + 1 + 1) (atC (cl' T) T) T 0 0 none 0 0 []) ∧ Hid (ShOk (w.heap.size + 3) wx (w.heap.size + 1) (atC (cl' T) T) T 0 0 none 0 0 []) ∧ Below w.heap.size w wx)
              case first =>
                go_region_with (first
                  | (go_at_call 45; refine (rWrite_any wt wh rt rh B1 n1 d1 rs AT nT cT (cl' T) T _ ?_ ?_).mono ?_; (exact RM.out); (exact RT.out); rintro e wA ⟨rfl, hbA⟩; rw [HQ.out]; have SM := Lib.hid (SB1.out.below (show Below wc1.heap.size wc1 wA from ⟨hbA.os, hbA.tape, hbA.output, hbA.size, hbA.block⟩)); obtain ⟨u0, u1, u2, u3, u4⟩ := SM.out.1.cells; obtain ⟨v0, v1, v2, v3, v4⟩ := SM.out.1.frozen; have lM := SM.out.1.lt))
                all_goals
                  go_wp2_with fail
                  go_meet
                  have hbW : Below wc1.heap.size wc1 wA := ⟨hbA.os, hbA.tape, hbA.output, hbA.size, hbA.block⟩
                  exact ⟨rfl, (ST1.out.below hbW).putFar (by omega) (by omega) _ _ _ _ _, ShOk.new_ SM.out.1 (by omega) (RdO.nil_ _ _) (by omega) (by omega) (by simp), (SA1.out.below hbW).putFar (by omega) (by omega) _ _ _ _ _, put5_below (btr hb1w hbW) (by omega) _ _ _ _ _⟩
              case rest =>
                obtain ⟨rfl, ST2, SB2, SA2, hb2w⟩ := hcut
                obtain ⟨wc2, hwc⟩ : ∃ W, W = wc := ⟨_, rfl⟩
                subst hwc
                clear xT y0 y1 y2 y3 y4 RT RM
                have lb2 := SB2.out.1.lt
                obtain ⟨y0, y1, y2, y3, y4⟩ := SA2.out.1.cells
                obtain ⟨z0, z1, z2, z3, z4⟩ := SB2.out.1.cells
                go_wp2_with fail
                refine (SameShadow_yes (atC (cl' T) T) T 0 0 none 0 0 none 0 [] _ SA2.out.2.1.1 SB2.out.2.1.1).mono ?_
                rintro e w3 ⟨rfl, hb3⟩
                clear y0 y1 y2 y3 y4 z0 z1 z2 z3 z4
                go_wp2
                go_roundw
                case rel => exact ⟨k + 1, f', cl', atC (cl' T) T, T, 0, 0, none, 0, 0, none, 0, [], by omega, by omega, by go_num, ST2.out.below hb3, SA2.out.below hb3, SB2.out.below hb3, btr hb2w hb3⟩
                case measure => simp [intOf]; omega
          · have h3' : (b2 % 3 == 0) = false := by simp [h3]
            clear h3
            go_wp2
            have lb0 := SB0.out.1.lt
            have L64 : n1 ≤ 65536 := by rw [← SA0.out.2.1.1.1]; have := SA0.out.2.2.2.2; omega
            have HH := Lib.hid SA0.out.2.2.1
            have HRR := Lib.hid SA0.out.2.2.2.1
            obtain ⟨p, hp⟩ : ∃ p, p = coversC (cl' T) wt wh := ⟨_, rfl⟩
            obtain ⟨RT1, hRT⟩ : ∃ q, q = readRt rs rt rh (cl' T) T := ⟨_, rfl⟩
            obtain ⟨RJ, hRJ⟩ : ∃ q, q = readRh rs rt rh (cl' T) T := ⟨_, rfl⟩
            obtain ⟨RS, hRS⟩ : ∃ q, q = readRs rs rt rh (cl' T) T := ⟨_, rfl⟩
            obtain ⟨A9, c9, h9, r9, l9⟩ := ST0.out.cs T hT
            have IRS : Hid (InI RS) := by rw [hRS]; exact readRs_in SA0.out.2.1.1.inI r9.1.inI HRR.out
            have LRS : RS.length ≤ 64 := by rw [hRS]; exact readRs_len SA0.out.2.2.2.2 hT HH.out.2.2.2 (by omega)
            have HTT : Hid (-9223372036854775808 ≤ RT1 ∧ RT1 ≤ 9223372036854775807) := by
              show _ ∧ _
              have q1 := HRR.out
              have q2 := atC_in r9.1.inI T
              rw [hRT]; unfold readRt; split
              · split
                · exact q2
                · omega
              · exact q1
            have HJJ : Hid (0 ≤ wh ∧ wh < 4 ∧ 0 ≤ RJ ∧ RJ < 4) := by
              show _ ∧ _
              have q1 := HH.out
              refine ⟨q1.1, q1.2.1, ?_⟩
              rw [hRJ]; unfold readRh; split
              · split <;> omega
              · exact q1.2.2
            have HP := Lib.hid hp
            have HRT := Lib.hid hRT
            have HRJ := Lib.hid hRJ
            have HRS := Lib.hid hRS
            clear hp hRT hRJ hRS r9 l9 h9
            obtain ⟨L, hL⟩ : ∃ L, L = RS.length := ⟨_, rfl⟩
            have HL := Lib.hid hL
            clear hL
            obtain ⟨AT, cT, efT, rT, lT⟩ := ST0.out.cs T hT
            have xT := ST0.out.ck.cell hT
            rw [efT] at xT
            obtain ⟨y0, y1, y2, y3, y4⟩ := SA0.out.1.cells
            have RT : Hid (RdI wc0.drew AT (cl' T).length cT (cl' T)) := rT.1.drewN 0
            have RM : Hid (RdI wc0.drew A1 n1 c1 rs) := SA0.out.2.1.1.drewN 0
            obtain ⟨nT, hnT⟩ : ∃ q, q = (cl' T).length := ⟨_, rfl⟩
            rw [← hnT] at xT RT
            clear efT rT lT hnT
            go_cut [9] (fun s9 wx => ∃ (A2 : Option Addr) (c2 : Nat), s9 = .bool (!p) ∧ Hid (St wx w.heap.size f' cl') ∧ Hid (ShOk (w.heap.size + 3) wx (w.heap.size + 1) wt wh RT1 RJ A2 L c2 RS) ∧ Hid (ShOk (w.heap.size + 3) wx (w.heap.size + 1 + 1) wt wh rt rh B1 n1 d1 rs) ∧ Below w.heap.size w wx)
            case first =>
              go_region_with (first
                | (go_at_call 41; refine (Read_any wt wh rt rh A1 n1 c1 rs AT nT cT (cl' T) T _ ?_ ?_ hT HH.out.1 HH.out.2.1 HH.out.2.2.1 HH.out.2.2.2 L64).mono ?_; (exact RM.out); (exact RT.out); rintro e wA ⟨vA, rfl, oA, hbA⟩; rw [← HRT.out, ← HRJ.out, ← HP.out]; rw [← HRS.out, ← HL.out] at oA; obtain ⟨A3, k3, hv3, _⟩ := RdI.of_own oA IRS.out; subst hv3; have OA := Lib.hid oA; clear oA; have SM := Lib.hid (SA0.out.below (show Below wc0.heap.size wc0 wA from ⟨hbA.os, hbA.tape, hbA.output, hbA.size, hbA.block⟩)); obtain ⟨u0, u1, u2, u3, u4⟩ := SM.out.1.cells; obtain ⟨v0, v1, v2, v3, v4⟩ := SM.out.1.frozen; have lM := SM.out.1.lt))
              all_goals
                go_wp2_with fail
                go_meet
                have hbW : Below wc0.heap.size wc0 wA := ⟨hbA.os, hbA.tape, hbA.output, hbA.size, hbA.block⟩
                obtain ⟨_, _, hvv, rO⟩ := RdO.of_own (B0 := w.heap.size + 3) OA.out IRS.out (show w.heap.size + 3 ≤ wc0.heap.size by omega)
                injection hvv with e1 _ e3
                subst e1 e3
                exact ⟨_, _, rfl, (ST0.out.below hbW).putFar (by omega) (by omega) _ _ _ _ _, ShOk.new_ SM.out.1 (by omega) rO HJJ.out HTT.out LRS, (SB0.out.below hbW).putFar (by omega) (by omega) _ _ _ _ _, put5_below (btr hb0w hbW) (by omega) _ _ _ _ _⟩
            case rest =>
              obtain ⟨A2, c2, rfl, ST1, SA1, SB1, hb1w⟩ := hcut
              obtain ⟨wc1, hwc⟩ : ∃ W, W = wc := ⟨_, rfl⟩
              subst hwc
              clear xT y0 y1 y2 y3 y4 RT RM
              have lb1 := SB1.out.1.lt
              go_wp2
              obtain ⟨AT, cT, efT, rT, lT⟩ := ST1.out.cs T hT
              have xT := ST1.out.ck.cell hT
              rw [efT] at xT
              obtain ⟨y0, y1, y2, y3, y4⟩ := SB1.out.1.cells
              have RT : Hid (RdI wc1.drew AT (cl' T).length cT (cl' T)) := rT.1.drewN 0
              have RM : Hid (RdI wc1.drew B1 n1 d1 rs) := SB1.out.2.1.1.drewN 0
              obtain ⟨nT, hnT⟩ : ∃ q, q = (cl' T).length := ⟨_, rfl⟩
              rw [← hnT] at xT RT
              clear efT rT lT hnT
              go_cut [10] (fun s10 wx => ∃ (B2 : Option Addr) (d2 : Nat), s10 = .bool (!p) ∧ Hid (St wx w.heap.size f' cl') ∧ Hid (ShOk (w.heap.size + 3) wx (w.heap.size + 1 + 1) wt wh RT1 RJ B2 L d2 RS) ∧ Hid (ShOk (w.heap.size + 3) wx (w.heap.size + 1) wt wh RT1 RJ A2 L c2 RS) ∧ Below w.heap.size w wx)
              case first =>
                go_region_with (first
                  | (go_at_call 42; refine (rRead_any wt wh rt rh B1 n1 d1 rs AT nT cT (cl' T) T _ ?_ ?_ hT HH.out.2.2.1 HH.out.2.2.2 HRR.out L64).mono ?_; (exact RM.out); (exact RT.out); rintro e wA ⟨vA, rfl, oA, hbA⟩; rw [← HRT.out, ← HRJ.out, ← HP.out]; rw [← HRS.out, ← HL.out] at oA; obtain ⟨A3, k3, hv3, _⟩ := RdI.of_own oA IRS.out; subst hv3; have OA := Lib.hid oA; clear oA; have SM := Lib.hid (SB1.out.below (show Below wc1.heap.size wc1 wA from ⟨hbA.os, hbA.tape, hbA.output, hbA.size, hbA.block⟩)); obtain ⟨u0, u1, u2, u3, u4⟩ := SM.out.1.cells; obtain ⟨v0, v1, v2, v3, v4⟩ := SM.out.1.frozen; have lM := SM.out.1.lt))
                all_goals
                  go_wp2_with fail
                  go_meet
                  have hbW : Below wc1.heap.size wc1 wA := ⟨hbA.os, hbA.tape, hbA.output, hbA.size, hbA.block⟩
                  obtain ⟨_, _, hvv, rO⟩ := RdO.of_own (B0 := w.heap.size + 3) OA.out IRS.out (show w.heap.size + 3 ≤ wc1.heap.size by omega)
                  injection hvv with e1 _ e3
                  subst e1 e3
                  exact ⟨_, _, rfl, (ST1.out.below hbW).putFar (by omega) (by omega) _ _ _ _ _, ShOk.new_ SM.out.1 (by omega) rO HJJ.out HTT.out LRS, (SA1.out.below hbW).putFar (by omega) (by omega) _ _ _ _ _, put5_below (btr hb1w hbW) (by omega) _ _ _ _ _⟩
              case rest =>
                obtain ⟨B2, d2, rfl, ST2, SB2, SA2, hb2w⟩ := hcut
                obtain ⟨wc2, hwc⟩ : ∃ W, W = wc := ⟨_, rfl⟩
                subst hwc
                clear xT y0 y1 y2 y3 y4 RT RM
                have lb2 := SB2.out.1.lt
                obtain ⟨y0, y1, y2, y3, y4⟩ := SA2.out.1.cells
                obtain ⟨z0, z1, z2, z3, z4⟩ := SB2.out.1.cells
                go_wp2_with fail
                refine (SameShadow_yes wt wh RT1 RJ A2 L c2 B2 d2 RS _ SA2.out.2.1.1 SB2.out.2.1.1).mono ?_
                rintro e w3 ⟨rfl, hb3⟩
                clear y0 y1 y2 y3 y4 z0 z1 z2 z3 z4
                go_wp2
                go_roundw
                case rel => exact ⟨k + 1, f', cl', wt, wh, RT1, RJ, A2, L, c2, B2, d2, RS, by omega, by omega, by go_num, ST2.out.below hb3, SA2.out.below hb3, SB2.out.below hb3, btr hb2w hb3⟩
                case measure => simp [intOf]; omega
      · go_wp2_with fail
        refine (awake24_any _).mono ?_
        rintro e w9 ⟨rfl, hb9⟩
        go_wp2
        go_ret
        exact ⟨rfl, btr (bal hB _) hb9⟩
    · go_wp2_with fail
      refine (awake24_any _).mono ?_
      rintro e w9 ⟨rfl, hb9⟩
      go_wp2
      go_ret
      exact ⟨rfl, btr hB hb9⟩

end Go.Proofs.Ytngfjoifkolaiaa
