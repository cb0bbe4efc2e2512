/-
  Texts of the proof, part 6 of 6: what is used to prove the statement. No condition.
-/
import Derived.Test.YtjjplipoacljoaaDoorHBAnyQ4
import Derived.KernelRfl
namespace Go.Proofs.YtjjplipoacljoaaDoor.AI

theorem imax_max (x y : Int) : imax x y = max x y := by
  unfold imax
  by_cases h : x < y
  · rw [ilt_t h, if_pos rfl]; omega
  · rw [ilt_f (by omega)]; simp; omega
theorem imax_assoc (a b c : Int) : imax (imax a b) c = imax a (imax b c) := by
  simp only [imax_max]; omega
theorem list_ext0 {a b : List Int} (hl : a.length = b.length) (h : ∀ i, a.getD i 0 = b.getD i 0) : a = b := by
  apply List.ext_getElem hl
  intro i h1 h2
  have := h i
  simpa [List.getD_eq_getElem?_getD, List.getElem?_eq_getElem h1, List.getElem?_eq_getElem h2] using this
theorem jl_assoc (a b c : List Int) : jl (jl a b) c = jl a (jl b c) :=
  list_ext0 (by simp only [jl_length]; omega) fun i => by simp only [jl_get, imax_assoc]
/-- entries from 0 to n -/
def En (n : Int) (c : List Int) : Prop := c.length ≤ 4 ∧ ∀ i, 0 ≤ c.getD i 0 ∧ c.getD i 0 ≤ n
theorem En.nil {n : Int} (h : 0 ≤ n) : En n [] := ⟨by simp, fun i => by simp; exact h⟩
theorem En.mono {n m : Int} {c : List Int} (h : En n c) (hm : n ≤ m) : En m c := ⟨h.1, fun i => ⟨(h.2 i).1, Int.le_trans (h.2 i).2 hm⟩⟩
theorem En.jl {n : Int} {a b : List Int} (ha : En n a) (hb : En n b) : En n (jl a b) := ⟨by rw [jl_length]; have := ha.1; have := hb.1; omega, fun i => by
  rw [jl_get]
  obtain ⟨h1, h2⟩ := ha.2 i; obtain ⟨h3, h4⟩ := hb.2 i
  unfold imax; split <;> exact ⟨by assumption, by assumption⟩⟩
theorem En.tk {n : Int} {c : List Int} {t : Nat} (h : En n c) (ht : t < 4) : En (n + 1) (tk c t) := ⟨by rw [tk_length]; have := h.1; omega, fun i => by
  rw [tk_get]
  obtain ⟨h1, h2⟩ := h.2 i; obtain ⟨h3, h4⟩ := h.2 t
  split <;> omega⟩
theorem jl_nil {n : Int} {c : List Int} (h : En n c) : jl c [] = c := list_ext0 (by simp [jl_length]) fun i => by
  rw [jl_get, imax_max]
  have := (h.2 i).1
  simp only [List.getD_nil]; omega
theorem nil_jl {n : Int} {c : List Int} (h : En n c) : jl [] c = c := list_ext0 (by simp [jl_length]) fun i => by
  rw [jl_get, imax_max]
  have := (h.2 i).1
  simp only [List.getD_nil]; omega
def EnL (n : Int) (l : List (List Int)) : Prop := ∀ i, En n (l.getD i [])
theorem EnL.mono {n m : Int} {l : List (List Int)} (h : EnL n l) (hm : n ≤ m) : EnL m l := fun i => (h i).mono hm
theorem EnL.set {n : Int} {l : List (List Int)} (h : EnL n l) {c : List Int} (hc : En n c) (j : Nat) : EnL n (l.set j c) := fun i => by
  rw [List.getD_eq_getElem?_getD, List.getElem?_set]
  by_cases e : j = i
  · subst e
    rw [if_pos rfl]
    split
    · exact hc
    · have := h j; simp only [List.getD_eq_getElem?_getD] at this; rename_i hj; rw [List.getElem?_eq_none (by omega)] at this; exact this
  · rw [if_neg e, ← List.getD_eq_getElem?_getD]; exact h i
theorem EnL.repl {n : Int} (h : 0 ≤ n) (k : Nat) : EnL n (List.replicate k []) := fun i => by
  rw [List.getD_eq_getElem?_getD, List.getElem?_replicate]
  split <;> exact En.nil h

/-! a state of the engine: Threads Spawned Locks Reads Cells Futures Tx Notified Waiting -/
structure HS where
  T : List (List Int)
  S : List (List Int)
  L : List (List Int)
  R : List (List Int)
  C : List (List Int)
  F : List (List Int)
  X : List Int
  N : List (List Int)
  W : List Int
def HS.t (h : HS) : HT := (h.T, h.S, h.L, h.R, h.C, h.F, h.X, h.N, h.W)
/-- an event: thread, kind, object as numbers, value -/
structure EV where
  th : Nat
  k : Nat
  ob : Nat
  va : Int
abbrev WTc := List (List UInt8 × Int)
/-- the lock of a condition variable -/
def mxP (wd : WTc) (o : Nat) : Nat := ((wd.getD o ([], 0)).2).toNat
def volP (wc : List (List UInt8 × Int × Int × Bool × Int)) (o : Nat) : Bool := (wc.getD o ([], 0, 0, false, 0)).2.2.2.1
/-- the clocks that an event takes over -/
def srcP (w : WT) (h : HS) (e : EV) : List (List Int) :=
  if e.k = 1 then [h.S.getD e.th []]
  else if e.k = 21 then [h.T.getD e.ob []]
  else if e.k = 6 ∨ e.k = 10 then [h.L.getD e.ob [], h.R.getD e.ob []]
  else if e.k = 8 then [h.L.getD e.ob []]
  else if e.k = 17 then [h.L.getD (mxP w.2.2.1 e.ob) [], h.R.getD (mxP w.2.2.1 e.ob) [], h.N.getD e.th []]
  else if e.k = 3 then [h.C.getD e.ob []]
  else if e.k = 23 then [h.F.getD e.ob []]
  else if e.k = 12 then [h.X]
  else []
def clkP (w : WT) (h : HS) (e : EV) : List Int := tk ((srcP w h e).foldl jl (h.T.getD e.th [])) e.th
def jat (l : List (List Int)) (i : Nat) (c : List Int) : List (List Int) := l.set i (jl (l.getD i []) c)
/-- the state with thread u woken, for those u for which p says so -/
def wakeAll (p : Nat → Bool) (c : List Int) (h : HS) : HS := { h with N := h.N.mapIdx fun u x => if p u then c else x, W := h.W.mapIdx fun u x => if p u then -1 else x }
def entP (w : WT) (h : HS) (e : EV) (c : List Int) : HS :=
  let h := { h with T := h.T.set e.th c }
  if e.k = 20 then { h with S := h.S.set e.ob c }
  else if e.k = 7 ∨ e.k = 11 then { h with L := jat h.L e.ob c }
  else if e.k = 9 then { h with R := jat h.R e.ob c }
  else if e.k = 16 then { h with L := jat h.L (mxP w.2.2.1 e.ob) c, W := h.W.set e.th e.ob }
  else if e.k = 4 then (if volP w.1 e.ob then { h with C := jat h.C e.ob c } else h)
  else if e.k = 22 then { h with F := jat h.F e.ob c }
  else if e.k = 13 then { h with X := jl h.X c }
  else if e.k = 18 then (if 0 ≤ e.va ∧ e.va < h.N.length then { h with N := h.N.set e.va.toNat c, W := h.W.set e.va.toNat (-1) } else h)
  else if e.k = 19 then wakeAll (fun u => decide (h.W.getD u 0 = (e.ob : Int))) c h
  else h
def stepP (w : WT) (h : HS) (e : EV) : HS × List Int := (entP w h e (clkP w h e), clkP w h e)
/-- the object is there -/
structure EOK (w : WT) (h : HS) (e : EV) : Prop where
  th4 : e.th < 4
  th : e.th < h.T.length
  k1 : 1 ≤ e.k
  k2 : e.k ≤ 23
  sp : e.k = 20 ∨ e.k = 21 → e.ob < h.T.length
  lk : 6 ≤ e.k ∧ e.k ≤ 11 → e.ob < h.L.length
  cd : e.k = 16 ∨ e.k = 17 → e.ob < w.2.2.1.length ∧ 0 ≤ (w.2.2.1.getD e.ob ([], 0)).2 ∧ mxP w.2.2.1 e.ob < h.L.length
  ce : e.k = 3 ∨ e.k = 4 → e.ob < h.C.length ∧ e.ob < w.1.length
  fu : e.k = 22 ∨ e.k = 23 → e.ob < h.F.length
/-- lengths and entries -/
structure HOK (n : Int) (h : HS) : Prop where
  n0 : 0 ≤ n
  n1 : n ≤ 1000000
  T : EnL n h.T
  S : EnL n h.S
  L : EnL n h.L
  R : EnL n h.R
  C : EnL n h.C
  F : EnL n h.F
  X : En n h.X
  N : EnL n h.N
  lT : h.T.length ≤ 1000
  lS : h.S.length = h.T.length
  lN : h.N.length = h.T.length
  lW : h.W.length = h.T.length
  lL : h.L.length ≤ 1000
  lR : h.R.length = h.L.length
  lC : h.C.length ≤ 1000
  lF : h.F.length ≤ 1000

theorem En.lb {n : Int} {c : List Int} (h : En n c) : c.length ≤ big := by have := h.1; unfold big; omega
theorem EnL.GL {n : Int} {l : List (List Int)} (h : EnL n l) (hl : l.length ≤ 1000) : GL l := ⟨by unfold big; omega, fun c hc => by
  obtain ⟨i, hi⟩ := List.getElem?_of_mem hc
  have := (h i).lb
  rwa [List.getD_eq_getElem?_getD, hi] at this⟩
theorem HOK.GH {n : Int} {h : HS} (o : HOK n h) : GH h.t :=
  ⟨o.T.GL o.lT, o.S.GL (by rw [o.lS]; exact o.lT), o.L.GL o.lL, o.R.GL (by rw [o.lR]; exact o.lL), o.C.GL o.lC, o.F.GL o.lF, o.X.lb, o.N.GL (by rw [o.lN]; exact o.lT), by show h.W.length ≤ big; have := o.lT; rw [o.lW]; unfold big; omega⟩
theorem En.join {n : Int} {a b : List Int} (ha : En n a) (hb : En n b) : mclock_Join (a, b) = some (AI.jl a b) := Join_eq a b ha.lb hb.lb

theorem src_En {n : Int} {w : WT} {h : HS} (o : HOK n h) (e : EV) : ∀ c ∈ srcP w h e, En n c := by
  intro c hc
  unfold srcP at hc
  repeat' (split at hc)
  all_goals simp only [List.mem_cons, List.not_mem_nil, or_false] at hc
  · subst hc; exact o.S _
  · subst hc; exact o.T _
  · rcases hc with rfl | rfl
    · exact o.L _
    · exact o.R _
  · subst hc; exact o.L _
  · rcases hc with rfl | rfl | rfl
    · exact o.L _
    · exact o.R _
    · exact o.N _
  · subst hc; exact o.C _
  · subst hc; exact o.F _
  · subst hc; exact o.X
theorem fold_En {n : Int} : ∀ (l : List (List Int)) (c : List Int), En n c → (∀ x ∈ l, En n x) → En n (l.foldl jl c)
  | [], _, hc, _ => hc
  | x :: r, c, hc, h => fold_En r _ (hc.jl (h x (List.mem_cons_self ..))) fun y hy => h y (List.mem_cons_of_mem _ hy)
theorem clk_En {n : Int} {w : WT} {h : HS} (o : HOK n h) {e : EV} (he : e.th < 4) : En (n + 1) (clkP w h e) := (fold_En _ _ (o.T _) (src_En o e)).tk he
theorem EnL.jat {n : Int} {l : List (List Int)} {c : List Int} (h : EnL n l) (hc : En n c) (i : Nat) : EnL n (jat l i c) := h.set ((h i).jl hc) i
theorem EnL.mapIdx {n : Int} {l : List (List Int)} {c : List Int} (h : EnL n l) (hc : En n c) (p : Nat → Bool) : EnL n (l.mapIdx fun u x => if p u then c else x) := fun i => by
  rw [List.getD_eq_getElem?_getD, List.getElem?_mapIdx]
  have := h i
  rw [List.getD_eq_getElem?_getD] at this
  cases hx : l[i]? with
  | none => rw [hx] at this; exact this
  | some x =>
    rw [hx] at this
    simp only [Option.map_some, Option.getD_some]
    split
    · exact hc
    · exact this
theorem step_HOK {n : Int} {w : WT} {h : HS} (o : HOK n h) (hn : n + 1 ≤ 1000000) {e : EV} (he : e.th < 4) : HOK (n + 1) (stepP w h e).1 := by
  have hc := clk_En (w := w) o he
  have m : n ≤ n + 1 := by omega
  have oT : EnL (n + 1) (h.T.set e.th (clkP w h e)) := (o.T.mono m).set hc _
  have b : HOK (n + 1) { h with T := h.T.set e.th (clkP w h e) } := ⟨by have := o.n0; omega, hn, oT, o.S.mono m, o.L.mono m, o.R.mono m, o.C.mono m, o.F.mono m, o.X.mono m, o.N.mono m, by simpa using o.lT, by simpa using o.lS, by simpa using o.lN, by simpa using o.lW, o.lL, o.lR, o.lC, o.lF⟩
  unfold stepP entP
  simp only []
  repeat' split
  · exact { b with S := (o.S.mono m).set hc _, lS := by simpa using b.lS }
  · exact { b with L := (o.L.mono m).jat hc _, lL := by simpa [jat] using b.lL, lR := by simpa [jat] using b.lR }
  · exact { b with R := (o.R.mono m).jat hc _, lR := by simpa [jat] using b.lR }
  · exact { b with L := (o.L.mono m).jat hc _, lL := by simpa [jat] using b.lL, lR := by simpa [jat] using b.lR, lW := by simpa using b.lW }
  · exact { b with C := (o.C.mono m).jat hc _, lC := by simpa [jat] using b.lC }
  · exact b
  · exact { b with F := (o.F.mono m).jat hc _, lF := by simpa [jat] using b.lF }
  · exact { b with X := (o.X.mono m).jl hc }
  · exact { b with N := (o.N.mono m).set hc _, lN := by simpa using b.lN, lW := by simpa using b.lW }
  · exact b
  · exact { b with N := (o.N.mono m).mapIdx hc _, lN := by simpa [wakeAll] using b.lN, lW := by simpa [wakeAll] using b.lW }
  · exact b
end Go.Proofs.YtjjplipoacljoaaDoor.AI
namespace Go.Proofs.YtjjplipoacljoaaDoor.AI

theorem inB_n {i n : Nat} (h : i < n) : inB (i : Int) n = true := inB_nat h
theorem beqL {a b : Nat} (h : a = b) : Nat.beq a b = true := by subst h; exact Nat.beq_refl a
theorem entry_eq (l : List (List Int)) (i : Nat) (h : i < l.length) : mhb_entry ((i : Int), l) = some (l.getD i [], l) := by
  unfold mhb_entry
  simp only []
  rw [ilt_f (by omega)]
  simp only [bcase_f, jn_r]
  rw [ile_f (by simp; omega)]
  simp only [bcase_f]
  rw [chk_of (inB_nat h), chk_of (inB_nat h), geti_l]
theorem joinAt_eq {n : Int} (l : List (List Int)) (i : Nat) (c : List Int) (h : i < l.length) (hl : EnL n l) (hc : En n c) : mhb_joinAt (((i : Int), c), l) = some (jat l i c) := by
  unfold mhb_joinAt
  simp only []
  rw [ile_t (by omega)]
  simp only [bcase_t, jn_r]
  rw [ilt_t (by simp; omega)]
  simp only [bcase_t]
  rw [chk_of (inB_nat h), chk_of (inB_nat h), geti_l, (hl i).join hc, obind_s, chk_of (inB_nat h), chk_of (inB_nat h), seti_nat]
  rfl
theorem jat_length (l : List (List Int)) (i : Nat) (c : List Int) : (jat l i c).length = l.length := by simp [jat]
theorem wake_eq {n : Int} (h : HS) (u : Nat) (c : List Int) (h1 : u < h.N.length) (h2 : u < h.W.length) (hc : En n c) : mhb_wake (((u : Int), c), h.X, h.T, h.S, h.L, h.R, h.C, h.F, h.N, h.W) = some (h.X, h.T, h.S, h.L, h.R, h.C, h.F, h.N.set u c, h.W.set u (-1)) := by
  unfold mhb_wake
  simp only []
  rw [Clone_eq c hc.lb, obind_s, chk_of (inB_nat h1), chk_of (inB_nat h1), chk_of (inB_nat h2), chk_of (inB_nat h2), seti_nat, seti_nat]
theorem geti_cd (wd : WTc) (i : Nat) : geti (T := .st (.pr .str (.int .i64))) wd (i : Int) = wd.getD i ([], 0) := geti_nat (T := .st (.pr .str (.int .i64))) wd i
theorem geti_ce (wc : List (List UInt8 × Int × Int × Bool × Int)) (i : Nat) : geti (T := .st (.pr .str (.pr (.int .i64) (.pr (.int .i64) (.pr .bool (.int .i64)))))) wc (i : Int) = wc.getD i ([], 0, 0, false, 0) := geti_nat (T := .st (.pr .str (.pr (.int .i64) (.pr (.int .i64) (.pr .bool (.int .i64)))))) wc i

/-- the event as the models have it -/
abbrev ET : Type := Int × Int × Int × Int × Int × List Int × List Int
/-- its object: as the kinds have it -/
structure EvT (e : EV) (x : ET) : Prop where
  th : x.1 = (e.th : Int)
  k : x.2.1 = (e.k : Int)
  ob : e.k ∈ [3, 4, 6, 7, 8, 9, 10, 11, 16, 17, 18, 19, 20, 21, 22, 23] → x.2.2.1 = (e.ob : Int)
  va : x.2.2.2.1 = e.va

theorem kinds23 {k : Nat} {z : Int} (hz : z = (k : Int)) (h1 : 1 ≤ k) (h2 : k ≤ 23) : (k = 1 ∧ z = 1) ∨ (k = 2 ∧ z = 2) ∨ (k = 3 ∧ z = 3) ∨ (k = 4 ∧ z = 4) ∨ (k = 5 ∧ z = 5) ∨ (k = 6 ∧ z = 6) ∨ (k = 7 ∧ z = 7) ∨ (k = 8 ∧ z = 8) ∨ (k = 9 ∧ z = 9) ∨ (k = 10 ∧ z = 10) ∨ (k = 11 ∧ z = 11) ∨ (k = 12 ∧ z = 12) ∨ (k = 13 ∧ z = 13) ∨ (k = 14 ∧ z = 14) ∨ (k = 15 ∧ z = 15) ∨ (k = 16 ∧ z = 16) ∨ (k = 17 ∧ z = 17) ∨ (k = 18 ∧ z = 18) ∨ (k = 19 ∧ z = 19) ∨ (k = 20 ∧ z = 20) ∨ (k = 21 ∧ z = 21) ∨ (k = 22 ∧ z = 22) ∨ (k = 23 ∧ z = 23) := by
  have h : k = 1 ∨ k = 2 ∨ k = 3 ∨ k = 4 ∨ k = 5 ∨ k = 6 ∨ k = 7 ∨ k = 8 ∨ k = 9 ∨ k = 10 ∨ k = 11 ∨ k = 12 ∨ k = 13 ∨ k = 14 ∨ k = 15 ∨ k = 16 ∨ k = 17 ∨ k = 18 ∨ k = 19 ∨ k = 20 ∨ k = 21 ∨ k = 22 ∨ k = 23 := by omega
  subst hz
  rcases h with rfl | rfl | rfl | rfl | rfl | rfl | rfl | rfl | rfl | rfl | rfl | rfl | rfl | rfl | rfl | rfl | rfl | rfl | rfl | rfl | rfl | rfl | rfl <;> simp
theorem beqT (a : Nat) : (Nat.beq a a && true) = true := by rw [beqL rfl]; rfl
theorem Step2_eq {n : Int} {w : WT} {h : HS} (o : HOK n h) {e : EV} (ok : EOK w h e) {x : ET} (hx : EvT e x) : mhb_Step_2 (x, h.X, w, h.T, h.S, h.L, h.R, h.C, h.F, h.N, h.W) = some (srcP w h e, x, h.X, w, h.T, h.S, h.L, h.R, h.C, h.F, h.N, h.W) := by
  obtain ⟨x1, x2, x3, x4, x5, x6, x7⟩ := x
  obtain ⟨w1, w2, w3, w4, w5, w6⟩ := w
  obtain ⟨th, k, ob, va⟩ := e
  obtain ⟨q1, q2, q3, q4⟩ := hx
  simp only at q1 q2 q3 q4
  subst q1 q4
  have t1 := ok.th
  simp only at t1
  have fS : inB (th : Int) h.S.length = true := inB_nat (by rw [o.lS]; exact t1)
  have fN : inB (th : Int) h.N.length = true := inB_nat (by rw [o.lN]; exact t1)
  have fT : k = 21 → inB (ob : Int) h.T.length = true ∧ x3 = (ob : Int) := fun e => by
    subst e; have := ok.sp (.inr rfl); exact ⟨inB_nat this, q3 (by decide)⟩
  have fL : (k = 6 ∨ k = 10 ∨ k = 8) → inB (ob : Int) h.L.length = true ∧ inB (ob : Int) h.R.length = true ∧ x3 = (ob : Int) := fun e => by
    have h1 : ob < h.L.length := ok.lk (by rcases e with rfl | rfl | rfl <;> (simp only []; omega))
    exact ⟨inB_nat h1, inB_nat (by rw [o.lR]; exact h1), q3 (by rcases e with rfl | rfl | rfl <;> decide)⟩
  have fC : k = 3 → inB (ob : Int) h.C.length = true ∧ x3 = (ob : Int) := fun e => by
    subst e; have := (ok.ce (.inl rfl)).1; exact ⟨inB_nat this, q3 (by decide)⟩
  have fF : k = 23 → inB (ob : Int) h.F.length = true ∧ x3 = (ob : Int) := fun e => by
    subst e; have := ok.fu (.inr rfl); exact ⟨inB_nat this, q3 (by decide)⟩
  unfold mhb_Step_2 srcP
  rcases kinds23 q2 ok.k1 ok.k2 with ⟨e, e'⟩ | ⟨e, e'⟩ | ⟨e, e'⟩ | ⟨e, e'⟩ | ⟨e, e'⟩ | ⟨e, e'⟩ | ⟨e, e'⟩ | ⟨e, e'⟩ | ⟨e, e'⟩ | ⟨e, e'⟩ | ⟨e, e'⟩ | ⟨e, e'⟩ | ⟨e, e'⟩ | ⟨e, e'⟩ | ⟨e, e'⟩ | ⟨e, e'⟩ | ⟨e, e'⟩ | ⟨e, e'⟩ | ⟨e, e'⟩ | ⟨e, e'⟩ | ⟨e, e'⟩ | ⟨e, e'⟩ | ⟨e, e'⟩ <;> clear q2 <;> subst e <;> subst e'
  case inr.inr.inr.inr.inr.inr.inr.inr.inr.inr.inr.inr.inr.inr.inr.inr.inl =>
    have q3 := q3 (by decide)
    subst q3
    obtain ⟨d1, d2, d3⟩ := ok.cd (.inr rfl)
    simp only at d1 d2 d3
    have d4 : mxP w3 ob < h.R.length := by rw [o.lR]; exact d3
    have e1 : (w3.getD ob ([], 0)).2 = ((mxP w3 ob : Nat) : Int) := by unfold mxP; omega
    simp only [Int.reduceEq, decide_false, decide_true, bcase_t, bcase_f, jn_r, chk_of, inB_nat d1, geti_cd, e1, entry_eq _ _ d3, entry_eq _ _ d4, obind_s, beqT, fN, geti_l]
    rfl
  case inr.inr.inl =>
    obtain ⟨c1, rfl⟩ := fC rfl
    simp only [Int.reduceEq, decide_false, decide_true, bcase_t, bcase_f, jn_r, chk_of, c1, geti_l]
    rfl
  case inr.inr.inr.inr.inr.inr.inr.inr.inr.inr.inr.inr.inr.inr.inr.inr.inr.inr.inr.inr.inr.inr =>
    obtain ⟨c1, rfl⟩ := fF rfl
    simp only [Int.reduceEq, decide_false, decide_true, bcase_t, bcase_f, jn_r, chk_of, c1, geti_l]
    rfl
  case inr.inr.inr.inr.inr.inr.inr.inr.inr.inr.inr.inr.inr.inr.inr.inr.inr.inr.inr.inr.inl =>
    obtain ⟨c1, rfl⟩ := fT rfl
    simp only [Int.reduceEq, decide_false, decide_true, bcase_t, bcase_f, jn_r, chk_of, c1, geti_l]
    rfl
  case inl =>
    simp only [Int.reduceEq, decide_false, decide_true, bcase_t, bcase_f, jn_r, chk_of, fS, geti_l]
    rfl
  case inr.inr.inr.inr.inr.inl =>
    obtain ⟨c1, c3, rfl⟩ := fL (by decide)
    simp only [Int.reduceEq, decide_false, decide_true, bcase_t, bcase_f, jn_r, chk_of, c1, c3, geti_l]
    rfl
  case inr.inr.inr.inr.inr.inr.inr.inr.inr.inl =>
    obtain ⟨c1, c3, rfl⟩ := fL (by decide)
    simp only [Int.reduceEq, decide_false, decide_true, bcase_t, bcase_f, jn_r, chk_of, c1, c3, geti_l]
    rfl
  case inr.inr.inr.inr.inr.inr.inr.inl =>
    obtain ⟨c1, c3, rfl⟩ := fL (by decide)
    simp only [Int.reduceEq, decide_false, decide_true, bcase_t, bcase_f, jn_r, chk_of, c1, c3, geti_l]
    rfl
  all_goals
    simp only [Int.reduceEq, decide_false, decide_true, bcase_t, bcase_f, jn_r]
    rfl
end Go.Proofs.YtjjplipoacljoaaDoor.AI
namespace Go.Proofs.YtjjplipoacljoaaDoor.AI

theorem iter_for' {σ R : Type} {f : σ → Option (σ ⊕ R)} {x0 : σ} {r : R} (n : Nat) (hn : n < 18446744073709551616) (st : Nat → σ) (hx : x0 = st 0) (h0 : ∀ i, i < n → f (st i) = some (.inl (st (i + 1)))) (h1 : f (st n) = some (.inr r)) : iterC f x0 = some r := by
  subst hx; exact iter_for n hn st h0 h1
/-- those below u are done -/
def wkN {α : Type} (p : Nat → Bool) (c : α) (u : Nat) (l : List α) : List α := l.mapIdx fun k x => if decide (k < u) && p k then c else x
theorem wkN_zero {α : Type} (p : Nat → Bool) (c : α) (l : List α) : wkN p c 0 l = l := by
  unfold wkN
  apply List.ext_getElem
  · simp
  · intro i h1 h2; simp
theorem wkN_length {α : Type} (p : Nat → Bool) (c : α) (u : Nat) (l : List α) : (wkN p c u l).length = l.length := by simp [wkN]
theorem wkN_full {α : Type} (p : Nat → Bool) (c : α) (u : Nat) (l : List α) (h : l.length ≤ u) : wkN p c u l = l.mapIdx fun k x => if p k then c else x := by
  unfold wkN
  apply List.ext_getElem
  · simp
  · intro i h1 h2
    simp only [List.length_mapIdx] at h1
    simp only [List.getElem_mapIdx]
    rw [show decide (i < u) = true from decide_eq_true (by omega)]; rfl
theorem wkN_set {α : Type} (p : Nat → Bool) (c : α) (u : Nat) (l : List α) (hp : p u = true) : (wkN p c u l).set u c = wkN p c (u + 1) l := by
  unfold wkN
  apply List.ext_getElem
  · simp
  · intro i h1 h2
    simp only [List.getElem_set, List.getElem_mapIdx]
    by_cases e : u = i
    · subst e; simp [hp]
    · rw [if_neg e]
      by_cases h : i < u
      · rw [decide_eq_true h, decide_eq_true (show i < u + 1 by omega)]
      · rw [decide_eq_false h, decide_eq_false (show ¬ i < u + 1 by omega)]
theorem wkN_skip {α : Type} (p : Nat → Bool) (c : α) (u : Nat) (l : List α) (hp : p u = false) : wkN p c u l = wkN p c (u + 1) l := by
  unfold wkN
  apply List.ext_getElem
  · simp
  · intro i h1 h2
    simp only [List.getElem_mapIdx]
    by_cases e : u = i
    · subst e; simp [hp]
    · by_cases h : i < u
      · rw [decide_eq_true h, decide_eq_true (show i < u + 1 by omega)]
      · rw [decide_eq_false h, decide_eq_false (show ¬ i < u + 1 by omega)]
theorem wkN_at (p : Nat → Bool) (c : Int) (u : Nat) (l : List Int) : (wkN p c u l).getD u 0 = l.getD u 0 := by
  unfold wkN
  rw [List.getD_eq_getElem?_getD, List.getElem?_mapIdx, List.getD_eq_getElem?_getD]
  cases l[u]? with
  | none => rfl
  | some x => simp

def HS.e (h : HS) : List Int × List (List Int) × List (List Int) × List (List Int) × List (List Int) × List (List Int) × List (List Int) × List (List Int) × List Int := (h.X, h.T, h.S, h.L, h.R, h.C, h.F, h.N, h.W)
theorem enter_eq {n : Int} {w : WT} {h : HS} (o : HOK n h) (hn : n + 1 ≤ 1000000) {e : EV} (ok : EOK w h e) {x : ET} (hx : EvT e x) {c : List Int} (hc : En (n + 1) c) : mhb_enter ((w, x, c), h.e) = some (entP w h e c).e := by
  obtain ⟨x1, x2, x3, x4, x5, x6, x7⟩ := x
  obtain ⟨w1, w2, w3, w4, w5, w6⟩ := w
  obtain ⟨th, k, ob, va⟩ := e
  obtain ⟨q1, q2, q3, q4⟩ := hx
  simp only at q1 q2 q3 q4
  subst q1 q4
  have t1 := ok.th
  simp only at t1
  have m : n ≤ n + 1 := by omega
  have fT : inB (th : Int) h.T.length = true := inB_nat t1
  have fW : inB (th : Int) h.W.length = true := inB_nat (by rw [o.lW]; exact t1)
  have cl := Clone_eq c hc.lb
  unfold mhb_enter ghb_enter HS.e
  rcases kinds23 q2 ok.k1 ok.k2 with ⟨e, e'⟩ | ⟨e, e'⟩ | ⟨e, e'⟩ | ⟨e, e'⟩ | ⟨e, e'⟩ | ⟨e, e'⟩ | ⟨e, e'⟩ | ⟨e, e'⟩ | ⟨e, e'⟩ | ⟨e, e'⟩ | ⟨e, e'⟩ | ⟨e, e'⟩ | ⟨e, e'⟩ | ⟨e, e'⟩ | ⟨e, e'⟩ | ⟨e, e'⟩ | ⟨e, e'⟩ | ⟨e, e'⟩ | ⟨e, e'⟩ | ⟨e, e'⟩ | ⟨e, e'⟩ | ⟨e, e'⟩ | ⟨e, e'⟩ <;> clear q2 <;> subst e <;> subst e'
  -- 20
  case inr.inr.inr.inr.inr.inr.inr.inr.inr.inr.inr.inr.inr.inr.inr.inr.inr.inr.inr.inl =>
    obtain rfl := q3 (by decide)
    have f : inB (ob : Int) h.S.length = true := inB_nat (by rw [o.lS]; exact ok.sp (.inl rfl))
    simp only [Int.reduceEq, decide_false, decide_true, bcase_t, bcase_f, jn_r, obind_s, chk_of, cl, fT, f, seti_nat]
    rfl
  -- 7
  case inr.inr.inr.inr.inr.inr.inl =>
    obtain rfl := q3 (by decide)
    have f : ob < h.L.length := ok.lk (by simp only []; omega)
    simp only [Int.reduceEq, decide_false, decide_true, bcase_t, bcase_f, jn_r, obind_s, chk_of, cl, fT, seti_nat, joinAt_eq _ _ _ f (o.L.mono m) hc, jat_length, beqT]
    rfl
  case inr.inr.inr.inr.inr.inr.inr.inr.inr.inr.inl =>
    obtain rfl := q3 (by decide)
    have f : ob < h.L.length := ok.lk (by simp only []; omega)
    simp only [Int.reduceEq, decide_false, decide_true, bcase_t, bcase_f, jn_r, obind_s, chk_of, cl, fT, seti_nat, joinAt_eq _ _ _ f (o.L.mono m) hc, jat_length, beqT]
    rfl
  -- 9
  case inr.inr.inr.inr.inr.inr.inr.inr.inl =>
    obtain rfl := q3 (by decide)
    have f : ob < h.R.length := by rw [o.lR]; exact ok.lk (by simp only []; omega)
    simp only [Int.reduceEq, decide_false, decide_true, bcase_t, bcase_f, jn_r, obind_s, chk_of, cl, fT, seti_nat, joinAt_eq _ _ _ f (o.R.mono m) hc, jat_length, beqT]
    rfl
  -- 16
  case inr.inr.inr.inr.inr.inr.inr.inr.inr.inr.inr.inr.inr.inr.inr.inl =>
    obtain rfl := q3 (by decide)
    obtain ⟨d1, d2, d3⟩ := ok.cd (.inl rfl)
    simp only at d1 d2 d3
    have e1 : (w3.getD ob ([], 0)).2 = ((mxP w3 ob : Nat) : Int) := by unfold mxP; omega
    simp only [Int.reduceEq, decide_false, decide_true, bcase_t, bcase_f, jn_r, obind_s, chk_of, cl, fT, fW, seti_nat, inB_nat d1, geti_cd, e1, joinAt_eq _ _ _ d3 (o.L.mono m) hc, jat_length, beqT]
    rfl
  -- 4
  case inr.inr.inr.inl =>
    obtain rfl := q3 (by decide)
    obtain ⟨d1, d2⟩ := ok.ce (.inr rfl)
    simp only at d1 d2
    simp only [Int.reduceEq, decide_false, decide_true, bcase_t, bcase_f, jn_r, obind_s, chk_of, cl, fT, seti_nat, inB_nat d2, geti_ce]
    cases hv : (w1.getD ob ([], 0, 0, false, 0)).2.2.2.1 with
    | true =>
      simp only [bcase_t, obind_s, chk_of, joinAt_eq _ _ _ d1 (o.C.mono m) hc, jat_length, beqT, jn_r]
      have hE : entP (w1, w2, w3, w4, w5, w6) h ⟨th, 4, ob, x4⟩ c = if volP w1 ob then { h with T := h.T.set th c, C := jat h.C ob c } else { h with T := h.T.set th c } := rfl
      rw [hE, show volP w1 ob = true from hv]
      rfl
    | false =>
      simp only [bcase_f, jn_r]
      have hE : entP (w1, w2, w3, w4, w5, w6) h ⟨th, 4, ob, x4⟩ c = if volP w1 ob then { h with T := h.T.set th c, C := jat h.C ob c } else { h with T := h.T.set th c } := rfl
      rw [hE, show volP w1 ob = false from hv]
      rfl
  -- 22
  case inr.inr.inr.inr.inr.inr.inr.inr.inr.inr.inr.inr.inr.inr.inr.inr.inr.inr.inr.inr.inr.inl =>
    obtain rfl := q3 (by decide)
    have f : ob < h.F.length := ok.fu (.inl rfl)
    simp only [Int.reduceEq, decide_false, decide_true, bcase_t, bcase_f, jn_r, obind_s, chk_of, cl, fT, seti_nat, joinAt_eq _ _ _ f (o.F.mono m) hc, jat_length, beqT]
    rfl
  -- 13
  case inr.inr.inr.inr.inr.inr.inr.inr.inr.inr.inr.inr.inl =>
    simp only [Int.reduceEq, decide_false, decide_true, bcase_t, bcase_f, jn_r, obind_s, chk_of, cl, fT, seti_nat, (o.X.mono m).join hc]
    rfl
  -- 18
  case inr.inr.inr.inr.inr.inr.inr.inr.inr.inr.inr.inr.inr.inr.inr.inr.inr.inl =>
    simp only [Int.reduceEq, decide_false, decide_true, bcase_t, bcase_f, jn_r, obind_s, chk_of, cl, fT, seti_nat]
    have hE : entP (w1, w2, w3, w4, w5, w6) h ⟨th, 18, ob, x4⟩ c = if 0 ≤ x4 ∧ x4 < h.N.length then { h with T := h.T.set th c, N := h.N.set x4.toNat c, W := h.W.set x4.toNat (-1) } else { h with T := h.T.set th c } := rfl
    rw [hE]
    by_cases h0 : 0 ≤ x4
    · by_cases h1 : x4 < h.N.length
      · rw [ile_t h0]
        simp only [bcase_t, jn_r]
        rw [ilt_t (show x4 < Int.ofNat h.N.length from h1)]
        obtain ⟨v, rfl⟩ : ∃ v : Nat, x4 = (v : Int) := ⟨x4.toNat, by omega⟩
        have v1 : v < h.N.length := by omega
        have v2 : v < h.W.length := by rw [o.lW, ← o.lN]; exact v1
        have := wake_eq { h with T := h.T.set th c } v c v1 v2 hc
        simp only [] at this
        simp only [bcase_t, this, obind_s, List.length_set, chk_of, beqL rfl, Bool.and_self, jn_r]
        rw [if_pos ⟨h0, h1⟩]
        rfl
      · rw [ile_t h0]
        simp only [bcase_t, jn_r]
        rw [ilt_f (show Int.ofNat h.N.length ≤ x4 from Int.not_lt.1 h1)]
        simp only [bcase_f, jn_r]
        rw [if_neg (fun q => h1 q.2)]
    · rw [ile_f (by omega)]
      simp only [bcase_f, jn_r]
      rw [if_neg (fun q => h0 q.1)]
  -- 19
  case inr.inr.inr.inr.inr.inr.inr.inr.inr.inr.inr.inr.inr.inr.inr.inr.inr.inr.inl =>
    obtain rfl := q3 (by decide)
    simp only [Int.reduceEq, decide_false, decide_true, bcase_t, bcase_f, jn_r, obind_s, chk_of, cl, fT, seti_nat]
    rw [iter_for' (r := Sum.inr (h.X, h.T.set th c, h.S, h.L, h.R, h.C, h.F, wkN (fun u => decide (h.W.getD u 0 = (ob : Int))) c h.W.length h.N, wkN (fun u => decide (h.W.getD u 0 = (ob : Int))) (-1) h.W.length h.W)) h.W.length (by have := o.lW; have := o.lT; omega)
      (fun i => ((i : Int), h.X, h.T.set th c, h.S, h.L, h.R, h.C, h.F, wkN (fun u => decide (h.W.getD u 0 = (ob : Int))) c i h.N, wkN (fun u => decide (h.W.getD u 0 = (ob : Int))) (-1) i h.W, (th : Int), (19 : Int), (ob : Int), x4, x5, x6, x7)) ?_ ?_ ?_]
    · simp only [jn_r]
      rw [wkN_full _ _ _ h.W (Nat.le_refl _), wkN_full _ _ _ h.N (by rw [o.lN, o.lW]; exact Nat.le_refl _)]
      rfl
    · simp only [wkN_zero]; rfl
    · intro i hi
      simp only []
      have hN : i < (wkN (fun u => decide (h.W.getD u 0 = (ob : Int))) c i h.N).length := by rw [wkN_length, o.lN, ← o.lW]; exact hi
      have hW : i < (wkN (fun u => decide (h.W.getD u 0 = (ob : Int))) (-1) i h.W).length := by rw [wkN_length]; exact hi
      rw [ilt_t (by simp; omega), bcase_t, chk_of (inB_nat hW), chk_of (inB_nat hW), geti_i, wkN_at]
      have ws := wrap_succ hi (show h.W.length ≤ 1099511627776 by have := o.lW; have := o.lT; omega)
      by_cases hp : h.W.getD i 0 = (ob : Int)
      · rw [decide_eq_true hp, bcase_t]
        have := wake_eq { h with T := h.T.set th c, N := wkN (fun u => decide (h.W.getD u 0 = (ob : Int))) c i h.N, W := wkN (fun u => decide (h.W.getD u 0 = (ob : Int))) (-1) i h.W } i c hN hW hc
        simp only [] at this
        rw [this, obind_s, chk_of (by simp only [List.length_set, beqL rfl, Bool.and_self]), jn_r, ws, wkN_set _ _ _ _ (decide_eq_true hp), wkN_set _ _ _ _ (decide_eq_true hp)]
      · rw [decide_eq_false hp, bcase_f, jn_r, ws, ← wkN_skip _ _ _ _ (decide_eq_false hp), ← wkN_skip _ _ _ _ (decide_eq_false hp)]
    · simp only []
      rw [ilt_f (by simp), bcase_f]
  all_goals
    simp only [Int.reduceEq, decide_false, decide_true, bcase_t, bcase_f, jn_r, obind_s, chk_of, cl, fT, seti_nat]
    rfl
end Go.Proofs.YtjjplipoacljoaaDoor.AI
namespace Go.Proofs.YtjjplipoacljoaaDoor.AI

theorem fold_take (l : List (List Int)) (c : List Int) (i : Nat) (hi : i < l.length) : (l.take (i + 1)).foldl jl c = jl ((l.take i).foldl jl c) (l.getD i []) := by
  rw [List.take_add_one, List.foldl_append, List.getElem?_eq_getElem hi, List.getD_eq_getElem?_getD, List.getElem?_eq_getElem hi]; rfl
theorem srcP_length (w : WT) (h : HS) (e : EV) : (srcP w h e).length ≤ 3 := by
  unfold srcP; repeat' split
  all_goals simp
theorem clk_lt {n : Int} {w : WT} {h : HS} (o : HOK n h) (e : EV) (i : Nat) : 0 ≤ ((srcP w h e).foldl jl (h.T.getD e.th [])).getD i 0 ∧ ((srcP w h e).foldl jl (h.T.getD e.th [])).getD i 0 < 9223372036854775807 := by
  have := (fold_En _ _ (o.T e.th) (src_En (w := w) o e)).2 i
  have := o.n1
  omega
theorem ent_lengths (w : WT) (h : HS) (e : EV) (c : List Int) : (entP w h e c).T.length = h.T.length ∧ (entP w h e c).S.length = h.S.length ∧ (entP w h e c).L.length = h.L.length ∧ (entP w h e c).R.length = h.R.length ∧ (entP w h e c).C.length = h.C.length ∧ (entP w h e c).F.length = h.F.length ∧ (entP w h e c).N.length = h.N.length ∧ (entP w h e c).W.length = h.W.length := by
  unfold entP
  simp only []
  repeat' split
  all_goals simp [jat, wakeAll]
theorem Step_eq {n : Int} {w : WT} {h : HS} (o : HOK n h) (hn : n + 1 ≤ 1000000) {e : EV} (ok : EOK w h e) {x : ET} (hx : EvT e x) : mhb_Step (w, h.t, x) = some ((stepP w h e).1.t, (stepP w h e).2) := by
  have s2 := Step2_eq o ok hx
  have hce : En (n + 1) (clkP w h e) := clk_En o ok.th4
  have en := enter_eq o hn ok hx hce
  have cp := copied_eq h.t o.GH
  have sl := srcP_length w h e
  have sE := src_En (w := w) o e
  have hlen := ent_lengths w h e (clkP w h e)
  obtain ⟨x1, x2, x3, x4, x5, x6, x7⟩ := x
  obtain ⟨w1, w2, w3, w4, w5, w6⟩ := w
  have t1 := hx.th
  simp only at t1
  subst t1
  unfold HS.t at cp
  simp only [] at cp
  have fT : inB (e.th : Int) h.T.length = true := inB_nat ok.th
  unfold mhb_Step ghb_Step HS.t
  simp only []
  rw [cp, obind_s]
  simp only []
  rw [chk_of fT, chk_of fT, s2, obind_s]
  simp only []
  rw [chk_of (by simp only [beqL rfl, Bool.and_self])]
  refine iter_for' (srcP (w1, w2, w3, w4, w5, w6) h e).length (by omega) (fun i => ((i : Int), (w1, w2, w3, w4, w5, w6), ((e.th : Int), x2, x3, x4, x5, x6, x7), h.X, ((srcP (w1, w2, w3, w4, w5, w6) h e).take i).foldl jl (h.T.getD e.th []), h.T, h.S, h.L, h.R, h.C, h.F, h.N, h.W)) ?_ ?_ ?_
  · simp only [geti_l, List.take_zero, List.foldl_nil]; rfl
  · intro i hi
    simp only []
    rw [ilt_t (by simp; omega), bcase_t, chk_of (inB_nat hi), geti_l, (fold_En _ _ (o.T e.th) (fun y hy => sE y (List.mem_of_mem_take hy))).join (sE _ (getD_mem hi)), obind_s, wrap_succ hi (by omega), fold_take _ _ _ hi]
  · simp only []
    rw [ilt_f (by simp), bcase_f, List.take_of_length_le (Nat.le_refl _)]
    have hl := clk_lt (w := (w1, w2, w3, w4, w5, w6)) o e e.th
    rw [Tick_eq _ e.th (fold_En _ _ (o.T e.th) sE).lb ok.th4 hl.1 hl.2, obind_s]
    unfold HS.e at en
    unfold clkP at en hlen
    rw [en, obind_s]
    simp only []
    rw [chk_of (by rw [hlen.1, hlen.2.1, hlen.2.2.1, hlen.2.2.2.1, hlen.2.2.2.2.1, hlen.2.2.2.2.2.1, hlen.2.2.2.2.2.2.1, hlen.2.2.2.2.2.2.2]; simp only [beqL rfl, Bool.and_self])]
    rfl
end Go.Proofs.YtjjplipoacljoaaDoor.AI
namespace Go.Proofs.YtjjplipoacljoaaDoor.AI

theorem Mutex_eq (w : WT) (o : Nat) (h : o < w.2.2.1.length) (h0 : 0 ≤ (w.2.2.1.getD o ([], 0)).2) : mr22_Mutex (w, (o : Int)) = some ((mxP w.2.2.1 o : Nat) : Int) := by
  have e1 : (w.2.2.1.getD o ([], 0)).2 = ((mxP w.2.2.1 o : Nat) : Int) := by unfold mxP; omega
  unfold mr22_Mutex
  simp only []
  rw [ilt_f (by omega)]
  simp only [bcase_f, jn_r]
  rw [ile_f (by simp; omega)]
  simp only [bcase_f]
  rw [chk_of (inB_nat h), geti_cd, e1]
/-- the lock that an event takes, that it gives; whether it only reads -/
def acqP (w : WT) (e : EV) : Int × Bool := if e.k = 6 ∨ e.k = 10 then ((e.ob : Int), false) else if e.k = 8 then ((e.ob : Int), true) else if e.k = 17 then ((mxP w.2.2.1 e.ob : Nat), false) else (-1, false)
def relP (w : WT) (e : EV) : Int × Bool := if e.k = 7 ∨ e.k = 11 then ((e.ob : Int), false) else if e.k = 9 then ((e.ob : Int), true) else if e.k = 16 then ((mxP w.2.2.1 e.ob : Nat), false) else (-1, false)
theorem Acq_eq {w : WT} {h : HS} {e : EV} (ok : EOK w h e) {x : ET} (hx : EvT e x) : mr22_Acquires (w, x) = some (acqP w e) := by
  obtain ⟨x1, x2, x3, x4, x5, x6, x7⟩ := x
  obtain ⟨w1, w2, w3, w4, w5, w6⟩ := w
  obtain ⟨th, k, ob, va⟩ := e
  obtain ⟨q1, q2, q3, q4⟩ := hx
  simp only at q1 q2 q3 q4
  subst q1 q4
  unfold mr22_Acquires
  rcases kinds23 q2 ok.k1 ok.k2 with ⟨e, e'⟩ | ⟨e, e'⟩ | ⟨e, e'⟩ | ⟨e, e'⟩ | ⟨e, e'⟩ | ⟨e, e'⟩ | ⟨e, e'⟩ | ⟨e, e'⟩ | ⟨e, e'⟩ | ⟨e, e'⟩ | ⟨e, e'⟩ | ⟨e, e'⟩ | ⟨e, e'⟩ | ⟨e, e'⟩ | ⟨e, e'⟩ | ⟨e, e'⟩ | ⟨e, e'⟩ | ⟨e, e'⟩ | ⟨e, e'⟩ | ⟨e, e'⟩ | ⟨e, e'⟩ | ⟨e, e'⟩ | ⟨e, e'⟩ <;> clear q2 <;> subst e <;> subst e'
  case inr.inr.inr.inr.inr.inl =>
    obtain rfl := q3 (by decide)
    simp only [Int.reduceEq, decide_false, decide_true, bcase_t, bcase_f, jn_r, obind_s]
    rfl
  case inr.inr.inr.inr.inr.inr.inr.inr.inr.inl =>
    obtain rfl := q3 (by decide)
    simp only [Int.reduceEq, decide_false, decide_true, bcase_t, bcase_f, jn_r, obind_s]
    rfl
  case inr.inr.inr.inr.inr.inr.inr.inl =>
    obtain rfl := q3 (by decide)
    simp only [Int.reduceEq, decide_false, decide_true, bcase_t, bcase_f, jn_r, obind_s]
    rfl
  case inr.inr.inr.inr.inr.inr.inr.inr.inr.inr.inr.inr.inr.inr.inr.inr.inl =>
    obtain rfl := q3 (by decide)
    obtain ⟨d1, d2, d3⟩ := ok.cd (.inr rfl)
    have mu := Mutex_eq (w1, w2, w3, w4, w5, w6) ob d1 d2
    simp only [Int.reduceEq, decide_false, decide_true, bcase_t, bcase_f, jn_r, obind_s, mu]
    rfl
  all_goals
    simp only [Int.reduceEq, decide_false, decide_true, bcase_t, bcase_f, jn_r, obind_s]
    rfl
theorem Rel_eq {w : WT} {h : HS} {e : EV} (ok : EOK w h e) {x : ET} (hx : EvT e x) : mr22_Releases (w, x) = some (relP w e) := by
  obtain ⟨x1, x2, x3, x4, x5, x6, x7⟩ := x
  obtain ⟨w1, w2, w3, w4, w5, w6⟩ := w
  obtain ⟨th, k, ob, va⟩ := e
  obtain ⟨q1, q2, q3, q4⟩ := hx
  simp only at q1 q2 q3 q4
  subst q1 q4
  unfold mr22_Releases
  rcases kinds23 q2 ok.k1 ok.k2 with ⟨e, e'⟩ | ⟨e, e'⟩ | ⟨e, e'⟩ | ⟨e, e'⟩ | ⟨e, e'⟩ | ⟨e, e'⟩ | ⟨e, e'⟩ | ⟨e, e'⟩ | ⟨e, e'⟩ | ⟨e, e'⟩ | ⟨e, e'⟩ | ⟨e, e'⟩ | ⟨e, e'⟩ | ⟨e, e'⟩ | ⟨e, e'⟩ | ⟨e, e'⟩ | ⟨e, e'⟩ | ⟨e, e'⟩ | ⟨e, e'⟩ | ⟨e, e'⟩ | ⟨e, e'⟩ | ⟨e, e'⟩ | ⟨e, e'⟩ <;> clear q2 <;> subst e <;> subst e'
  case inr.inr.inr.inr.inr.inr.inl =>
    obtain rfl := q3 (by decide)
    simp only [Int.reduceEq, decide_false, decide_true, bcase_t, bcase_f, jn_r, obind_s]
    rfl
  case inr.inr.inr.inr.inr.inr.inr.inr.inr.inr.inl =>
    obtain rfl := q3 (by decide)
    simp only [Int.reduceEq, decide_false, decide_true, bcase_t, bcase_f, jn_r, obind_s]
    rfl
  case inr.inr.inr.inr.inr.inr.inr.inr.inl =>
    obtain rfl := q3 (by decide)
    simp only [Int.reduceEq, decide_false, decide_true, bcase_t, bcase_f, jn_r, obind_s]
    rfl
  case inr.inr.inr.inr.inr.inr.inr.inr.inr.inr.inr.inr.inr.inr.inr.inl =>
    obtain rfl := q3 (by decide)
    obtain ⟨d1, d2, d3⟩ := ok.cd (.inl rfl)
    have mu := Mutex_eq (w1, w2, w3, w4, w5, w6) ob d1 d2
    simp only [Int.reduceEq, decide_false, decide_true, bcase_t, bcase_f, jn_r, obind_s, mu]
    rfl
  all_goals
    simp only [Int.reduceEq, decide_false, decide_true, bcase_t, bcase_f, jn_r, obind_s]
    rfl
/-- the clock that the sources give -/
def arrP (w : WT) (h : HS) (e : EV) : List Int :=
  if e.k = 1 then jl [] (h.S.getD e.th [])
  else if e.k = 21 then jl [] (h.T.getD e.ob [])
  else if e.k = 6 ∨ e.k = 10 then jl (h.L.getD e.ob []) (h.R.getD e.ob [])
  else if e.k = 8 then h.L.getD e.ob []
  else if e.k = 17 then jl (jl (h.L.getD (mxP w.2.2.1 e.ob) []) (h.R.getD (mxP w.2.2.1 e.ob) [])) (h.N.getD e.th [])
  else if e.k = 3 then jl [] (h.C.getD e.ob [])
  else if e.k = 23 then jl [] (h.F.getD e.ob [])
  else if e.k = 12 then jl [] h.X
  else []
theorem arr_src {n : Int} {w : WT} {h : HS} (o : HOK n h) (e : EV) : jl (h.T.getD e.th []) (arrP w h e) = (srcP w h e).foldl jl (h.T.getD e.th []) := by
  unfold arrP srcP
  repeat' split
  all_goals simp only [List.foldl_cons, List.foldl_nil]
  · rw [nil_jl (o.S _)]
  · rw [nil_jl (o.T _)]
  · rw [jl_assoc]
  · rw [jl_assoc, jl_assoc, jl_assoc]
  · rw [nil_jl (o.C _)]
  · rw [nil_jl (o.F _)]
  · rw [nil_jl o.X]
  · rw [jl_nil (o.T _)]
theorem arr_En {n : Int} {w : WT} {h : HS} (o : HOK n h) (e : EV) : En n (arrP w h e) := by
  have z := En.nil o.n0
  unfold arrP
  repeat' split
  · exact z.jl (o.S _)
  · exact z.jl (o.T _)
  · exact (o.L _).jl (o.R _)
  · exact o.L _
  · exact ((o.L _).jl (o.R _)).jl (o.N _)
  · exact z.jl (o.C _)
  · exact z.jl (o.F _)
  · exact z.jl o.X
  · exact z
theorem rjoin {n : Int} {a b : List Int} (ha : En n a) (hb : En n b) : mr22_Join (a, b) = some (jl a b) := ha.join hb
theorem arriving_eq {n : Int} {w : WT} {h : HS} (o : HOK n h) {e : EV} (ok : EOK w h e) {x : ET} (hx : EvT e x) : mr22_arriving ((w, h.X, x), h.T, h.S, h.L, h.R, h.C, h.F, h.N, h.W) = some (arrP w h e, h.T, h.S, h.L, h.R, h.C, h.F, h.N, h.W) := by
  have aq := Acq_eq ok hx
  have z := En.nil o.n0
  obtain ⟨x1, x2, x3, x4, x5, x6, x7⟩ := x
  obtain ⟨w1, w2, w3, w4, w5, w6⟩ := w
  obtain ⟨th, k, ob, va⟩ := e
  obtain ⟨q1, q2, q3, q4⟩ := hx
  simp only at q1 q2 q3 q4
  subst q1 q4
  have t1 := ok.th
  simp only at t1
  have fS : inB (th : Int) h.S.length = true := inB_nat (by rw [o.lS]; exact t1)
  have fN : inB (th : Int) h.N.length = true := inB_nat (by rw [o.lN]; exact t1)
  unfold mr22_arriving
  simp only []
  rw [aq, obind_s]
  clear aq
  rcases kinds23 q2 ok.k1 ok.k2 with ⟨e, e'⟩ | ⟨e, e'⟩ | ⟨e, e'⟩ | ⟨e, e'⟩ | ⟨e, e'⟩ | ⟨e, e'⟩ | ⟨e, e'⟩ | ⟨e, e'⟩ | ⟨e, e'⟩ | ⟨e, e'⟩ | ⟨e, e'⟩ | ⟨e, e'⟩ | ⟨e, e'⟩ | ⟨e, e'⟩ | ⟨e, e'⟩ | ⟨e, e'⟩ | ⟨e, e'⟩ | ⟨e, e'⟩ | ⟨e, e'⟩ | ⟨e, e'⟩ | ⟨e, e'⟩ | ⟨e, e'⟩ | ⟨e, e'⟩ <;> clear q2 <;> subst e <;> subst e'
  case inr.inr.inr.inr.inr.inl =>
    obtain rfl := q3 (by decide)
    have f : ob < h.L.length := ok.lk (by simp only []; omega)
    have f2 : ob < h.R.length := by rw [o.lR]; exact f
    rw [show acqP (w1, w2, w3, w4, w5, w6) ⟨th, 6, ob, x4⟩ = (((ob : Nat) : Int), false) from rfl]
    simp only [ile_t (show (0 : Int) ≤ ((ob : Nat) : Int) from Int.natCast_nonneg _), ilt_t (show ((ob : Nat) : Int) < Int.ofNat h.L.length from Int.ofNat_lt.2 f), Int.reduceEq, decide_false, decide_true, bcase_t, bcase_f, jn_r, obind_s, chk_of, inB_nat f, inB_nat f2, geti_l, Bool.not_true, Bool.not_false, rjoin (o.L _) (o.R _)]
    rfl
  case inr.inr.inr.inr.inr.inr.inr.inr.inr.inl =>
    obtain rfl := q3 (by decide)
    have f : ob < h.L.length := ok.lk (by simp only []; omega)
    have f2 : ob < h.R.length := by rw [o.lR]; exact f
    rw [show acqP (w1, w2, w3, w4, w5, w6) ⟨th, 10, ob, x4⟩ = (((ob : Nat) : Int), false) from rfl]
    simp only [ile_t (show (0 : Int) ≤ ((ob : Nat) : Int) from Int.natCast_nonneg _), ilt_t (show ((ob : Nat) : Int) < Int.ofNat h.L.length from Int.ofNat_lt.2 f), Int.reduceEq, decide_false, decide_true, bcase_t, bcase_f, jn_r, obind_s, chk_of, inB_nat f, inB_nat f2, geti_l, Bool.not_true, Bool.not_false, rjoin (o.L _) (o.R _)]
    rfl
  case inr.inr.inr.inr.inr.inr.inr.inl =>
    obtain rfl := q3 (by decide)
    have f : ob < h.L.length := ok.lk (by simp only []; omega)
    have f2 : ob < h.R.length := by rw [o.lR]; exact f
    rw [show acqP (w1, w2, w3, w4, w5, w6) ⟨th, 8, ob, x4⟩ = (((ob : Nat) : Int), true) from rfl]
    simp only [ile_t (show (0 : Int) ≤ ((ob : Nat) : Int) from Int.natCast_nonneg _), ilt_t (show ((ob : Nat) : Int) < Int.ofNat h.L.length from Int.ofNat_lt.2 f), Int.reduceEq, decide_false, decide_true, bcase_t, bcase_f, jn_r, obind_s, chk_of, inB_nat f, inB_nat f2, geti_l, Bool.not_true, Bool.not_false, rjoin (o.L _) (o.R _)]
    rfl
  case inr.inr.inr.inr.inr.inr.inr.inr.inr.inr.inr.inr.inr.inr.inr.inr.inl =>
    obtain rfl := q3 (by decide)
    obtain ⟨d1, d2, f⟩ := ok.cd (.inr rfl)
    simp only at d1 d2 f
    have f2 : mxP w3 ob < h.R.length := by rw [o.lR]; exact f
    rw [show acqP (w1, w2, w3, w4, w5, w6) ⟨th, 17, ob, x4⟩ = (((mxP w3 ob : Nat) : Int), false) from rfl]
    simp only [ile_t (show (0 : Int) ≤ ((mxP w3 ob : Nat) : Int) from Int.natCast_nonneg _), ilt_t (show ((mxP w3 ob : Nat) : Int) < Int.ofNat h.L.length from Int.ofNat_lt.2 f), Int.reduceEq, decide_false, decide_true, bcase_t, bcase_f, jn_r, obind_s, chk_of, inB_nat f, inB_nat f2, geti_l, Bool.not_true, Bool.not_false, rjoin (o.L _) (o.R _), rjoin ((o.L _).jl (o.R _)) (o.N _), fN]
    rfl
  case inl =>
    rw [show acqP (w1, w2, w3, w4, w5, w6) ⟨th, 1, ob, x4⟩ = (-1, false) from rfl]
    simp only [ile_f (show (-1 : Int) < 0 by decide), Int.reduceEq, decide_false, decide_true, bcase_t, bcase_f, jn_r, obind_s, chk_of, fS, geti_l, rjoin z (o.S _)]
    rfl
  case inr.inr.inr.inr.inr.inr.inr.inr.inr.inr.inr.inr.inr.inr.inr.inr.inr.inr.inr.inr.inl =>
    obtain rfl := q3 (by decide)
    have f : inB (ob : Int) h.T.length = true := inB_nat (ok.sp (.inr rfl))
    rw [show acqP (w1, w2, w3, w4, w5, w6) ⟨th, 21, ob, x4⟩ = (-1, false) from rfl]
    simp only [ile_f (show (-1 : Int) < 0 by decide), Int.reduceEq, decide_false, decide_true, bcase_t, bcase_f, jn_r, obind_s, chk_of, f, geti_l, rjoin z (o.T _)]
    rfl
  case inr.inr.inl =>
    obtain rfl := q3 (by decide)
    have f : inB (ob : Int) h.C.length = true := inB_nat (ok.ce (.inl rfl)).1
    rw [show acqP (w1, w2, w3, w4, w5, w6) ⟨th, 3, ob, x4⟩ = (-1, false) from rfl]
    simp only [ile_f (show (-1 : Int) < 0 by decide), Int.reduceEq, decide_false, decide_true, bcase_t, bcase_f, jn_r, obind_s, chk_of, f, geti_l, rjoin z (o.C _)]
    rfl
  case inr.inr.inr.inr.inr.inr.inr.inr.inr.inr.inr.inr.inr.inr.inr.inr.inr.inr.inr.inr.inr.inr =>
    obtain rfl := q3 (by decide)
    have f : inB (ob : Int) h.F.length = true := inB_nat (ok.fu (.inr rfl))
    rw [show acqP (w1, w2, w3, w4, w5, w6) ⟨th, 23, ob, x4⟩ = (-1, false) from rfl]
    simp only [ile_f (show (-1 : Int) < 0 by decide), Int.reduceEq, decide_false, decide_true, bcase_t, bcase_f, jn_r, obind_s, chk_of, f, geti_l, rjoin z (o.F _)]
    rfl
  case inr.inr.inr.inr.inr.inr.inr.inr.inr.inr.inr.inl =>
    rw [show acqP (w1, w2, w3, w4, w5, w6) ⟨th, 12, ob, x4⟩ = (-1, false) from rfl]
    simp only [ile_f (show (-1 : Int) < 0 by decide), Int.reduceEq, decide_false, decide_true, bcase_t, bcase_f, jn_r, obind_s, chk_of, rjoin z o.X]
    rfl
  all_goals
    simp only [acqP, Nat.reduceEqDiff, or_self, if_false, reduceIte, ile_f (show (-1 : Int) < 0 by decide), Int.reduceEq, decide_false, decide_true, bcase_t, bcase_f, jn_r, obind_s]
    rfl
theorem arrivingR_eq {n : Int} {w : WT} {h : HS} (o : HOK n h) {e : EV} (ok : EOK w h e) {x : ET} (hx : EvT e x) : mr22_arrivingR ((w, h.X, x), h.T, h.S, h.L, h.R, h.C, h.F, h.N, h.W) = some (arrP w h e) := by
  unfold mr22_arrivingR
  rw [arriving_eq o ok hx, obind_s, same_of rfl]
end Go.Proofs.YtjjplipoacljoaaDoor.AI
namespace Go.Proofs.YtjjplipoacljoaaDoor.AI

theorem rStep_eq {n : Int} {w : WT} {h : HS} (o : HOK n h) (hn : n + 1 ≤ 1000000) {e : EV} (ok : EOK w h e) {x : ET} (hx : EvT e x) : mr22_Step (w, h.t, x) = some ((stepP w h e).1.t, (stepP w h e).2) := by
  have ar := arrivingR_eq o ok hx
  have rl := Rel_eq ok hx
  have hc : En (n + 1) (clkP w h e) := clk_En o ok.th4
  have cp := r22copied_eq h.t o.GH
  have js : mr22_Join (h.T.getD e.th [], arrP w h e) = some ((srcP w h e).foldl jl (h.T.getD e.th [])) := by rw [rjoin (o.T _) (arr_En o e), arr_src o]
  have hl := clk_lt (w := w) o e e.th
  have tick : mr22_Tick ((srcP w h e).foldl jl (h.T.getD e.th []), (e.th : Int)) = some (clkP w h e) := r22Tick_eq _ e.th (fold_En _ _ (o.T e.th) (src_En o e)).lb ok.th4 hl.1 hl.2
  have cl := Copy_eq (clkP w h e) hc.lb
  have m : n ≤ n + 1 := by omega
  unfold stepP
  generalize clkP w h e = c at hc tick cl ⊢
  obtain ⟨x1, x2, x3, x4, x5, x6, x7⟩ := x
  obtain ⟨w1, w2, w3, w4, w5, w6⟩ := w
  obtain ⟨th, k, ob, va⟩ := e
  obtain ⟨q1, q2, q3, q4⟩ := hx
  simp only at q1 q2 q3 q4
  subst q1 q4
  have t1 := ok.th
  simp only at t1 js tick
  have fT : inB (th : Int) h.T.length = true := inB_nat t1
  have fW : inB (th : Int) h.W.length = true := inB_nat (by rw [o.lW]; exact t1)
  unfold HS.t at cp
  simp only [] at cp
  unfold mr22_Step gr22_Step HS.t
  simp only []
  rw [cp, obind_s]
  simp only []
  rw [chk_of fT, chk_of fT, ar, obind_s, geti_l, js, obind_s, tick, obind_s, cl, obind_s, chk_of fT, chk_of fT, rl, obind_s, seti_nat]
  clear ar rl js tick cp
  rcases kinds23 q2 ok.k1 ok.k2 with ⟨e, e'⟩ | ⟨e, e'⟩ | ⟨e, e'⟩ | ⟨e, e'⟩ | ⟨e, e'⟩ | ⟨e, e'⟩ | ⟨e, e'⟩ | ⟨e, e'⟩ | ⟨e, e'⟩ | ⟨e, e'⟩ | ⟨e, e'⟩ | ⟨e, e'⟩ | ⟨e, e'⟩ | ⟨e, e'⟩ | ⟨e, e'⟩ | ⟨e, e'⟩ | ⟨e, e'⟩ | ⟨e, e'⟩ | ⟨e, e'⟩ | ⟨e, e'⟩ | ⟨e, e'⟩ | ⟨e, e'⟩ | ⟨e, e'⟩ <;> clear q2 <;> subst e <;> subst e'
  case inr.inr.inr.inr.inr.inr.inl =>
    obtain rfl := q3 (by decide)
    have f : ob < h.L.length := ok.lk (by simp only []; omega)
    have f2 : ob < h.R.length := by rw [o.lR]; exact f
    rw [show relP (w1, w2, w3, w4, w5, w6) ⟨th, 7, ob, x4⟩ = (((ob : Nat) : Int), false) from rfl]
    simp only [ile_t (show (0 : Int) ≤ ((ob : Nat) : Int) from Int.natCast_nonneg _), ilt_t (show ((ob : Nat) : Int) < Int.ofNat h.L.length from Int.ofNat_lt.2 f), Int.reduceEq, decide_false, decide_true, bcase_t, bcase_f, jn_r, obind_s, chk_of, seti_nat, inB_nat f, inB_nat f2, geti_l, rjoin ((o.L.mono m) _) hc]
    rfl
  case inr.inr.inr.inr.inr.inr.inr.inr.inr.inr.inl =>
    obtain rfl := q3 (by decide)
    have f : ob < h.L.length := ok.lk (by simp only []; omega)
    have f2 : ob < h.R.length := by rw [o.lR]; exact f
    rw [show relP (w1, w2, w3, w4, w5, w6) ⟨th, 11, ob, x4⟩ = (((ob : Nat) : Int), false) from rfl]
    simp only [ile_t (show (0 : Int) ≤ ((ob : Nat) : Int) from Int.natCast_nonneg _), ilt_t (show ((ob : Nat) : Int) < Int.ofNat h.L.length from Int.ofNat_lt.2 f), Int.reduceEq, decide_false, decide_true, bcase_t, bcase_f, jn_r, obind_s, chk_of, seti_nat, inB_nat f, inB_nat f2, geti_l, rjoin ((o.L.mono m) _) hc]
    rfl
  case inr.inr.inr.inr.inr.inr.inr.inr.inl =>
    obtain rfl := q3 (by decide)
    have f : ob < h.L.length := ok.lk (by simp only []; omega)
    have f2 : ob < h.R.length := by rw [o.lR]; exact f
    rw [show relP (w1, w2, w3, w4, w5, w6) ⟨th, 9, ob, x4⟩ = (((ob : Nat) : Int), true) from rfl]
    simp only [ile_t (show (0 : Int) ≤ ((ob : Nat) : Int) from Int.natCast_nonneg _), ilt_t (show ((ob : Nat) : Int) < Int.ofNat h.L.length from Int.ofNat_lt.2 f), Int.reduceEq, decide_false, decide_true, bcase_t, bcase_f, jn_r, obind_s, chk_of, seti_nat, inB_nat f, inB_nat f2, geti_l, rjoin ((o.R.mono m) _) hc]
    rfl
  case inr.inr.inr.inr.inr.inr.inr.inr.inr.inr.inr.inr.inr.inr.inr.inl =>
    obtain rfl := q3 (by decide)
    obtain ⟨d1, d2, f⟩ := ok.cd (.inl rfl)
    simp only at d1 d2 f
    have f2 : mxP w3 ob < h.R.length := by rw [o.lR]; exact f
    rw [show relP (w1, w2, w3, w4, w5, w6) ⟨th, 16, ob, x4⟩ = (((mxP w3 ob : Nat) : Int), false) from rfl]
    simp only [ile_t (show (0 : Int) ≤ ((mxP w3 ob : Nat) : Int) from Int.natCast_nonneg _), ilt_t (show ((mxP w3 ob : Nat) : Int) < Int.ofNat h.L.length from Int.ofNat_lt.2 f), Int.reduceEq, decide_false, decide_true, bcase_t, bcase_f, jn_r, obind_s, chk_of, seti_nat, inB_nat f, inB_nat f2, geti_l, rjoin ((o.L.mono m) _) hc, fW]
    rfl
  case inr.inr.inr.inr.inr.inr.inr.inr.inr.inr.inr.inr.inr.inr.inr.inr.inr.inr.inr.inl =>
    obtain rfl := q3 (by decide)
    have f : inB (ob : Int) h.S.length = true := inB_nat (by rw [o.lS]; exact ok.sp (.inl rfl))
    rw [show relP (w1, w2, w3, w4, w5, w6) ⟨th, 20, ob, x4⟩ = (-1, false) from rfl]
    simp only [ile_f (show (-1 : Int) < 0 by decide), Int.reduceEq, decide_false, decide_true, bcase_t, bcase_f, jn_r, obind_s, chk_of, seti_nat, cl, f]
    rfl
  case inr.inr.inr.inl =>
    obtain rfl := q3 (by decide)
    obtain ⟨d1, d2⟩ := ok.ce (.inr rfl)
    simp only at d1 d2
    rw [show relP (w1, w2, w3, w4, w5, w6) ⟨th, 4, ob, x4⟩ = (-1, false) from rfl]
    simp only [ile_f (show (-1 : Int) < 0 by decide), Int.reduceEq, decide_false, decide_true, bcase_t, bcase_f, jn_r, obind_s, chk_of, seti_nat, inB_nat d2, geti_ce]
    cases hv : (w1.getD ob ([], 0, 0, false, 0)).2.2.2.1 with
    | true =>
      simp only [Int.reduceEq, decide_false, decide_true, bcase_t, bcase_f, jn_r, obind_s, chk_of, seti_nat, inB_nat d1, geti_l, rjoin ((o.C.mono m) _) hc]
      have hE : entP (w1, w2, w3, w4, w5, w6) h ⟨th, 4, ob, x4⟩ c = if volP w1 ob then { h with T := h.T.set th c, C := jat h.C ob c } else { h with T := h.T.set th c } := rfl
      rw [hE, show volP w1 ob = true from hv]
      rfl
    | false =>
      simp only [bcase_f, jn_r]
      have hE : entP (w1, w2, w3, w4, w5, w6) h ⟨th, 4, ob, x4⟩ c = if volP w1 ob then { h with T := h.T.set th c, C := jat h.C ob c } else { h with T := h.T.set th c } := rfl
      rw [hE, show volP w1 ob = false from hv]
      rfl
  case inr.inr.inr.inr.inr.inr.inr.inr.inr.inr.inr.inr.inr.inr.inr.inr.inr.inr.inr.inr.inr.inl =>
    obtain rfl := q3 (by decide)
    have f : inB (ob : Int) h.F.length = true := inB_nat (ok.fu (.inl rfl))
    rw [show relP (w1, w2, w3, w4, w5, w6) ⟨th, 22, ob, x4⟩ = (-1, false) from rfl]
    simp only [ile_f (show (-1 : Int) < 0 by decide), Int.reduceEq, decide_false, decide_true, bcase_t, bcase_f, jn_r, obind_s, chk_of, seti_nat, f, geti_l, rjoin ((o.F.mono m) _) hc]
    rfl
  case inr.inr.inr.inr.inr.inr.inr.inr.inr.inr.inr.inr.inl =>
    rw [show relP (w1, w2, w3, w4, w5, w6) ⟨th, 13, ob, x4⟩ = (-1, false) from rfl]
    simp only [ile_f (show (-1 : Int) < 0 by decide), Int.reduceEq, decide_false, decide_true, bcase_t, bcase_f, jn_r, obind_s, chk_of, seti_nat, rjoin (o.X.mono m) hc]
    rfl
  case inr.inr.inr.inr.inr.inr.inr.inr.inr.inr.inr.inr.inr.inr.inr.inr.inr.inl =>
    rw [show relP (w1, w2, w3, w4, w5, w6) ⟨th, 18, ob, x4⟩ = (-1, false) from rfl]
    simp only [ile_f (show (-1 : Int) < 0 by decide), Int.reduceEq, decide_false, decide_true, bcase_t, bcase_f, jn_r, obind_s, chk_of, seti_nat, List.length_set]
    have hE : entP (w1, w2, w3, w4, w5, w6) h ⟨th, 18, ob, x4⟩ c = if 0 ≤ x4 ∧ x4 < h.N.length then { h with T := h.T.set th c, N := h.N.set x4.toNat c, W := h.W.set x4.toNat (-1) } else { h with T := h.T.set th c } := rfl
    rw [hE]
    by_cases h0 : 0 ≤ x4
    · by_cases h1 : x4 < h.N.length
      · have h2 : x4 < Int.ofNat h.T.length := by rw [← o.lN]; exact h1
        rw [ile_t h0]
        simp only [bcase_t, jn_r]
        rw [ilt_t h2]
        obtain ⟨v, rfl⟩ : ∃ v : Nat, x4 = (v : Int) := ⟨x4.toNat, by omega⟩
        have v1 : v < h.N.length := by omega
        have v2 : v < h.W.length := by rw [o.lW, ← o.lN]; exact v1
        simp only [Int.reduceEq, decide_false, decide_true, bcase_t, bcase_f, jn_r, obind_s, chk_of, seti_nat, cl, inB_nat v1, inB_nat v2]
        rw [if_pos ⟨h0, h1⟩]
        rfl
      · have h2 : Int.ofNat h.T.length ≤ x4 := by rw [← o.lN]; exact Int.not_lt.1 h1
        rw [ile_t h0]
        simp only [bcase_t, jn_r]
        rw [ilt_f h2]
        simp only [bcase_f, jn_r]
        rw [if_neg (fun q => h1 q.2)]
    · rw [ile_f (by omega)]
      simp only [bcase_f, jn_r]
      rw [if_neg (fun q => h0 q.1)]
  case inr.inr.inr.inr.inr.inr.inr.inr.inr.inr.inr.inr.inr.inr.inr.inr.inr.inr.inl =>
    obtain rfl := q3 (by decide)
    rw [show relP (w1, w2, w3, w4, w5, w6) ⟨th, 19, ob, x4⟩ = (-1, false) from rfl]
    simp only [ile_f (show (-1 : Int) < 0 by decide), Int.reduceEq, decide_false, decide_true, bcase_t, bcase_f, jn_r, obind_s, chk_of, seti_nat]
    rw [iter_for' (r := Sum.inr (h.X, h.T.set th c, h.S, h.L, h.R, h.C, h.F, wkN (fun u => decide (h.W.getD u 0 = (ob : Int))) c h.W.length h.N, wkN (fun u => decide (h.W.getD u 0 = (ob : Int))) (-1) h.W.length h.W)) h.W.length (by have := o.lW; have := o.lT; omega)
      (fun i => ((i : Int), h.X, ((th : Int), (19 : Int), (ob : Int), x4, x5, x6, x7), h.T.set th c, h.S, h.L, h.R, h.C, h.F, wkN (fun u => decide (h.W.getD u 0 = (ob : Int))) c i h.N, wkN (fun u => decide (h.W.getD u 0 = (ob : Int))) (-1) i h.W)) ?_ ?_ ?_]
    · simp only [jn_r]
      rw [wkN_full _ _ _ h.W (Nat.le_refl _), wkN_full _ _ _ h.N (by rw [o.lN, o.lW]; exact Nat.le_refl _)]
      rfl
    · simp only [wkN_zero]; rfl
    · intro i hi
      simp only []
      have hN : i < (wkN (fun u => decide (h.W.getD u 0 = (ob : Int))) c i h.N).length := by rw [wkN_length, o.lN, ← o.lW]; exact hi
      have hW : i < (wkN (fun u => decide (h.W.getD u 0 = (ob : Int))) (-1) i h.W).length := by rw [wkN_length]; exact hi
      rw [ilt_t (by simp; omega), bcase_t, chk_of (inB_nat hW), chk_of (inB_nat hW), geti_i, wkN_at]
      have ws := wrap_succ hi (show h.W.length ≤ 1099511627776 by have := o.lW; have := o.lT; omega)
      by_cases hp : h.W.getD i 0 = (ob : Int)
      · rw [decide_eq_true hp, bcase_t, chk_of (inB_nat hN), chk_of (inB_nat hN), chk_of (inB_nat hW), chk_of (inB_nat hW), jn_r, seti_nat, seti_nat, ws, wkN_set _ _ _ _ (decide_eq_true hp), wkN_set _ _ _ _ (decide_eq_true hp)]
      · rw [decide_eq_false hp, bcase_f, jn_r, ws, ← wkN_skip _ _ _ _ (decide_eq_false hp), ← wkN_skip _ _ _ _ (decide_eq_false hp)]
    · simp only []
      rw [ilt_f (by simp), bcase_f]
  all_goals
    simp only [relP, Nat.reduceEqDiff, or_self, if_false, reduceIte, ile_f (show (-1 : Int) < 0 by decide), Int.reduceEq, decide_false, decide_true, bcase_t, bcase_f, jn_r, obind_s, chk_of, seti_nat]
    rfl
end Go.Proofs.YtjjplipoacljoaaDoor.AI
namespace Go.Proofs.YtjjplipoacljoaaDoor.AI

theorem jn_iter {σ A R : Type} {f : σ → Option (σ ⊕ (R ⊕ A))} {x0 : σ} {k : A → Option R} {y : R} (Q : R ⊕ A → Prop) (h : ∃ r, iterC f x0 = some r ∧ Q r) (hk : ∀ r, Q r → jn (some r) k = some y) : jn (iterC f x0) k = some y := by
  obtain ⟨r, h1, h2⟩ := h
  rw [h1]; exact hk r h2
def cellN (n : List UInt8) (i s : Int) (v : Bool) (z : Int) : List UInt8 × Int × Int × Bool × Int := (n, i, s, v, z)
/-- the world of all scenes -/
def W0 : WT := ([([120], 0, 0, false, 0), ([121], 0, 0, false, 1), ([118], 0, 0, true, 0), ([113], 0, 2, false, 0), ([113], 1, 2, false, 0)], [([109], false), ([110], false), ([114], true)], [([99], 0)], [[102]], [[109, 97, 105, 110], [116, 49], [116, 50], [116, 51]],
  [(0, 0, 1), (0, 1, 2), (0, 2, 3), (0, 3, 4), (0, 4, 5), (0, 5, 6), (1, 0, 11), (1, 1, 12), (1, 2, 13), (1, 3, 14), (1, 4, 15), (1, 5, 16), (2, 0, 21), (2, 1, 22), (2, 2, 23), (2, 3, 24), (2, 4, 25), (2, 5, 26), (3, 0, 31), (3, 1, 32), (3, 2, 33), (3, 3, 34), (3, 4, 35), (3, 5, 36)])
theorem World_eq : mscene_World () = some W0 := by kernel_rfl
def HS.zero (w : WT) : HS := ⟨List.replicate w.2.2.2.2.1.length [], List.replicate w.2.2.2.2.1.length [], List.replicate w.2.1.length [], List.replicate w.2.1.length [], List.replicate w.1.length [], List.replicate w.2.2.2.1.length [], [], List.replicate w.2.2.2.2.1.length [], List.replicate w.2.2.2.2.1.length (-1)⟩
theorem HS.zero_t (w : WT) : (HS.zero w).t = h0 w := rfl
theorem HS.zero_ok {w : WT} (h1 : w.1.length ≤ 1000) (h2 : w.2.1.length ≤ 1000) (h3 : w.2.2.2.1.length ≤ 1000) (h4 : w.2.2.2.2.1.length ≤ 1000) : HOK 0 (HS.zero w) := by
  have z : (0 : Int) ≤ 0 := by omega
  exact ⟨z, by omega, EnL.repl z _, EnL.repl z _, EnL.repl z _, EnL.repl z _, EnL.repl z _, EnL.repl z _, En.nil z, EnL.repl z _, by simpa [HS.zero] using h4, by simp [HS.zero], by simp [HS.zero], by simp [HS.zero], by simpa [HS.zero] using h2, by simp [HS.zero], by simpa [HS.zero] using h1, by simpa [HS.zero] using h3⟩
/-- lengths of a state in a world -/
structure Fit (w : WT) (h : HS) : Prop where
  T : h.T.length = w.2.2.2.2.1.length
  L : h.L.length = w.2.1.length
  C : h.C.length = w.1.length
  F : h.F.length = w.2.2.2.1.length
theorem Fit.zero (w : WT) : Fit w (HS.zero w) := ⟨by simp [HS.zero], by simp [HS.zero], by simp [HS.zero], by simp [HS.zero]⟩
theorem Fit.step {w : WT} {h : HS} (f : Fit w h) (e : EV) : Fit w (stepP w h e).1 := by
  obtain ⟨a, b, c, d, g, i, j, k⟩ := ent_lengths w h e (clkP w h e)
  exact ⟨a.trans f.T, c.trans f.L, g.trans f.C, i.trans f.F⟩
def isB (z : Int) : Prop := 0 ≤ z ∧ z ≤ 255
theorem byte_mod {z : Int} (h : isB z) {m : Int} (hm : 0 < m) (hm2 : m ≤ 256) : Int.tmod (wrapK .i64 z) m = ((z.toNat % m.toNat : Nat) : Int) ∧ z.toNat % m.toNat < m.toNat := by
  obtain ⟨h1, h2⟩ := h
  rw [wr64 (by omega) (by omega), Int.tmod_eq_emod_of_nonneg h1]
  refine ⟨?_, Nat.mod_lt _ (by omega)⟩
  obtain ⟨a, rfl⟩ : ∃ a : Nat, z = (a : Int) := ⟨z.toNat, by omega⟩
  obtain ⟨b, rfl⟩ : ∃ b : Nat, m = (b : Int) := ⟨m.toNat, by omega⟩
  simp

theorem any_loop (x : List (Int × Int × Int × Int)) (hb : ∀ y ∈ x, isB y.1 ∧ isB y.2.1 ∧ isB y.2.2.1 ∧ isB y.2.2.2) {w1 : List (List UInt8 × Int × Int × Bool × Int)} {w2 : List (List UInt8 × Bool)} {w3 : List (List UInt8 × Int)} {w4 w5 : List (List UInt8)} {w6 : List (Int × Int × Int)}
    (l1 : w1.length = 5) (l2 : w2.length = 3) (l3 : w3.length = 1) (l4 : w4.length = 1) (l5 : w5.length = 4) (c0 : (w3.getD 0 ([], 0)).2 = 0) (hl : x.length ≤ maxLen) (hw : mscene_World () = some (w1, w2, w3, w4, w5, w6)) : mlaw23_HBAny x = some true := by
  have s0 := Start_eq (w1, w2, w3, w4, w5, w6) (by unfold big; simp only []; omega) (by unfold big; simp only []; omega) (by unfold big; simp only []; omega) (by unfold big; simp only []; omega)
  unfold mlaw23_HBAny glaw23_HBAny
  rw [hw, obind_s]
  simp only []
  rw [r22Start, s0, obind_s, obind_s, ← HS.zero_t]
  unfold HS.t
  simp only []
  refine jn_iter (fun r => r = Sum.inr ()) (iter_inv (fun s => 41 - s.1.toNat) (fun s => ∃ (i : Nat) (h : HS), s = ((i : Int), (w1, w2, w3, w4, w5, w6), h.t, h.t) ∧ HOK i h ∧ Fit (w1, w2, w3, w4, w5, w6) h ∧ i ≤ 40) _ ?_ _ (by simp) ⟨0, HS.zero (w1, w2, w3, w4, w5, w6), rfl, HS.zero_ok (by simp only []; omega) (by simp only []; omega) (by simp only []; omega) (by simp only []; omega), Fit.zero _, by omega⟩) ?_
  · rintro s ⟨i, h, rfl, o, ft, hi⟩
    simp only []
    by_cases hlt : i < x.length
    · rw [ilt_t (show (i : Int) < Int.ofNat x.length from Int.ofNat_lt.2 hlt), bcase_t, chk_of (inB_nat hlt)]
      by_cases h40 : i < 40
      · rw [ile_f (show (i : Int) < 40 by omega), bcase_f]
        left
        have hmem := hb (x.getD i (0, 0, 0, 0)) (by rw [List.getD_eq_getElem?_getD, List.getElem?_eq_getElem hlt]; exact List.getElem_mem hlt)
        have eg : geti (T := (.st (.pr (.int .u8) (.pr (.int .u8) (.pr (.int .u8) (.int .u8)))))) x (i : Int) = x.getD i (0, 0, 0, 0) := geti_nat (T := (.st (.pr (.int .u8) (.pr (.int .u8) (.pr (.int .u8) (.int .u8)))))) x i
        rw [eg]
        generalize x.getD i (0, 0, 0, 0) = gg at hmem ⊢
        obtain ⟨a, b, c, d⟩ := gg
        simp only [] at hmem
        obtain ⟨ba, bb, bc, bd⟩ := hmem
        obtain ⟨ea, la⟩ := byte_mod ba (m := 4) (by omega) (by omega)
        obtain ⟨eb, lb⟩ := byte_mod bb (m := 23) (by omega) (by omega)
        obtain ⟨ec2, lc2⟩ := byte_mod bc (m := 2) (by omega) (by omega)
        obtain ⟨ec4, lc4⟩ := byte_mod bc (m := 4) (by omega) (by omega)
        obtain ⟨ec5, lc5⟩ := byte_mod bc (m := 5) (by omega) (by omega)
        have la : a.toNat % 4 < 4 := la
        have lb : b.toNat % 23 < 23 := lb
        have lc2 : c.toNat % 2 < 2 := lc2
        have lc4 : c.toNat % 4 < 4 := lc4
        have lc5 : c.toNat % 5 < 5 := lc5
        have ek : wrapK .i64 (1 + ((b.toNat % Int.toNat 23 : Nat) : Int)) = ((1 + b.toNat % 23 : Nat) : Int) := by rw [wr64 (by omega) (by omega)]; simp
        have e5 : Int.ofNat w1.length = 5 := by rw [l1]; rfl
        have n5 : (!decide (Int.ofNat w1.length = 0)) = true := by rw [l1]; decide
        generalize wrapK .i64 (wrapK .i64 (Int.tmod d 6) - 1) = va
        simp only [ea, eb, ek]
        generalize hth : a.toNat % Int.toNat 4 = th
        have la : th < 4 := by rw [← hth]; exact la
        generalize hk : 1 + b.toNat % 23 = k
        have k1 : 1 ≤ k := by omega
        have k2 : k ≤ 23 := by omega
        generalize ho2 : c.toNat % Int.toNat 2 = o2 at ec2
        have lc2 : o2 < 2 := by rw [← ho2]; exact lc2
        generalize ho4 : c.toNat % Int.toNat 4 = o4 at ec4
        have lc4 : o4 < 4 := by rw [← ho4]; exact lc4
        have fin : ∀ (ob : Nat) (oz : Int), (k ∈ [3, 4, 6, 7, 8, 9, 10, 11, 16, 17, 18, 19, 20, 21, 22, 23] → oz = (ob : Int)) → EOK (w1, w2, w3, w4, w5, w6) h ⟨th, k, ob, va⟩ →
            mhb_Step ((w1, w2, w3, w4, w5, w6), h.t, (th : Int), (k : Int), oz, va, 0, [], []) = some ((stepP (w1, w2, w3, w4, w5, w6) h ⟨th, k, ob, va⟩).1.t, (stepP (w1, w2, w3, w4, w5, w6) h ⟨th, k, ob, va⟩).2) ∧ mr22_Step ((w1, w2, w3, w4, w5, w6), h.t, (th : Int), (k : Int), oz, va, 0, [], []) = some ((stepP (w1, w2, w3, w4, w5, w6) h ⟨th, k, ob, va⟩).1.t, (stepP (w1, w2, w3, w4, w5, w6) h ⟨th, k, ob, va⟩).2) := fun ob oz hoz ok =>
          ⟨Step_eq o (by omega) ok ⟨rfl, rfl, hoz, rfl⟩, rStep_eq o (by omega) ok ⟨rfl, rfl, hoz, rfl⟩⟩
        have fT := ft.T
        have fL := ft.L
        have fC := ft.C
        have fF := ft.F
        simp only at fT fL fC fF
        have eok : ∀ ob : Nat, (k = 20 ∨ k = 21 → ob < 4) → (6 ≤ k ∧ k ≤ 11 → ob < 3) → (k = 16 ∨ k = 17 → ob = 0) → (k = 3 ∨ k = 4 → ob < 5) → (k = 22 ∨ k = 23 → ob = 0) → EOK (w1, w2, w3, w4, w5, w6) h ⟨th, k, ob, va⟩ := fun ob q1 q2 q3 q4 q5 => by
          refine ⟨la, by simp only []; omega, k1, k2, fun q => by have := q1 q; simp only []; omega, fun q => by have := q2 q; simp only []; omega, fun q => ?_, fun q => by have := q4 q; simp only []; omega, fun q => by have := q5 q; simp only []; omega⟩
          have := q3 q
          simp only [] at this ⊢
          subst this
          have mx : mxP w3 0 = 0 := by unfold mxP; rw [c0]; rfl
          exact ⟨by omega, by rw [c0]; omega, by rw [mx]; omega⟩
        have done : ∀ ob : Nat, ∃ y, (some (Sum.inl (wrapK .i64 ((i : Int) + 1), (w1, w2, w3, w4, w5, w6), (stepP (w1, w2, w3, w4, w5, w6) h ⟨th, k, ob, va⟩).1.t, (stepP (w1, w2, w3, w4, w5, w6) h ⟨th, k, ob, va⟩).1.t)) : Option ((Int × WT × HT × HT) ⊕ (Bool ⊕ Unit))) = some (.inl y) ∧ (∃ (i : Nat) (h : HS), y = ((i : Int), (w1, w2, w3, w4, w5, w6), h.t, h.t) ∧ HOK i h ∧ Fit (w1, w2, w3, w4, w5, w6) h ∧ i ≤ 40) ∧ 41 - y.1.toNat < 41 - (i : Int).toNat := fun ob => by
          rw [wrap_succ h40 (by omega)]
          refine ⟨_, rfl, ⟨i + 1, _, rfl, ?_, ft.step _, by omega⟩, by simp only [Int.toNat_natCast]; omega⟩
          have := step_HOK (w := (w1, w2, w3, w4, w5, w6)) o (by omega) (e := ⟨th, k, ob, va⟩) la
          simpa using this
        have sm : ∀ ob : Nat, mr22_Same ((stepP (w1, w2, w3, w4, w5, w6) h ⟨th, k, ob, va⟩).2, (stepP (w1, w2, w3, w4, w5, w6) h ⟨th, k, ob, va⟩).2) = some true := fun ob => Same_refl _ (clk_En o la).lb
        have sh : ∀ ob : Nat, mr22_SameHB ((stepP (w1, w2, w3, w4, w5, w6) h ⟨th, k, ob, va⟩).1.t, (stepP (w1, w2, w3, w4, w5, w6) h ⟨th, k, ob, va⟩).1.t) = some true := fun ob => SameHB_refl _ (step_HOK (w := (w1, w2, w3, w4, w5, w6)) o (by omega) (e := ⟨th, k, ob, va⟩) la).GH
        have kz : ((k : Nat) : Int) = (k : Int) := rfl
        generalize hz : ((k : Nat) : Int) = z at *
        rcases kinds23 hz.symm k1 k2 with ⟨e, e'⟩ | ⟨e, e'⟩ | ⟨e, e'⟩ | ⟨e, e'⟩ | ⟨e, e'⟩ | ⟨e, e'⟩ | ⟨e, e'⟩ | ⟨e, e'⟩ | ⟨e, e'⟩ | ⟨e, e'⟩ | ⟨e, e'⟩ | ⟨e, e'⟩ | ⟨e, e'⟩ | ⟨e, e'⟩ | ⟨e, e'⟩ | ⟨e, e'⟩ | ⟨e, e'⟩ | ⟨e, e'⟩ | ⟨e, e'⟩ | ⟨e, e'⟩ | ⟨e, e'⟩ | ⟨e, e'⟩ | ⟨e, e'⟩ <;> subst e <;> subst e'
        case inl =>
          obtain ⟨f1, f2⟩ := fin 0 (-1) (fun q => by revert q; decide) (eok 0 (by omega) (by omega) (by omega) (by omega) (by omega))
          simp only [Int.reduceEq, decide_false, decide_true, bcase_t, bcase_f, jn_r, f1, f2, obind_s, sm, sh, Bool.not_true]
          exact done 0
        case inr.inl =>
          obtain ⟨f1, f2⟩ := fin 0 (-1) (fun q => by revert q; decide) (eok 0 (by omega) (by omega) (by omega) (by omega) (by omega))
          simp only [Int.reduceEq, decide_false, decide_true, bcase_t, bcase_f, jn_r, f1, f2, obind_s, sm, sh, Bool.not_true]
          exact done 0
        case inr.inr.inl =>
          obtain ⟨f1, f2⟩ := fin (c.toNat % Int.toNat 5) (((c.toNat % Int.toNat 5) : Nat) : Int) (fun _ => rfl) (eok (c.toNat % Int.toNat 5) (by omega) (by omega) (by omega) (by omega) (by omega))
          simp only [Int.reduceEq, decide_false, decide_true, bcase_t, bcase_f, jn_r, chk_of, Bool.not_false, e5, ec5, f1, f2, obind_s, sm, sh, Bool.not_true]
          exact done (c.toNat % Int.toNat 5)
        case inr.inr.inr.inl =>
          obtain ⟨f1, f2⟩ := fin (c.toNat % Int.toNat 5) (((c.toNat % Int.toNat 5) : Nat) : Int) (fun _ => rfl) (eok (c.toNat % Int.toNat 5) (by omega) (by omega) (by omega) (by omega) (by omega))
          simp only [Int.reduceEq, decide_false, decide_true, bcase_t, bcase_f, jn_r, chk_of, Bool.not_false, e5, ec5, f1, f2, obind_s, sm, sh, Bool.not_true]
          exact done (c.toNat % Int.toNat 5)
        case inr.inr.inr.inr.inl =>
          obtain ⟨f1, f2⟩ := fin 0 (-1) (fun q => by revert q; decide) (eok 0 (by omega) (by omega) (by omega) (by omega) (by omega))
          simp only [Int.reduceEq, decide_false, decide_true, bcase_t, bcase_f, jn_r, f1, f2, obind_s, sm, sh, Bool.not_true]
          exact done 0
        case inr.inr.inr.inr.inr.inl =>
          obtain ⟨f1, f2⟩ := fin o2 ((o2 : Nat) : Int) (fun _ => rfl) (eok o2 (by omega) (by omega) (by omega) (by omega) (by omega))
          simp only [Int.reduceEq, decide_false, decide_true, bcase_t, bcase_f, jn_r, ec2, f1, f2, obind_s, sm, sh, Bool.not_true]
          exact done o2
        case inr.inr.inr.inr.inr.inr.inl =>
          obtain ⟨f1, f2⟩ := fin o2 ((o2 : Nat) : Int) (fun _ => rfl) (eok o2 (by omega) (by omega) (by omega) (by omega) (by omega))
          simp only [Int.reduceEq, decide_false, decide_true, bcase_t, bcase_f, jn_r, ec2, f1, f2, obind_s, sm, sh, Bool.not_true]
          exact done o2
        case inr.inr.inr.inr.inr.inr.inr.inl =>
          obtain ⟨f1, f2⟩ := fin 2 2 (fun _ => rfl) (eok 2 (by omega) (by omega) (by omega) (by omega) (by omega))
          simp only [Int.reduceEq, decide_false, decide_true, bcase_t, bcase_f, jn_r, f1, f2, obind_s, sm, sh, Bool.not_true]
          exact done 2
        case inr.inr.inr.inr.inr.inr.inr.inr.inl =>
          obtain ⟨f1, f2⟩ := fin 2 2 (fun _ => rfl) (eok 2 (by omega) (by omega) (by omega) (by omega) (by omega))
          simp only [Int.reduceEq, decide_false, decide_true, bcase_t, bcase_f, jn_r, f1, f2, obind_s, sm, sh, Bool.not_true]
          exact done 2
        case inr.inr.inr.inr.inr.inr.inr.inr.inr.inl =>
          obtain ⟨f1, f2⟩ := fin 2 2 (fun _ => rfl) (eok 2 (by omega) (by omega) (by omega) (by omega) (by omega))
          simp only [Int.reduceEq, decide_false, decide_true, bcase_t, bcase_f, jn_r, f1, f2, obind_s, sm, sh, Bool.not_true]
          exact done 2
        case inr.inr.inr.inr.inr.inr.inr.inr.inr.inr.inl =>
          obtain ⟨f1, f2⟩ := fin 2 2 (fun _ => rfl) (eok 2 (by omega) (by omega) (by omega) (by omega) (by omega))
          simp only [Int.reduceEq, decide_false, decide_true, bcase_t, bcase_f, jn_r, f1, f2, obind_s, sm, sh, Bool.not_true]
          exact done 2
        case inr.inr.inr.inr.inr.inr.inr.inr.inr.inr.inr.inl =>
          obtain ⟨f1, f2⟩ := fin 0 (-1) (fun q => by revert q; decide) (eok 0 (by omega) (by omega) (by omega) (by omega) (by omega))
          simp only [Int.reduceEq, decide_false, decide_true, bcase_t, bcase_f, jn_r, f1, f2, obind_s, sm, sh, Bool.not_true]
          exact done 0
        case inr.inr.inr.inr.inr.inr.inr.inr.inr.inr.inr.inr.inl =>
          obtain ⟨f1, f2⟩ := fin 0 (-1) (fun q => by revert q; decide) (eok 0 (by omega) (by omega) (by omega) (by omega) (by omega))
          simp only [Int.reduceEq, decide_false, decide_true, bcase_t, bcase_f, jn_r, f1, f2, obind_s, sm, sh, Bool.not_true]
          exact done 0
        case inr.inr.inr.inr.inr.inr.inr.inr.inr.inr.inr.inr.inr.inl =>
          obtain ⟨f1, f2⟩ := fin 0 (-1) (fun q => by revert q; decide) (eok 0 (by omega) (by omega) (by omega) (by omega) (by omega))
          simp only [Int.reduceEq, decide_false, decide_true, bcase_t, bcase_f, jn_r, f1, f2, obind_s, sm, sh, Bool.not_true]
          exact done 0
        case inr.inr.inr.inr.inr.inr.inr.inr.inr.inr.inr.inr.inr.inr.inl =>
          obtain ⟨f1, f2⟩ := fin 0 (-1) (fun q => by revert q; decide) (eok 0 (by omega) (by omega) (by omega) (by omega) (by omega))
          simp only [Int.reduceEq, decide_false, decide_true, bcase_t, bcase_f, jn_r, f1, f2, obind_s, sm, sh, Bool.not_true]
          exact done 0
        case inr.inr.inr.inr.inr.inr.inr.inr.inr.inr.inr.inr.inr.inr.inr.inl =>
          obtain ⟨f1, f2⟩ := fin 0 0 (fun _ => rfl) (eok 0 (by omega) (by omega) (by omega) (by omega) (by omega))
          simp only [Int.reduceEq, decide_false, decide_true, bcase_t, bcase_f, jn_r, f1, f2, obind_s, sm, sh, Bool.not_true]
          exact done 0
        case inr.inr.inr.inr.inr.inr.inr.inr.inr.inr.inr.inr.inr.inr.inr.inr.inl =>
          obtain ⟨f1, f2⟩ := fin 0 0 (fun _ => rfl) (eok 0 (by omega) (by omega) (by omega) (by omega) (by omega))
          simp only [Int.reduceEq, decide_false, decide_true, bcase_t, bcase_f, jn_r, f1, f2, obind_s, sm, sh, Bool.not_true]
          exact done 0
        case inr.inr.inr.inr.inr.inr.inr.inr.inr.inr.inr.inr.inr.inr.inr.inr.inr.inl =>
          obtain ⟨f1, f2⟩ := fin 0 0 (fun _ => rfl) (eok 0 (by omega) (by omega) (by omega) (by omega) (by omega))
          simp only [Int.reduceEq, decide_false, decide_true, bcase_t, bcase_f, jn_r, f1, f2, obind_s, sm, sh, Bool.not_true]
          exact done 0
        case inr.inr.inr.inr.inr.inr.inr.inr.inr.inr.inr.inr.inr.inr.inr.inr.inr.inr.inl =>
          obtain ⟨f1, f2⟩ := fin 0 0 (fun _ => rfl) (eok 0 (by omega) (by omega) (by omega) (by omega) (by omega))
          simp only [Int.reduceEq, decide_false, decide_true, bcase_t, bcase_f, jn_r, f1, f2, obind_s, sm, sh, Bool.not_true]
          exact done 0
        case inr.inr.inr.inr.inr.inr.inr.inr.inr.inr.inr.inr.inr.inr.inr.inr.inr.inr.inr.inl =>
          obtain ⟨f1, f2⟩ := fin o4 ((o4 : Nat) : Int) (fun _ => rfl) (eok o4 (by omega) (by omega) (by omega) (by omega) (by omega))
          simp only [Int.reduceEq, decide_false, decide_true, bcase_t, bcase_f, jn_r, ec4, f1, f2, obind_s, sm, sh, Bool.not_true]
          exact done o4
        case inr.inr.inr.inr.inr.inr.inr.inr.inr.inr.inr.inr.inr.inr.inr.inr.inr.inr.inr.inr.inl =>
          obtain ⟨f1, f2⟩ := fin o4 ((o4 : Nat) : Int) (fun _ => rfl) (eok o4 (by omega) (by omega) (by omega) (by omega) (by omega))
          simp only [Int.reduceEq, decide_false, decide_true, bcase_t, bcase_f, jn_r, ec4, f1, f2, obind_s, sm, sh, Bool.not_true]
          exact done o4
        case inr.inr.inr.inr.inr.inr.inr.inr.inr.inr.inr.inr.inr.inr.inr.inr.inr.inr.inr.inr.inr.inl =>
          obtain ⟨f1, f2⟩ := fin 0 0 (fun _ => rfl) (eok 0 (by omega) (by omega) (by omega) (by omega) (by omega))
          simp only [Int.reduceEq, decide_false, decide_true, bcase_t, bcase_f, jn_r, f1, f2, obind_s, sm, sh, Bool.not_true]
          exact done 0
        case inr.inr.inr.inr.inr.inr.inr.inr.inr.inr.inr.inr.inr.inr.inr.inr.inr.inr.inr.inr.inr.inr =>
          obtain ⟨f1, f2⟩ := fin 0 0 (fun _ => rfl) (eok 0 (by omega) (by omega) (by omega) (by omega) (by omega))
          simp only [Int.reduceEq, decide_false, decide_true, bcase_t, bcase_f, jn_r, f1, f2, obind_s, sm, sh, Bool.not_true]
          exact done 0
      · right
        rw [ile_t (show 40 ≤ (i : Int) by omega), bcase_t]
        exact ⟨_, rfl, rfl⟩
    · right
      rw [ilt_f (show Int.ofNat x.length ≤ (i : Int) from Int.ofNat_le.2 (by omega)), bcase_f]
      exact ⟨_, rfl, rfl⟩
  · rintro r rfl
    rfl
theorem HBAny_plain (x : List (Int × Int × Int × Int)) (hb : ∀ y ∈ x, isB y.1 ∧ isB y.2.1 ∧ isB y.2.2.1 ∧ isB y.2.2.2) (hl : x.length ≤ maxLen) : mlaw23_HBAny x = some true := any_loop x hb rfl rfl rfl rfl rfl rfl hl World_eq
end Go.Proofs.YtjjplipoacljoaaDoor.AI
