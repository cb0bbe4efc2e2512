/-
  Texts of the proof, part 3 of 6: what is used to prove the statement. No condition.
-/
import Derived.Test.YtjjplipoacljoaaDoorHBAnyQ1
namespace Go.Proofs.YtjjplipoacljoaaDoor.AI
open Go.RowKit

section ops
variable {R : Type} {P : Program} {o : Oper} {e : TEnv} {h : THeap} {nx : Nat} {K : KO R} {r : R}

theorem InvH.fresh (hinv : InvH h nx) : h.get nx = none := by
  cases hb : h.get nx with
  | none => rfl
  | some b => have := hinv.low nx b hb; omega
theorem RowsM.lt (hinv : InvH h nx) {m : Nat} (hm : RowsM h m) {i : Nat} (hi : Nat.testBit m i = true) : i < nx := by
  obtain ⟨_, _, _, _, hb⟩ := hm i hi
  exact hinv.low i _ hb

/-- one new block; rows may be given away -/
theorem TOpT.new {s : SOp} (hinv : InvH h nx) (hc : compOp P o.op = some s) {H : Heap} (hH : H.get = erHF h) {y0 : AV} {rdl : List Nat} {b0 : Blk} (ha : aop s (erE e h) H (nm nx) = some ⟨y0, rdl, [nm nx], [(nm nx, b0)], [nm nx]⟩) {B : TBlk} {v : TV} {m rd : Nat} (hm : RowsM h m)
    (hB : ∀ ty l, B = .cells ty l → okVs ((killM m h).set nx (some B)) l = true)
    (hblk : ∀ H1 H2, Dom H1 H2 → Giv h H1 H2 m → ∀ b', erB ((killM m h).set nx (some B)) B = some b' → BLeH H1 H2 b0 b')
    (hval : ∀ H1 H2 y, Dom H1 H2 → Giv h H1 H2 m → erV ((killM m h).set nx (some B)) v = some y → LeH H1 H2 y0 y)
    (hrd : ∀ n ∈ rdl, Nat.testBit rd (ow n) = true) : TOpT P o false e h nx v rd (m ||| bit nx) ((killM m h).set nx (some B)) (nx + 1) := by
  have hk := hinv.kill m
  have hr0 := RowsLe.kill m h
  have hr1 : RowsLe (killM m h) ((killM m h).set nx (some B)) := RowsLe.set fun r hr => by rw [rowOf_eq, hk.fresh] at hr; cases hr
  have hr := hr0.trans hr1
  have hgiv : ∀ i, Nat.testBit m i = true → erHF ((killM m h).set nx (some B)) (nm i) = none := fun i hi => by
    have hlt := hm.lt hinv hi
    obtain ⟨p, sz, n, hd⟩ := er_killed hm hi
    rw [erHF_nm, PT.get_set, if_neg (by omega), hd]; rfl
  refine TOpT.mk' hc hH ha (nm nx :: nms m) (fun i hi => by simp only [List.mem_singleton] at hi; subst hi; simp) (fun n hn => ?_) (fun i hi b' hb' => ?_) (fun H1 H2 d hw1 hw0 hw2 => ?_) hrd ?_ ?_ hr (hk.set hr1 (by omega) (by omega) hB) (by omega)
  · refine erHF_eq hinv hr fun i e => ?_
    subst e
    rw [PT.get_set, if_neg (fun e => hn (by rw [e]; simp)), get_killM, if_neg]
    intro hb; exact hn (List.mem_cons_of_mem _ (nm_mem_nms.2 hb))
  · rcases List.mem_cons.1 hi with rfl | hi
    · exact ⟨b0, by rw [if_pos (by simp), nwGet_one]⟩
    · obtain ⟨j, rfl, hj⟩ := mem_nms.1 hi
      rw [hgiv j hj] at hb'; cases hb'
  · have g : Giv h H1 H2 m := fun i hi => by
      have hlt := hm.lt hinv hi
      have hmem : nm i ∈ nm nx :: nms m := List.mem_cons_of_mem _ (nm_mem_nms.2 hi)
      exact ⟨hw0 _ hmem (fun hc => by simp only [List.mem_singleton] at hc; have := nm_inj hc; omega), by rw [hw2 _ hmem, hgiv i hi]⟩
    refine ⟨fun i hi b b' hb hb2 => ?_, fun y hy => hval H1 H2 y d g hy⟩
    rcases List.mem_cons.1 hi with rfl | hi'
    · rw [hw1 _ (by simp), nwGet_one] at hb
      rw [hw2 _ hi, erHF_nm, PT.get_set, if_pos rfl] at hb2
      simp only [Option.some.injEq] at hb; subst hb
      exact hblk H1 H2 d g b' hb2
    · obtain ⟨j, rfl, hj⟩ := mem_nms.1 hi'
      rw [hw2 _ hi, hgiv j hj] at hb2; cases hb2
  · intro n hn
    rw [Nat.testBit_or]
    rcases List.mem_cons.1 hn with rfl | hn
    · rw [ow_nm, testBit_bit.2 rfl]; simp
    · obtain ⟨j, rfl, hj⟩ := mem_nms.1 hn
      rw [ow_nm, hj]; rfl
  · intro n hn; simp only [List.mem_singleton] at hn; subst hn; rw [ow_nm]; omega

/-- one block is written; rows may be given away -/
theorem TOpT.wrt {s : SOp} (hinv : InvH h nx) (hc : compOp P o.op = some s) {H : Heap} (hH : H.get = erHF h) {id : Nat} {y0 : AV} {rdl : List Nat} {b0 : Blk} {k : Nat} (ha : aop s (erE e h) H k = some ⟨y0, rdl, [nm id], [(nm id, b0)], []⟩) {B0 B : TBlk} (hb0 : h.get id = some B0) {v : TV} {m rd : Nat} (hm : RowsM h m) (hmid : Nat.testBit m id = false)
    (hrow : rowB B = rowB B0) (hB : ∀ ty l, B = .cells ty l → okVs ((killM m h).set id (some B)) l = true)
    (hblk : ∀ H1 H2, Dom H1 H2 → Giv h H1 H2 m → ∀ b', erB ((killM m h).set id (some B)) B = some b' → BLeH H1 H2 b0 b')
    (hval : ∀ H1 H2 y, Dom H1 H2 → Giv h H1 H2 m → erV ((killM m h).set id (some B)) v = some y → LeH H1 H2 y0 y)
    (hrd : ∀ n ∈ rdl, Nat.testBit rd (ow n) = true) : TOpT P o false e h nx v rd (m ||| bit id) ((killM m h).set id (some B)) nx := by
  have hk := hinv.kill m
  have hr0 := RowsLe.kill m h
  have hkid : (killM m h).get id = some B0 := by rw [get_killM, hmid]; simpa using hb0
  have hr1 : RowsLe (killM m h) ((killM m h).set id (some B)) := RowsLe.set fun r hr => by rw [rowOf_eq, hkid] at hr; rw [hrow]; exact hr
  have hr := hr0.trans hr1
  have hgiv : ∀ i, Nat.testBit m i = true → erHF ((killM m h).set id (some B)) (nm i) = none := fun i hi => by
    have hne : i ≠ id := fun e => by rw [e, hmid] at hi; cases hi
    obtain ⟨p, sz, n, hd⟩ := er_killed hm hi
    rw [erHF_nm, PT.get_set, if_neg hne, hd]; rfl
  refine TOpT.mk' hc hH ha (nm id :: nms m) (fun i hi => by simp only [List.mem_singleton] at hi; subst hi; simp) (fun n hn => ?_) (fun i hi b' hb' => ?_) (fun H1 H2 d hw1 hw0 hw2 => ?_) hrd ?_ (by simp) hr (hk.set hr1 (hinv.low id B0 hb0) (by omega) hB) (by omega)
  · refine erHF_eq hinv hr fun i e => ?_
    subst e
    rw [PT.get_set, if_neg (fun e => hn (by rw [e]; simp)), get_killM, if_neg]
    intro hb; exact hn (List.mem_cons_of_mem _ (nm_mem_nms.2 hb))
  · rcases List.mem_cons.1 hi with rfl | hi
    · exact ⟨b0, by rw [if_pos (by simp), nwGet_one]⟩
    · obtain ⟨j, rfl, hj⟩ := mem_nms.1 hi
      rw [hgiv j hj] at hb'; cases hb'
  · have g : Giv h H1 H2 m := fun i hi => by
      have hne : i ≠ id := fun e => by rw [e, hmid] at hi; cases hi
      have hmem : nm i ∈ nm id :: nms m := List.mem_cons_of_mem _ (nm_mem_nms.2 hi)
      exact ⟨hw0 _ hmem (fun hc => by simp only [List.mem_singleton] at hc; exact hne (nm_inj hc)), by rw [hw2 _ hmem, hgiv i hi]⟩
    refine ⟨fun i hi b b' hb hb2 => ?_, fun y hy => hval H1 H2 y d g hy⟩
    rcases List.mem_cons.1 hi with rfl | hi'
    · rw [hw1 _ (by simp), nwGet_one] at hb
      rw [hw2 _ hi, erHF_nm, PT.get_set, if_pos rfl] at hb2
      simp only [Option.some.injEq] at hb; subst hb
      exact hblk H1 H2 d g b' hb2
    · obtain ⟨j, rfl, hj⟩ := mem_nms.1 hi'
      rw [hw2 _ hi, hgiv j hj] at hb2; cases hb2
  · intro n hn
    rw [Nat.testBit_or]
    rcases List.mem_cons.1 hn with rfl | hn
    · rw [ow_nm, testBit_bit.2 rfl]; simp
    · obtain ⟨j, rfl, hj⟩ := mem_nms.1 hn
      rw [ow_nm, hj]; rfl

theorem replT (h : THeap) {z : List Value} {zc : List TV} (hz : csts z = some zc) : ∀ len, erVs h (List.replicate len zc).flatten = some ((repl z len).map .f)
  | 0 => rfl
  | n + 1 => by
    rw [List.replicate_succ, List.flatten_cons, repl, List.map_append]
    refine erVs_append ?_ (replT h hz n)
    rw [(csts_er h hz).1]; simp only [List.map_map]; rfl

theorem rowq_ok {H : Heap} (hH : H.get = erHF h) {T : Ty} {v : TV} {ys : List T.den} {m : Nat} {y : AV} (ha : asT h (.sl T) v = some (ys, m)) (hy : erV h v = some y) : ∃ rd, y.row? H T.size = some ((ys.flatMap (encC T)).map .f, ys.length, rd) ∧ ∀ n ∈ rd, ∃ i, n = nm i ∧ Nat.testBit m i = true := by
  have fl := fun zs : List T.den => flat_length (encC_length T) zs
  have tk : ∀ zs : List T.den, (zs.flatMap (encC T)).take (zs.length * T.size) = zs.flatMap (encC T) := fun zs => by rw [← fl, List.take_length]
  cases v with
  | f S x =>
    simp only [asT, asC] at ha
    split at ha
    · rename_i z hz
      simp only [Option.some.injEq, Prod.mk.injEq] at ha
      obtain ⟨rfl, _⟩ := ha
      obtain ⟨e, rfl⟩ := castT_ok hz
      subst e
      simp only [erV, Option.some.injEq] at hy; subst hy
      refine ⟨[], ?_, by simp⟩
      simp only [enc1, AV.row?]
      rw [if_pos (Nat.ble_eq_true_of_le (by rw [fl x]; exact Nat.le_refl _)), tk]
    · cases ha
  | emp =>
    simp only [asT, asC, Option.some.injEq, Prod.mk.injEq] at ha
    obtain ⟨rfl, _⟩ := ha
    simp only [erV, Option.some.injEq] at hy; subst hy
    exact ⟨[], rfl, by simp⟩
  | nil =>
    simp only [asT, asC, Option.some.injEq, Prod.mk.injEq] at ha
    obtain ⟨rfl, _⟩ := ha
    simp only [erV, Option.some.injEq] at hy; subst hy
    exact ⟨[], rfl, by simp⟩
  | row id =>
    simp only [asT, asC] at ha
    split at ha
    · rename_i ty p S xs hb
      split at ha
      · rename_i z hz
        simp only [Option.some.injEq, Prod.mk.injEq] at ha
        obtain ⟨rfl, rfl⟩ := ha
        obtain ⟨e, rfl⟩ := castT_ok hz
        cases e
        simp only [erV, rowOf, hb, Option.some.injEq] at hy; subst hy
        unfold rowAV
        split
        · rename_i hp
          simp only [Bool.and_eq_true, beq_iff_eq] at hp
          have : xs = [] := List.length_eq_zero_iff.1 hp.2
          subst this
          exact ⟨[], rfl, by simp⟩
        · rename_i hp
          have hg : H.get (nm id) = some ⟨ty, .fz (xs.flatMap (encC T))⟩ := by rw [hH, erHF_nm, hb]; simp only [Option.bind_some, erB, if_neg hp]
          refine ⟨[nm id], ?_, fun n hn => ?_⟩
          · simp only [AV.row?, hg, beq_self_eq_true, if_true, BC.isCells, BC.len, Bool.true_and]
            rw [if_pos (Nat.ble_eq_true_of_le (by rw [fl xs]; exact Nat.le_refl _))]
            simp only [BC.toMx, ← List.map_take, tk]
          · simp only [List.mem_singleton] at hn; exact ⟨id, hn, testBit_bit.2 rfl⟩
      · cases ha
    · cases ha
  | agg l => simp [asT, Ty.one] at ha
  | fel T xs j hj off => simp [asT, asC] at ha
  | pel id sz j off => simp [asT, asC] at ha
  | ptr id off => simp [asT, asC] at ha
  | mp id => simp [asT, asC] at ha
  | tup q => simp [asT, asC] at ha
  | clo f q => simp [asT, asC] at ha
  | undef => simp [asT, asC] at ha
  | anyb => simp [asT, asC] at ha
theorem isC_cs {v : TV} {y : AV} (hy : erV h v = some y) (hc : v.isC = true) : allCell y.cs = true := by
  rw [one_cs (isC_er hy hc)]
  simp only [allCell, Bool.and_true]; exact isC_er hy hc
theorem enc_cells (T : Ty) (x : T.den) : allCell ((encC T x).map .f) = true := by
  have : ∀ l : List FV, (∀ x ∈ l, x.isCell = true) → allCell (l.map .f) = true := by
    intro l hl
    induction l with
    | nil => rfl
    | cons z r ih => simp only [List.map_cons, allCell, Bool.and_eq_true]; exact ⟨hl z (by simp), ih fun x hx => hl x (by simp [hx])⟩
  exact this _ (encC_cell T x)
theorem asC_cell {T : Ty} {v : TV} {x : T.den} {m : Nat} {y : AV} (ha : asC h T v = some (x, m)) (hy : erV h v = some y) : allCell y.cs = true := by
  cases v with
  | f S v => simp only [erV, Option.some.injEq] at hy; subst hy; rw [enc1_cs]; exact enc_cells S v
  | emp => exact isC_cs hy rfl
  | nil => exact isC_cs hy rfl
  | row id => exact isC_cs hy rfl
  | fel T xs j hj off => simp [asC] at ha
  | pel id sz j off => simp [asC] at ha
  | ptr id off => simp [asC] at ha
  | mp id => simp [asC] at ha
  | agg q => simp [asC] at ha
  | tup q => simp [asC] at ha
  | clo f q => simp [asC] at ha
  | undef => simp [asC] at ha
  | anyb => simp [asC] at ha
theorem asC_isC {T : Ty} (hT : T.one = true) {v : TV} {x : T.den} {m : Nat} (ha : asC h T v = some (x, m)) : v.isC = true := by
  cases v with
  | f S v =>
    simp only [asC] at ha
    split at ha
    · rename_i z hz
      obtain ⟨e, _⟩ := castT_ok hz
      subst e; exact hT
    · cases ha
  | emp => rfl
  | nil => rfl
  | row id => rfl
  | fel T xs j hj off => simp [asC] at ha
  | pel id sz j off => simp [asC] at ha
  | ptr id off => simp [asC] at ha
  | mp id => simp [asC] at ha
  | agg q => simp [asC] at ha
  | tup q => simp [asC] at ha
  | clo f q => simp [asC] at ha
  | undef => simp [asC] at ha
  | anyb => simp [asC] at ha
theorem allC_app {a b : List TV} (ha : allC a = true) (hb : allC b = true) : allC (a ++ b) = true := by
  induction a with
  | nil => exact hb
  | cons z r ih => simp only [allC, Bool.and_eq_true, List.cons_append] at ha ⊢; exact ⟨ha.1, ih ha.2⟩
theorem packC_isC : ∀ (n : Nat) (T : Ty) (l : List TV) (x : T.den) (m : Nat) (r : List TV), packC h n T l = some (x, m, r) → ∃ a, l = a ++ r ∧ allC a = true
  | 0, _, _, _, _, _, hp => by simp [packC] at hp
  | n + 1, .st t, l, x, m, r, hp => packC_isC n t l x m r hp
  | n + 1, .pr a b, l, x, m, r, hp => by
    simp only [packC] at hp
    split at hp
    · rename_i x1 m1 r1 h1
      split at hp
      · rename_i x2 m2 r2 h2
        simp only [Option.some.injEq, Prod.mk.injEq] at hp
        obtain ⟨_, _, rfl⟩ := hp
        obtain ⟨a1, rfl, g1⟩ := packC_isC n a l x1 m1 r1 h1
        obtain ⟨a2, rfl, g2⟩ := packC_isC n b r1 x2 m2 r2 h2
        exact ⟨a1 ++ a2, by simp, allC_app g1 g2⟩
      · cases hp
    · cases hp
  | n + 1, .un, l, x, m, r, hp => by
    simp only [packC, Option.some.injEq, Prod.mk.injEq] at hp
    obtain ⟨_, _, rfl⟩ := hp; exact ⟨[], rfl, rfl⟩
  | n + 1, .ex, l, x, m, r, hp => by
    simp only [packC] at hp
    split at hp
    · rename_i x1 m1 r1 h1
      simp only [Option.some.injEq, Prod.mk.injEq] at hp
      obtain ⟨_, _, rfl⟩ := hp
      exact packC_isC n exF l x1 m1 r1 h1
    · cases hp
  | n + 1, .sm, l, x, m, r, hp => by
    simp only [packC] at hp
    split at hp
    · rename_i x1 m1 r1 h1
      simp only [Option.some.injEq, Prod.mk.injEq] at hp
      obtain ⟨_, _, rfl⟩ := hp
      exact packC_isC n smF l x1 m1 r1 h1
    · cases hp
  | n + 1, .int k, l, x, m, r, hp => by
    simp only [packC] at hp
    split at hp
    · rename_i c q
      split at hp
      · rename_i x1 m1 h1
        simp only [Option.some.injEq, Prod.mk.injEq] at hp
        obtain ⟨_, _, rfl⟩ := hp
        exact ⟨[c], rfl, by simp [allC, asC_isC rfl h1]⟩
      · cases hp
    · cases hp
  | n + 1, .bool, l, x, m, r, hp => by
    simp only [packC] at hp
    split at hp
    · rename_i c q
      split at hp
      · rename_i x1 m1 h1
        simp only [Option.some.injEq, Prod.mk.injEq] at hp
        obtain ⟨_, _, rfl⟩ := hp
        exact ⟨[c], rfl, by simp [allC, asC_isC rfl h1]⟩
      · cases hp
    · cases hp
  | n + 1, .str, l, x, m, r, hp => by
    simp only [packC] at hp
    split at hp
    · rename_i c q
      split at hp
      · rename_i x1 m1 h1
        simp only [Option.some.injEq, Prod.mk.injEq] at hp
        obtain ⟨_, _, rfl⟩ := hp
        exact ⟨[c], rfl, by simp [allC, asC_isC rfl h1]⟩
      · cases hp
    · cases hp
  | n + 1, .sl t, l, x, m, r, hp => by
    simp only [packC] at hp
    split at hp
    · rename_i c q
      split at hp
      · rename_i x1 m1 h1
        simp only [Option.some.injEq, Prod.mk.injEq] at hp
        obtain ⟨_, _, rfl⟩ := hp
        exact ⟨[c], rfl, by simp [allC, asC_isC rfl h1]⟩
      · cases hp
    · cases hp
theorem asT_cell {T : Ty} {v : TV} {x : T.den} {m : Nat} {y : AV} (ha : asT h T v = some (x, m)) (hy : erV h v = some y) : allCell y.cs = true := by
  cases v with
  | agg l =>
    simp only [asT] at ha
    split at ha
    · cases ha
    · split at ha
      · rename_i x1 m1 h1
        obtain ⟨a, e, ga⟩ := packC_isC 40 T l x1 m1 [] h1
        rw [List.append_nil] at e; subst e
        simp only [erV] at hy
        split at hy
        · rename_i l' hl
          simp only [Option.some.injEq] at hy; subst hy
          exact allC_er hl ga
        · cases hy
      · cases ha
  | f S v => exact asC_cell (v := .f S v) ha hy
  | fel T xs j hj off => exact asC_cell (v := .fel T xs j hj off) ha hy
  | pel id sz j off => exact asC_cell (v := .pel id sz j off) ha hy
  | ptr id off => exact asC_cell (v := .ptr id off) ha hy
  | row id => exact asC_cell (v := .row id) ha hy
  | emp => exact asC_cell (v := .emp) ha hy
  | nil => exact asC_cell (v := .nil) ha hy
  | mp id => exact asC_cell (v := .mp id) ha hy
  | tup q => exact asC_cell (v := .tup q) ha hy
  | clo g q => exact asC_cell (v := .clo g q) ha hy
  | undef => exact asC_cell (v := .undef) ha hy
  | anyb => exact asC_cell (v := .anyb) ha hy
theorem setAt_cell {u : TV} {y : AV} (hy : erV h u = some y) : ∀ (n : Nat) (T : Ty) (v : T.den) (off sz : Nat) (z : T.den) (m : Nat), setAt h u n T v off sz = some (z, m) → allCell y.cs = true
  | 0, _, _, _, _, _, _, hg => by simp [setAt] at hg
  | n + 1, .st t, v, off, sz, z, m, hg => by
    simp only [setAt] at hg
    split at hg
    · rename_i q hq
      split at hq
      · exact asT_cell hq hy
      · cases hq
    · exact setAt_cell hy n t v off sz z m hg
  | n + 1, .pr a b, v, off, sz, z, m, hg => by
    simp only [setAt] at hg
    split at hg
    · split at hg
      · rename_i z1 m1 h1; exact setAt_cell hy n a v.1 off sz z1 m1 h1
      · cases hg
    · split at hg
      · rename_i z1 m1 h1; exact setAt_cell hy n b v.2 _ sz z1 m1 h1
      · cases hg
  | n + 1, .un, v, off, sz, z, m, hg => by simp [setAt] at hg
  | n + 1, .ex, v, off, sz, z, m, hg => by
    simp only [setAt] at hg
    split at hg
    · rename_i q hq
      split at hq
      · exact asT_cell hq hy
      · cases hq
    · split at hg
      · rename_i z1 m1 h1; exact setAt_cell hy n exF _ off sz z1 m1 h1
      · cases hg
  | n + 1, .sm, v, off, sz, z, m, hg => by
    simp only [setAt] at hg
    split at hg
    · rename_i q hq
      split at hq
      · exact asT_cell hq hy
      · cases hq
    · split at hg
      · rename_i z1 m1 h1; exact setAt_cell hy n smF _ off sz z1 m1 h1
      · cases hg
  | n + 1, .int k, v, off, sz, z, m, hg => by
    simp only [setAt] at hg
    split at hg
    · exact asC_cell hg hy
    · cases hg
  | n + 1, .bool, v, off, sz, z, m, hg => by
    simp only [setAt] at hg
    split at hg
    · exact asC_cell hg hy
    · cases hg
  | n + 1, .str, v, off, sz, z, m, hg => by
    simp only [setAt] at hg
    split at hg
    · exact asC_cell hg hy
    · cases hg
  | n + 1, .sl t, v, off, sz, z, m, hg => by
    simp only [setAt] at hg
    split at hg
    · exact asC_cell hg hy
    · cases hg
theorem allF_map (l : List FV) : allF (l.map .f) = some l := by
  induction l with
  | nil => rfl
  | cons x r ih => simp only [List.map_cons, allF, ih]
theorem mkBC_map (l : List FV) : mkBC (l.map .f) = .fz l := by unfold mkBC; rw [allF_map]

variable (hinv : InvH h nx) (hi : InvE e h)
include hinv hi

theorem K_bsl {con : FuncId → Option Con} {tyv : TypeId → Option Ty} {ty : TypeId} {sz len : Nat} {z : List Value} {parts : List (Nat × Nat × Operand)} (hc : compOp P o.op = some (.bsl ty sz len z parts)) (hk : topK con tyv (.op (.bsl ty sz len z parts)) e h nx K = some r) : Res P o false e h nx K r := by
  obtain ⟨H, hH⟩ := erH_ex h
  simp only [topK] at hk
  split at hk
  · rename_i T zc hT hz
    split at hk
    · rename_i hs
      have hs := Nat.eq_of_beq_eq_true hs
      subst hs
      split at hk
      · rename_i cs hf
        split at hk
        · rename_i xs m hp
          obtain ⟨cs', h1, h2, _⟩ := fillT_ok hi parts _ cs _ hf (replT h hz len)
          have hm := packN_m len cs xs m hp
          refine ⟨_, _, _, _, _, hk, TOpT.new hinv hc hH (y0 := if len = 0 then .emp else .row (nm nx) T.size len) (rdl := []) (b0 := ⟨ty, mkBC cs'⟩) (by simp only [aop, h1]) hm (fun _ _ he => by cases he) (fun H1 H2 d g b' hb' => ?_) (fun H1 H2 y d g hy => ?_) (by simp)⟩
          · simp only [erB] at hb'
            split at hb'
            · cases hb'
            rw [Option.some.injEq] at hb'; subst hb'
            obtain ⟨q1, q2⟩ := mkBC_toMx cs'
            refine BLeH.cells q2 rfl ?_ fun x hx => ?_
            · rw [q1]; exact (packN_ok d len cs xs m cs' hp h2 g).1
            · simp only [BC.toMx] at hx
              obtain ⟨q, hq, rfl⟩ := List.mem_map.1 hx
              exact flat_cell T _ q hq
          · simp only [erV, rowOf_eq, PT.get_set, if_true, Option.bind_some, rowB, rowAV, Option.some.injEq] at hy
            rw [(packN_ok d len cs xs m cs' hp h2 g).2] at hy
            split at hy
            · rename_i hq
              simp only [Bool.and_eq_true, beq_iff_eq] at hq
              subst hy; rw [if_pos hq.2]; exact LeH.refl d _
            · rename_i hq
              subst hy
              rw [if_neg (fun h0 => hq (by subst h0; rfl))]; exact LeH.refl d _
        · cases hk
      · cases hk
    · cases hk
  · cases hk

theorem K_app {con : FuncId → Option Con} {tyv : TypeId → Option Ty} {ty : TypeId} {sz bytes : Nat} {s x : Operand} (hc : compOp P o.op = some (.app ty sz bytes s x)) (hk : topK con tyv (.op (.app ty sz bytes s x)) e h nx K = some r) : Res P o false e h nx K r := by
  obtain ⟨H, hH⟩ := erH_ex h
  have hfr := hinv.fresh
  simp only [topK] at hk
  split at hk
  · rename_i T b y hT hv hv2
    split at hk
    · rename_i hs
      have hs := Nat.eq_of_beq_eq_true hs
      subst hs
      split at hk
      · rename_i ys m hys
        obtain ⟨yb, h1, h2⟩ := opnd_ev hi hv
        obtain ⟨yy, h3, h4⟩ := opnd_ev hi hv2
        obtain ⟨rdl, h5, h6⟩ := rowq_ok hH hys h4
        -- an empty slice is appended to
        have onEmp : ∀ (rd' : Nat), (∀ n ∈ rdl, Nat.testBit rd' (ow n) = true) → isEmpB yb = true → Le yb .emp → roomy (List.length ys) bytes = true → TOpT P o false e h nx (.row nx) rd' (bit nx) (h.set nx (some (.rows ty true T ys))) (nx + 1) := by
          intro rd' hrd' he hle hroom
          have hr1 : RowsLe h (h.set nx (some (.rows ty true T ys))) := RowsLe.set fun r hr => by rw [rowOf_eq, hfr] at hr; cases hr
          have hyb : ∀ id sz' n, yb ≠ .row id sz' n := by rintro id sz' n rfl; cases he
          have ha0 : aop (.app ty T.size bytes s x) (erE e h) H (nm nx) = if List.length ys == 0 then some ⟨yb, rdl, [], [], []⟩ else some ⟨.row (nm nx) T.size (List.length ys), rdl, [nm nx], [(nm nx, ⟨ty, mkBC ((ys.flatMap (encC T)).map .f)⟩)], [nm nx]⟩ := by
            simp only [aop, h1, h3, h5]
            cases yb with
            | row id sz' n => exact absurd rfl (hyb id sz' n)
            | _ => simp only [he, hroom, Bool.and_self, if_true]
          by_cases hl : List.length ys = 0
          · rw [hl] at ha0
            simp only [beq_self_eq_true, if_true] at ha0
            have hnil : ys = [] := List.length_eq_zero_iff.1 hl
            subst hnil
            refine TOpT.mk' hc hH ha0 [] (by simp) (fun n _ => ?_) (by simp) (fun H1 H2 d _ _ _ => ⟨by simp, fun y hy => ?_⟩) hrd' (by simp) (by simp) hr1 (hinv.set hr1 (by omega) (by omega) fun _ _ he => by cases he) (by omega)
            · by_cases hn : n = nm nx
              · subst hn
                rw [erHF_nm, erHF_nm, PT.get_set, if_pos rfl, hfr]; rfl
              · refine erHF_eq hinv hr1 fun i e => ?_
                subst e
                rw [PT.get_set, if_neg (fun e => hn (by rw [e]))]
            · simp only [erV, rowOf_eq, PT.get_set, if_true, Option.bind_some, rowB, rowAV, List.length_nil, beq_self_eq_true, Bool.and_self, Option.some.injEq] at hy
              subst hy
              exact hle.toH d
          · rw [if_neg (by simpa using hl)] at ha0
            rw [mkBC_map] at ha0
            have key := TOpT.new (m := 0) (rd := rd') hinv hc hH ha0 (B := .rows ty true T ys) (v := .row nx) (RowsM.zero h) (fun _ _ he => by cases he) (fun H1 H2 d g b' hb' => by
              simp only [erB] at hb'
              rw [if_neg (by simpa using hl)] at hb'
              simp only [Option.some.injEq] at hb'; subst hb'
              exact BLeH.refl d _) (fun H1 H2 y d g hy => by
              simp only [erV, rowOf_eq, PT.get_set, if_true, Option.bind_some, rowB, rowAV] at hy
              rw [if_neg (by simpa using hl)] at hy
              simp only [Option.some.injEq] at hy; subst hy
              exact LeH.refl d _) hrd'
            rw [Nat.zero_or] at key
            exact key
        split at hk
        · rename_i id
          split at hk
          · rename_i ty' p S xs0 hb
            split at hk
            · rename_i xs hxs
              obtain ⟨ee, rfl⟩ := castT_ok hxs
              cases ee
              split at hk
              · rename_i hcond
                simp only [Bool.and_eq_true, beq_iff_eq, Bool.not_eq_true'] at hcond
                obtain ⟨rfl, hmid⟩ := hcond
                obtain ⟨hroom, hk⟩ := chk_some hk
                simp only [erV, rowOf, hb, Option.some.injEq] at h2
                have hidlt := hinv.low id _ hb
                have hne : nx ≠ id := by omega
                have hrd : ∀ n ∈ rdl, Nat.testBit (bit id ||| m) (ow n) = true := fun n hn => by
                  obtain ⟨i, rfl, hm⟩ := h6 n hn
                  rw [ow_nm, Nat.testBit_or, hm]; simp
                generalize hh' : (h.set id (some (.dead p T.size (List.length xs0)))).set nx (some (.rows ty' p T (xs0 ++ ys))) = h' at hk
                have hrA : RowsLe h (h.set id (some (.dead p T.size (List.length xs0)))) := RowsLe.set fun r hr => by rw [rowOf_eq, hb] at hr; exact hr
                have hg2 : ∀ i, h'.get i = if i = nx then some (.rows ty' p T (xs0 ++ ys)) else if i = id then some (.dead p T.size (List.length xs0)) else h.get i := fun i => by rw [← hh', PT.get_set, PT.get_set]
                have hr : RowsLe h h' := by
                  rw [← hh']
                  refine hrA.trans (RowsLe.set fun r hr => ?_)
                  rw [rowOf_eq, PT.get_set, if_neg hne, hfr] at hr; cases hr
                have hinv' : InvH h' (nx + 1) := by
                  refine ⟨fun i ty l hil => ?_, fun i c hic => ?_⟩
                  · rw [hg2] at hil
                    split at hil
                    · cases hil
                    · split at hil
                      · cases hil
                      · exact okVs_mono hr l (hinv.cells i ty l hil)
                  · rw [hg2] at hic
                    split at hic
                    · omega
                    · split at hic
                      · omega
                      · have := hinv.low i c hic; omega
                have hsame : ∀ n, n ≠ nm nx → n ≠ nm id → erHF h' n = erHF h n := fun n h1 h2 => erHF_eq hinv hr fun i e => by
                  subst e
                  rw [hg2, if_neg (fun e => h1 (by rw [e])), if_neg (fun e => h2 (by rw [e]))]
                have hdead : erHF h' (nm id) = none := by rw [erHF_nm, hg2, if_neg (by omega), if_pos rfl]; rfl
                have hnew : erHF h' (nm nx) = if p && (xs0 ++ ys).length == 0 then none else some ⟨ty', .fz ((xs0 ++ ys).flatMap (encC T))⟩ := by rw [erHF_nm, hg2, if_pos rfl]; rfl
                have hval : erV h' (.row nx) = some (rowAV p nx T.size (xs0 ++ ys).length) := by simp only [erV, rowOf_eq, hg2, if_true, Option.bind_some, rowB]
                have hwm : ∀ n, n = nm nx ∨ n = nm id → Nat.testBit (bit id ||| bit nx) (ow n) = true := fun n hn => by
                  rcases hn with rfl | rfl <;> rw [ow_nm, Nat.testBit_or, testBit_bit.2 rfl] <;> simp
                refine ⟨_, _, _, _, _, hk, ?_⟩
                by_cases hp : (p && xs0.length == 0) = true
                · -- nothing there yet
                  have hyb : yb = .emp := by rw [← h2]; unfold rowAV; rw [if_pos hp]
                  subst hyb
                  simp only [Bool.and_eq_true, beq_iff_eq] at hp
                  obtain ⟨rfl, hl0⟩ := hp
                  have hnil : xs0 = [] := List.length_eq_zero_iff.1 hl0
                  subst hnil
                  have hroom' : roomy (List.length ys) bytes = true := by simpa using hroom
                  have ha0 : aop (.app ty' T.size bytes s x) (erE e h) H (nm nx) = if List.length ys == 0 then some ⟨.emp, rdl, [], [], []⟩ else some ⟨.row (nm nx) T.size (List.length ys), rdl, [nm nx], [(nm nx, ⟨ty', mkBC ((ys.flatMap (encC T)).map .f)⟩)], [nm nx]⟩ := by
                    simp only [aop, h1, h3, h5, isEmpB, hroom', Bool.and_self, if_true]
                  have hdead0 : erHF h (nm id) = none := by rw [erHF_nm, hb]; rfl
                  by_cases hl : List.length ys = 0
                  · rw [hl] at ha0
                    simp only [beq_self_eq_true, if_true] at ha0
                    have hnil : ys = [] := List.length_eq_zero_iff.1 hl
                    subst hnil
                    refine TOpT.mk' hc hH ha0 [] (by simp) (fun n _ => ?_) (by simp) (fun H1 H2 d _ _ _ => ⟨by simp, fun y hy => ?_⟩) hrd (by simp) (by simp) hr hinv' (by omega)
                    · by_cases hn : n = nm nx
                      · subst hn; rw [hnew, erHF_nm, hfr]; rfl
                      · by_cases hn2 : n = nm id
                        · subst hn2; rw [hdead, hdead0]
                        · exact hsame n hn hn2
                    · rw [hval] at hy
                      simp only [rowAV, List.append_nil, List.length_nil, beq_self_eq_true, Bool.and_self, if_true, Option.some.injEq] at hy
                      subst hy; exact LeH.refl d _
                  · rw [if_neg (by simpa using hl), mkBC_map] at ha0
                    refine TOpT.mk' hc hH ha0 [nm nx] (fun i hi => hi) (fun n hn => ?_) (fun i hi b' _ => ⟨_, by rw [if_pos hi]; simp only [List.mem_singleton] at hi; subst hi; exact nwGet_one _ _⟩) (fun H1 H2 d hw1 _ hw2 => ⟨fun i hi b b' hb1 hb2 => ?_, fun y hy => ?_⟩) hrd (fun n hn => hwm n (.inl (by simpa using hn))) (fun n hn => by simp only [List.mem_singleton] at hn; subst hn; rw [ow_nm]; omega) hr hinv' (by omega)
                    · have hn1 : n ≠ nm nx := by simpa using hn
                      by_cases hn2 : n = nm id
                      · subst hn2; rw [hdead, hdead0]
                      · exact hsame n hn1 hn2
                    · simp only [List.mem_singleton] at hi; subst hi
                      rw [hw1 _ (by simp), nwGet_one] at hb1
                      rw [hw2 _ (by simp), hnew, if_neg (by simpa using hl)] at hb2
                      simp only [Option.some.injEq, List.nil_append] at hb1 hb2; subst hb1; subst hb2
                      exact BLeH.refl d _
                    · rw [hval] at hy
                      simp only [rowAV, List.nil_append] at hy
                      rw [if_neg (by simpa using hl)] at hy
                      simp only [Option.some.injEq] at hy; subst hy; exact LeH.refl d _
                · have hyb : yb = .row (nm id) T.size xs0.length := by rw [← h2]; unfold rowAV; rw [if_neg hp]
                  subst hyb
                  have hg : H.get (nm id) = some ⟨ty', .fz (xs0.flatMap (encC T))⟩ := by rw [hH, erHF_nm, hb]; simp only [Option.bind_some, erB, if_neg hp]
                  have fl := flat_length (encC_length T) xs0
                  have tk : (xs0.flatMap (encC T)).take (xs0.length * T.size) = xs0.flatMap (encC T) := by rw [← fl, List.take_length]
                  have hmem : mem (nm id) rdl = false := by
                    cases hx : mem (nm id) rdl with
                    | false => rfl
                    | true =>
                      obtain ⟨i, e, hm⟩ := h6 _ (memL.1 hx)
                      rw [← nm_inj e, hmid] at hm; cases hm
                  have ha0 : aop (.app ty' T.size bytes s x) (erE e h) H (nm nx) = some ⟨.row (nm nx) T.size (xs0.length + ys.length), nm id :: rdl, [nm nx, nm id], [(nm nx, ⟨ty', .fz ((xs0 ++ ys).flatMap (encC T))⟩)], [nm nx]⟩ := by
                    have hcnd : (T.size == T.size && !(mem (nm id) rdl) && (BC.fz (xs0.flatMap (encC T))).isCells && Nat.ble (xs0.length * T.size) (BC.fz (xs0.flatMap (encC T))).len && ty' == ty' && roomy (xs0.length + ys.length) bytes) = true := by
                      have : Nat.ble (xs0.length * T.size) (BC.fz (xs0.flatMap (encC T))).len = true := Nat.ble_eq_true_of_le (by simp only [BC.len]; omega)
                      rw [this, hmem, hroom]; simp [BC.isCells]
                    simp only [aop, h1, h3, h5, hg, hcnd, if_true, BC.toMx, ← List.map_take, tk, ← List.map_append, mkBC_map, List.flatMap_append]
                  have hne2 : ¬ ((p && (xs0 ++ ys).length == 0) = true) := by
                    simp only [Bool.and_eq_true, beq_iff_eq, List.length_append] at hp ⊢
                    intro hh; exact hp ⟨hh.1, by omega⟩
                  refine TOpT.mk' hc hH ha0 [nm nx, nm id] (fun i hi => hi) (fun n hn => ?_) (fun i hi b' hb' => ?_) (fun H1 H2 d hw1 _ hw2 => ⟨fun i hi b b' hb1 hb2 => ?_, fun y hy => ?_⟩) (fun n hn => ?_) (fun n hn => hwm n (by simpa using hn)) (fun n hn => by simp only [List.mem_singleton] at hn; subst hn; rw [ow_nm]; omega) hr hinv' (by omega)
                  · simp only [List.mem_cons, List.not_mem_nil, or_false, not_or] at hn
                    exact hsame n hn.1 hn.2
                  · simp only [List.mem_cons, List.not_mem_nil, or_false] at hi
                    rcases hi with rfl | rfl
                    · exact ⟨_, by rw [if_pos (by simp)]; exact nwGet_one _ _⟩
                    · rw [hdead] at hb'; cases hb'
                  · simp only [List.mem_cons, List.not_mem_nil, or_false] at hi
                    rcases hi with rfl | rfl
                    · rw [hw1 _ (by simp), nwGet_one] at hb1
                      rw [hw2 _ (by simp), hnew, if_neg hne2] at hb2
                      simp only [Option.some.injEq] at hb1 hb2; subst hb1; subst hb2
                      exact BLeH.refl d _
                    · rw [hw2 _ (by simp), hdead] at hb2; cases hb2
                  · rw [hval] at hy
                    simp only [rowAV] at hy
                    rw [if_neg hne2] at hy
                    simp only [List.length_append, Option.some.injEq] at hy
                    subst hy; exact LeH.refl d _
                  · rcases List.mem_cons.1 hn with rfl | hn
                    · rw [ow_nm, Nat.testBit_or, testBit_bit.2 rfl]; rfl
                    · exact hrd n hn
              · cases hk
            · cases hk
          · cases hk
        · obtain ⟨hroom, hk⟩ := chk_some hk
          simp only [erV, Option.some.injEq] at h2; subst h2
          exact ⟨_, _, _, _, _, hk, onEmp m (fun n hn => by obtain ⟨i, rfl, hm⟩ := h6 n hn; rw [ow_nm]; exact hm) rfl (Le.refl _) hroom⟩
        · obtain ⟨hroom, hk⟩ := chk_some hk
          simp only [erV, Option.some.injEq] at h2; subst h2
          exact ⟨_, _, _, _, _, hk, onEmp m (fun n hn => by obtain ⟨i, rfl, hm⟩ := h6 n hn; rw [ow_nm]; exact hm) rfl Le.nilEmp hroom⟩
        · cases hk
      · cases hk
    · cases hk
  · cases hk

theorem cpy_flat {T : Ty} (xs ys : List T.den) : (cpy xs ys).flatMap (encC T) = AI.splice (xs.flatMap (encC T)) 0 ((ys.flatMap (encC T)).take (Nat.min ys.length xs.length * T.size)) := by
  have _ := hinv
  have _ := hi
  have fl := fun zs : List T.den => flat_length (encC_length T) zs
  have tk : ∀ (zs : List T.den) n, (zs.flatMap (encC T)).take (n * T.size) = (zs.take n).flatMap (encC T) := by
    intro zs
    induction zs with
    | nil => intro n; simp
    | cons z r ih =>
      intro n
      cases n with
      | zero => simp
      | succ n => rw [List.flatMap_cons, List.take_succ_cons, List.flatMap_cons, Nat.succ_mul, List.take_append, encC_length, List.take_of_length_le (by rw [encC_length]; omega), show n * T.size + T.size - T.size = n * T.size from by omega, ih n]
  have dp : ∀ (zs : List T.den) n, (zs.flatMap (encC T)).drop (n * T.size) = (zs.drop n).flatMap (encC T) := by
    intro zs
    induction zs with
    | nil => intro n; simp
    | cons z r ih =>
      intro n
      cases n with
      | zero => simp
      | succ n => rw [List.flatMap_cons, List.drop_succ_cons, Nat.succ_mul, List.drop_append, encC_length, List.drop_of_length_le (by rw [encC_length]; omega), show n * T.size + T.size - T.size = n * T.size from by omega, ih n, List.nil_append]
  unfold cpy AI.splice
  rw [tk, List.flatMap_append, fl, List.length_take]
  have e1 : ys.take (Nat.min ys.length xs.length) = ys.take xs.length := by
    rcases Nat.le_total ys.length xs.length with h | h
    · rw [show Nat.min ys.length xs.length = ys.length from Nat.min_eq_left h, List.take_length, List.take_of_length_le h]
    · rw [show Nat.min ys.length xs.length = xs.length from Nat.min_eq_right h]
  rw [e1]
  have e2 : min (Nat.min ys.length xs.length) ys.length = Nat.min ys.length xs.length := Nat.min_eq_left (Nat.min_le_left _ _)
  rw [e2]
  simp only [List.take_zero, List.nil_append, Nat.zero_add]
  rw [dp]
  congr 1
  rcases Nat.le_total ys.length xs.length with h | h
  · rw [show Nat.min ys.length xs.length = ys.length from Nat.min_eq_left h]
  · rw [show Nat.min ys.length xs.length = xs.length from Nat.min_eq_right h, List.drop_length, List.drop_of_length_le h]

theorem K_copy {con : FuncId → Option Con} {tyv : TypeId → Option Ty} {sz : Nat} {d x : Operand} (hc : compOp P o.op = some (.copy sz d x)) (hk : topK con tyv (.op (.copy sz d x)) e h nx K = some r) : Res P o false e h nx K r := by
  obtain ⟨H, hH⟩ := erH_ex h
  simp only [topK] at hk
  split at hk
  · rename_i id y hv hv2
    split at hk
    · rename_i ty p T xs hb
      split at hk
      · rename_i hs
        have hs := Nat.eq_of_beq_eq_true hs
        subst hs
        split at hk
        · rename_i ys m hys
          split at hk
          · rename_i hcond
            simp only [Bool.and_eq_true, Bool.not_eq_true'] at hcond
            obtain ⟨hmid, rfl⟩ := hcond
            obtain ⟨yb, h1, h2⟩ := opnd_ev hi hv
            obtain ⟨yy, h3, h4⟩ := opnd_ev hi hv2
            obtain ⟨rdl, h5, h6⟩ := rowq_ok hH hys h4
            simp only [erV, rowOf, hb, rowAV, Bool.false_and, Bool.false_eq_true, if_false, Option.some.injEq] at h2; subst h2
            have fl := flat_length (encC_length T) xs
            have fl2 := flat_length (encC_length T) ys
            have hg : H.get (nm id) = some ⟨ty, .fz (xs.flatMap (encC T))⟩ := by rw [hH, erHF_nm, hb]; simp [erB]
            have hmem : mem (nm id) rdl = false := by
              cases hx : mem (nm id) rdl with
              | false => rfl
              | true =>
                obtain ⟨i, e, hm⟩ := h6 _ (memL.1 hx)
                rw [← nm_inj e, hmid] at hm; cases hm
            have hle : Nat.min ys.length xs.length * T.size ≤ xs.length * T.size := Nat.mul_le_mul_right _ (Nat.min_le_right _ _)
            have ha0 : aop (.copy T.size d x) (erE e h) H (nm nx) = some ⟨raw (.int .i64 (Nat.min ys.length xs.length)), nm id :: rdl, [nm id], [(nm id, ⟨ty, .fz ((cpy xs ys).flatMap (encC T))⟩)], []⟩ := by
              have hcnd : (T.size == T.size && !(mem (nm id) rdl) && Nat.ble (xs.length * T.size) (BC.fz (xs.flatMap (encC T))).len) = true := by
                have : Nat.ble (xs.length * T.size) (BC.fz (xs.flatMap (encC T))).len = true := Nat.ble_eq_true_of_le (by simp only [BC.len]; omega)
                rw [this, hmem]; simp
              have hput : (BC.fz (xs.flatMap (encC T))).put 0 (((ys.flatMap (encC T)).map .f).take (Nat.min ys.length xs.length * T.size)) = some (.fz ((cpy xs ys).flatMap (encC T))) := by
                rw [← List.map_take]
                unfold BC.put
                rw [if_pos]
                · simp only [allF_map]; rw [cpy_flat hinv hi]
                · simp only [Bool.and_eq_true]
                  refine ⟨⟨rfl, Nat.ble_eq_true_of_le ?_⟩, ?_⟩
                  · simp only [BC.len, List.length_map, List.length_take]; omega
                  · have : ∀ l : List FV, (∀ x ∈ l, x.isCell = true) → allCell (l.map .f) = true := by
                      intro l hl
                      induction l with
                      | nil => rfl
                      | cons z r ih => simp only [List.map_cons, allCell, Bool.and_eq_true]; exact ⟨hl z (by simp), ih fun x hx => hl x (by simp [hx])⟩
                    exact this _ fun x hx => flat_cell T ys x (List.mem_of_mem_take hx)
              simp only [aop, h1, h3, hg, h5, hcnd, if_true, hput]
            have hrow : rowB (.rows ty false T (cpy xs ys)) = rowB (.rows ty false T xs) := by
              have : (cpy xs ys).length = xs.length := by unfold cpy; rw [List.length_append, List.length_take, List.length_drop]; omega
              simp only [rowB, this]
            have key := TOpT.wrt (m := 0) (v := .f (.int .i64) (Int.ofNat (Nat.min (List.length ys) (List.length xs)))) (rd := bit id ||| m) hinv hc hH ha0 (B := .rows ty false T (cpy xs ys)) hb (RowsM.zero h) (by simp) hrow (fun _ _ he => by cases he) (fun H1 H2 d g b' hb' => by
              simp only [erB, Bool.false_and, Bool.false_eq_true, if_false, Option.some.injEq] at hb'; subst hb'
              exact BLeH.refl d _) (fun H1 H2 y d g hy => by
              simp only [erV, Option.some.injEq] at hy; subst hy
              exact LeH.refl d _) (fun n hn => by
              rcases List.mem_cons.1 hn with rfl | hn
              · rw [ow_nm, Nat.testBit_or, testBit_bit.2 rfl]; rfl
              · obtain ⟨i, rfl, hm⟩ := h6 n hn
                rw [ow_nm, Nat.testBit_or, hm]; simp)
            rw [Nat.zero_or] at key
            exact ⟨_, _, _, _, _, hk, key⟩
          · cases hk
        · cases hk
      · cases hk
    · cases hk
  · cases hk

theorem K_store {con : FuncId → Option Con} {tyv : TypeId → Option Ty} {sz : Nat} {x v : Operand} (hc : compOp P o.op = some (.store sz x v)) (hk : topK con tyv (.op (.store sz x v)) e h nx K = some r) : Res P o false e h nx K r := by
  obtain ⟨H, hH⟩ := erH_ex h
  simp only [topK] at hk
  split at hk
  · rename_i id off y hv hv2
    obtain ⟨yb, h1, h2⟩ := opnd_ev hi hv
    obtain ⟨yy, h3, h4⟩ := opnd_ev hi hv2
    simp only [erV, Option.some.injEq] at h2; subst h2
    split at hk
    · rename_i ty l hb
      split at hk
      · rename_i cs hcs
        split at hk
        · rename_i hcond
          simp only [Bool.and_eq_true, beq_iff_eq] at hcond
          obtain ⟨h5, h6⟩ := cs_ok hcs h4
          obtain ⟨l', hl⟩ := okVs_er h l (hinv.cells id ty l hb)
          have hg : H.get (nm id) = some ⟨ty, .mx l'⟩ := by rw [hH, erHF_nm, hb]; simp only [Option.bind_some, erB, hl]
          have hcell := allC_er h5 h6
          have hlen : yy.cs.length = sz := by rw [erVs_length h5]; exact hcond.1
          have hput : (BC.mx l').put off yy.cs = some (.mx (splice l' off yy.cs)) := by
            unfold BC.put
            rw [if_pos]
            · rfl
            · simp only [Bool.and_eq_true]
              exact ⟨⟨rfl, by simp only [BC.len]; rw [hlen, erVs_length hl]; exact hcond.2⟩, hcell⟩
          have ha0 : aop (.store sz x v) (erE e h) H (nm nx) = some ⟨raw undef, [nm id], [nm id], [(nm id, ⟨ty, .mx (splice l' off yy.cs)⟩)], []⟩ := by
            simp only [aop, h1, h3, astore, hg, hlen, beq_self_eq_true, if_true, hput]
          have hspl : ∀ h', RowsLe h h' → erVs h' (splice l off cs) = some (splice l' off yy.cs) := fun h' hr => erVs_splice off (erVs_mono hr l l' hl) (erVs_mono hr cs _ h5)
          have hr1 : RowsLe h (h.set id (some (.cells ty (splice l off cs)))) := RowsLe.set fun r hr => by rw [rowOf_eq, hb] at hr; cases hr
          have key := TOpT.wrt (m := 0) (v := .undef) (rd := bit id) hinv hc hH ha0 (B := .cells ty (splice l off cs)) hb (RowsM.zero h) (by simp) rfl (fun ty' l2 he => by cases he; exact er_okVs _ _ _ (hspl _ hr1)) (fun H1 H2 d g b' hb' => by
            have := hspl _ hr1
            simp only [killM, Nat.beq_refl, if_true, erB, this, Option.some.injEq] at hb'
            subst hb'
            exact BLeH.refl d _) (fun H1 H2 y d g hy => by
            simp only [erV, Option.some.injEq] at hy; subst hy
            exact LeH.refl d _) (fun n hn => by simp only [List.mem_singleton] at hn; subst hn; rw [ow_nm]; exact testBit_bit.2 rfl)
          rw [Nat.zero_or] at key
          exact ⟨_, _, _, _, _, hk, key⟩
        · cases hk
      · cases hk
    · cases hk
  · rename_i id sz' j off y hv hv2
    obtain ⟨yb, h1, h2⟩ := opnd_ev hi hv
    obtain ⟨yy, h3, h4⟩ := opnd_ev hi hv2
    simp only [erV, Option.some.injEq] at h2; subst h2
    split at hk
    · rename_i ty p T xs hb
      split at hk
      · rename_i hsz
        have hsz := Nat.eq_of_beq_eq_true hsz
        subst hsz
        obtain ⟨hj, hk⟩ := chk_some hk
        split at hk
        · rename_i z m hset
          split at hk
          · cases hk
          · rename_i hmid
            have hmid : Nat.testBit m id = false := by simpa using hmid
            have hm := setAt_m 40 T _ off sz z m hset
            obtain ⟨j0, j1, j2⟩ := inB_ok hj
            have hne : ¬ ((p && xs.length == 0) = true) := by simp only [Bool.and_eq_true, beq_iff_eq]; omega
            have hne2 : ¬ ((p && (seti xs j z).length == 0) = true) := by unfold seti; rw [List.length_set]; exact hne
            have hg : H.get (nm id) = some ⟨ty, .fz (xs.flatMap (encC T))⟩ := by rw [hH, erHF_nm, hb]; simp only [Option.bind_some, erB, if_neg hne]
            have fl := flat_length (encC_length T) xs
            have hx : xs[j.toNat]? = some (geti xs j) := by
              unfold geti; rw [List.getD_eq_getElem?_getD, List.getElem?_eq_getElem j2]; rfl
            have hle : (j.toNat + 1) * T.size ≤ xs.length * T.size := Nat.mul_le_mul_right _ j2
            rw [Nat.succ_mul] at hle
            -- what the store needs of the value
            have hso : ∀ H1 H2, Dom H1 H2 → Giv h H1 H2 m → SetOK H1 H2 yy T (geti xs j) z off sz := fun H1 H2 d g => setAt_ok d h4 40 T _ off sz z m hset g
            have hshape : yy.cs.length = sz ∧ off + sz ≤ T.size ∧ allCell yy.cs = true := by
              have d0 : Dom (erHF h) (erHF (killM m h)) := fun i b hb => by
                obtain ⟨i', c, rfl, g1, g2⟩ := erHF_some hb
                rw [get_killM] at g1
                by_cases ht : Nat.testBit m i' = true
                · obtain ⟨pp, ss, nn, g3⟩ := er_killed hm ht
                  rw [get_killM] at g3
                  rw [g3] at g1; cases g1; cases g2
                · rw [if_neg ht] at g1
                  exact ⟨b, by rw [erHF_nm, g1]; simp only [Option.bind_some]; rw [← erB_mono (RowsLe.kill m h) (fun ty l e => hinv.cells i' ty l (by rw [g1, e]))]; exact g2⟩
              obtain ⟨fs, q1, q2, q3, q4, q5⟩ := hso _ _ d0 (fun i hi => ⟨rfl, by
                obtain ⟨pp, ss, nn, g3⟩ := er_killed hm hi
                rw [erHF_nm, g3]; rfl⟩)
              refine ⟨by rw [← q2, ← List.length_map (f := AV.f), q1.length], q3, ?_⟩
              exact setAt_cell h4 40 T _ off sz z m hset
            obtain ⟨hlen, hoff, hcell⟩ := hshape
            obtain ⟨c', hput, hc1, hc2⟩ : ∃ c', (BC.fz (xs.flatMap (encC T))).put (j.toNat * T.size + off) yy.cs = some c' ∧ c'.toMx = splice ((xs.flatMap (encC T)).map .f) (j.toNat * T.size + off) yy.cs ∧ c'.isCells = true := by
              unfold BC.put
              rw [if_pos]
              · split
                · rename_i l ys hl hys
                  simp only [BC.fz.injEq] at hl; subst hl
                  refine ⟨_, rfl, ?_, rfl⟩
                  rw [allF_spec hys]
                  simp only [BC.toMx]
                  unfold splice
                  simp [List.map_take, List.map_drop]
                · exact ⟨_, rfl, rfl, rfl⟩
              · simp only [Bool.and_eq_true]
                exact ⟨⟨rfl, Nat.ble_eq_true_of_le (by simp only [BC.len]; omega)⟩, hcell⟩
            have ha0 : aop (.store sz x v) (erE e h) H (nm nx) = some ⟨raw undef, [nm id], [nm id], [(nm id, ⟨ty, c'⟩)], []⟩ := by
              simp only [aop, h1, h3, astore, hg, hlen, beq_self_eq_true, if_true, hput]
            have hrow : rowB (.rows ty p T (seti xs j z)) = rowB (.rows ty p T xs) := by
              unfold seti; simp only [rowB, List.length_set]
            refine ⟨_, _, _, _, _, hk, TOpT.wrt hinv hc hH ha0 (B := .rows ty p T (seti xs j z)) hb hm hmid hrow (fun _ _ he => by cases he) (fun H1 H2 d g b' hb' => ?_) (fun H1 H2 y d g hy => ?_) (fun n hn => ?_)⟩
            · simp only [erB, if_neg hne2, Option.some.injEq] at hb'; subst hb'
              obtain ⟨fs, q1, q2, q3, q4, q5⟩ := hso H1 H2 d g
              have hfl : (seti xs j z).flatMap (encC T) = AI.splice (xs.flatMap (encC T)) (j.toNat * T.size + off) fs := flat_set (encC_length T) xs j.toNat _ z hx off fs (by omega) q4
              refine BLeH.cells hc2 rfl ?_ fun x hx => ?_
              · rw [hc1]
                simp only [BC.toMx]
                rw [hfl]
                have : (AI.splice (xs.flatMap (encC T)) (j.toNat * T.size + off) fs).map AV.f = AI.splice ((xs.flatMap (encC T)).map .f) (j.toNat * T.size + off) (fs.map .f) := by unfold AI.splice; simp [List.map_take, List.map_drop]
                rw [this]
                exact (LeHL.refl d _).splice _ q1
              · simp only [BC.toMx] at hx
                obtain ⟨q, hq, rfl⟩ := List.mem_map.1 hx
                exact flat_cell T _ q hq
            · simp only [erV, Option.some.injEq] at hy; subst hy
              exact LeH.refl d _
            · simp only [List.mem_singleton] at hn; subst hn
              rw [ow_nm, Nat.testBit_or, testBit_bit.2 rfl]; simp
        · cases hk
      · cases hk
    · cases hk
  · cases hk

end ops
end Go.Proofs.YtjjplipoacljoaaDoor.AI
namespace Go.Proofs.YtjjplipoacljoaaDoor.AI
open Go.RowKit

theorem mpE_ok {K V : Ty} {es : List (K.den × V.den)} (hE : mpE K V es = true) : es.map (fun p => (keyOf K p.1, AV.f (enc1 V p.2))) = [] := by
  unfold mpE at hE
  split at hE
  · rfl
  · cases hE
theorem key_eq {str : Bool} {K : Ty} (hK : keyT str K = true) (k k' : K.den) : binV .eql (keyOf K k) (keyOf K k') = some (.bool (eqT K k k')) ∧ keyOK str (keyOf K k) = true ∧ enc1 K k = .raw (keyOf K k) := by
  cases K <;> cases str <;> first | cases hK | skip
  · exact ⟨by simp only [binV, keyOf, eqT, beq_self_eq_true, if_true, Option.some.injEq, Value.bool.injEq]; exact Bool.beq_eq_decide_eq _ _, rfl, rfl⟩
  · exact ⟨by simp only [binV, keyOf, eqT, bytes_eq], rfl, rfl⟩
theorem mfind_ok {str : Bool} {K V : Ty} (hK : keyT str K = true) (k : K.den) : ∀ es : List (K.den × V.den), mapFind (keyOf K k) (es.map fun p => (keyOf K p.1, AV.f (enc1 V p.2))) = some ((mfind k es).map fun v => AV.f (enc1 V v))
  | [] => rfl
  | (k', v) :: r => by
    simp only [List.map_cons, mapFind, (key_eq hK k k').1, mfind]
    cases hb : eqT K k k' with
    | true => rfl
    | false => simp only [Bool.false_eq_true, if_false]; exact mfind_ok hK k r
theorem mput_ok {str : Bool} {K V : Ty} (hK : keyT str K = true) (k : K.den) (v : V.den) : ∀ es : List (K.den × V.den), mapPut (keyOf K k) (.f (enc1 V v)) (es.map fun p => (keyOf K p.1, AV.f (enc1 V p.2))) = some ((mput k v es).map fun p => (keyOf K p.1, AV.f (enc1 V p.2)))
  | [] => rfl
  | (k', v') :: r => by
    simp only [List.map_cons, mapPut, (key_eq hK k k').1, mput]
    cases hb : eqT K k k' with
    | true => rfl
    | false => simp only [mput_ok hK k v r, Bool.false_eq_true, if_false, List.map_cons]


section ops
variable {R : Type} {P : Program} {o : Oper} {e : TEnv} {h : THeap} {nx : Nat} {K : KO R} {r : R}

theorem Le.aggOf {l : List FV} (hc : ∀ x ∈ l, x.isCell = true) : Le (.agg (l.map .f)) (.f (.agg l)) := by
  intro φ O w v hr
  cases hr with
  | @agg _ vs hl hcl hrr =>
    refine .f (.agg l vs (by simpa using hl) hc fun j y u hy hu => ?_)
    have := hrr j (.f y) u (by rw [List.getElem?_map, hy]; rfl) hu
    cases this with
    | f h => exact h
def pack1 (S : Ty) (l : List TV) : Option (S.den × Nat × List TV) := match l with
  | c :: r => (match asC PT.leaf S c with | some (x, m) => some (x, m, r) | none => none)
  | [] => none
theorem map_f_inj : ∀ {l l' : List FV}, l.map AV.f = l'.map AV.f → l = l'
  | [], [], _ => rfl
  | [], _ :: _, h => by simp at h
  | _ :: _, [], h => by simp at h
  | x :: r, y :: r', h => by
    simp only [List.map_cons, List.cons.injEq, AV.f.injEq] at h
    rw [h.1, map_f_inj h.2]
/-- plain fields are packed as they are -/
theorem pack_plain (h : THeap) : ∀ (ds : List TypeDesc) (T : Ty), descT ds = some T → ∀ (n : Nat) (l : List TV) (x : T.den) (m : Nat) (r : List TV), packC PT.leaf n T l = some (x, m, r) → ∀ l', erVs h l = some l' → ∃ l2, erVs h r = some l2 ∧ l' = (encC T x).map .f ++ l2
  | [], T, hd, n, l, x, m, r, hp, l', hl => by
    simp only [descT, Option.some.injEq] at hd; subst hd
    cases n with
    | zero => simp [packC] at hp
    | succ n =>
      simp only [packC, Option.some.injEq, Prod.mk.injEq] at hp
      obtain ⟨_, _, rfl⟩ := hp
      exact ⟨l', hl, rfl⟩
  | d :: ds, T, hd, n, l, x, m, r, hp, l', hl => by
    have plain : ∀ (S : Ty), S.one = true → (∀ t, S ≠ .sl t) → ∀ (v : TV) (a : S.den) (m : Nat) (y : AV), asC PT.leaf S v = some (a, m) → erV h v = some y → y = .f (enc1 S a) := by
      intro S hS hns v a m y ha hy
      cases v with
      | f Q q =>
        simp only [asC] at ha
        split at ha
        · rename_i z hz
          simp only [Option.some.injEq, Prod.mk.injEq] at ha
          obtain ⟨rfl, _⟩ := ha
          obtain ⟨e, rfl⟩ := castT_ok hz
          subst e
          simp only [erV, Option.some.injEq] at hy; exact hy.symm
        · cases ha
      | emp =>
        cases S with
        | sl t => exact absurd rfl (hns t)
        | _ => simp [asC] at ha
      | nil =>
        cases S with
        | sl t => exact absurd rfl (hns t)
        | _ => simp [asC] at ha
      | row id => simp [asC, PT.get] at ha
      | fel T xs j hj off => simp [asC] at ha
      | pel id sz j off => simp [asC] at ha
      | ptr id off => simp [asC] at ha
      | mp id => simp [asC] at ha
      | agg q => simp [asC] at ha
      | tup q => simp [asC] at ha
      | clo f q => simp [asC] at ha
      | undef => simp [asC] at ha
      | anyb => simp [asC] at ha
    have one : ∀ (S : Ty), S.one = true → (∀ t, S ≠ .sl t) → ∀ (n : Nat) (l : List TV) (a : S.den) (m : Nat) (r : List TV), packC PT.leaf n S l = some (a, m, r) → ∀ l', erVs h l = some l' → ∃ l2, erVs h r = some l2 ∧ l' = (encC S a).map .f ++ l2 := by
      intro S hS hns n l a m r hp l' hl
      cases n with
      | zero => simp [packC] at hp
      | succ n =>
        cases l with
        | nil =>
          cases S with
          | int k => cases hp
          | bool => cases hp
          | str => cases hp
          | sl t => exact absurd rfl (hns t)
          | _ => cases hS
        | cons c q =>
          have hpp : pack1 S (c :: q) = some (a, m, r) := by
            cases S with
            | int k => simp only [packC] at hp; simp only [pack1]; cases hq : asC PT.leaf (.int k) c with
              | none => rw [hq] at hp; cases hp
              | some z => rw [hq] at hp; exact hp
            | bool => simp only [packC] at hp; simp only [pack1]; cases hq : asC PT.leaf .bool c with
              | none => rw [hq] at hp; cases hp
              | some z => rw [hq] at hp; exact hp
            | str => simp only [packC] at hp; simp only [pack1]; cases hq : asC PT.leaf .str c with
              | none => rw [hq] at hp; cases hp
              | some z => rw [hq] at hp; exact hp
            | sl t => exact absurd rfl (hns t)
            | _ => cases hS
          simp only [pack1] at hpp
          split at hpp
          · rename_i a1 m1 h1
            simp only [Option.some.injEq, Prod.mk.injEq] at hpp
            obtain ⟨rfl, rfl, rfl⟩ := hpp
            obtain ⟨y, l2, rfl, g1, g2⟩ := erVs_cons hl
            have := plain S hS hns c a1 m1 y h1 g1
            subst this
            exact ⟨l2, g2, by rw [(encC_one S a1 hS).1]; rfl⟩
          · cases hpp
    have two : ∀ (S U : Ty), S.one = true → (∀ t, S ≠ .sl t) → descT ds = some U → T = .pr S U → ∃ l2, erVs h r = some l2 ∧ l' = (encC T x).map .f ++ l2 := by
      intro S U hS hns hU e
      subst e
      cases n with
      | zero => simp [packC] at hp
      | succ n =>
        simp only [packC] at hp
        split at hp
        · rename_i x1 m1 r1 h1
          split at hp
          · rename_i x2 m2 r2 h2
            simp only [Option.some.injEq, Prod.mk.injEq] at hp
            obtain ⟨rfl, rfl, rfl⟩ := hp
            obtain ⟨l2, g1, g2⟩ := one S hS hns n l x1 m1 r1 h1 l' hl
            obtain ⟨l3, g3, g4⟩ := pack_plain h ds U hU n r1 x2 m2 r2 h2 l2 g1
            exact ⟨l3, g3, by rw [g2, g4, encC, List.map_append, List.append_assoc]⟩
          · cases hp
        · cases hp
    cases d with
    | int k =>
      simp only [descT] at hd
      split at hd
      · rename_i U hU; simp only [Option.some.injEq] at hd; exact two (.int k) U rfl (fun t h => by cases h) hU hd.symm
      · cases hd
    | bool =>
      simp only [descT] at hd
      split at hd
      · rename_i U hU; simp only [Option.some.injEq] at hd; exact two .bool U rfl (fun t h => by cases h) hU hd.symm
      · cases hd
    | string =>
      simp only [descT] at hd
      split at hd
      · rename_i U hU; simp only [Option.some.injEq] at hd; exact two .str U rfl (fun t h => by cases h) hU hd.symm
      · cases hd
    | _ => simp [descT] at hd
theorem eq_plain : ∀ (ds : List TypeDesc) (T : Ty), descT ds = some T → ∀ a b : T.den, eqCells ds (encC T a) (encC T b) = some (eqT T a b)
  | [], T, hd, a, b => by simp only [descT, Option.some.injEq] at hd; subst hd; rfl
  | d :: ds, T, hd, a, b => by
    cases d with
    | int k =>
      simp only [descT] at hd
      split at hd
      · rename_i U hU
        simp only [Option.some.injEq] at hd; subst hd
        have ih := eq_plain ds U hU a.2 b.2
        simp only [encC, List.cons_append, List.nil_append, eqCells, eqCell, beq_self_eq_true, if_true, eqT]
        cases he : ((a.1 : Int) == b.1) with
        | true => have he' : (a.1 : Int) = b.1 := by simpa using he
                  simp only [ih, he', decide_true, Bool.true_and]
        | false => have he' : ¬ (a.1 : Int) = b.1 := by simpa using he
                   simp only [he', decide_false, Bool.false_and]
      · cases hd
    | bool =>
      simp only [descT] at hd
      split at hd
      · rename_i U hU
        simp only [Option.some.injEq] at hd; subst hd
        have ih := eq_plain ds U hU a.2 b.2
        simp only [encC, List.cons_append, List.nil_append, eqCells, eqCell, eqT]
        cases he : ((a.1 : Bool) == b.1) <;> simp [he, ih]
      · cases hd
    | string =>
      simp only [descT] at hd
      split at hd
      · rename_i U hU
        simp only [Option.some.injEq] at hd; subst hd
        have ih := eq_plain ds U hU a.2 b.2
        simp only [encC, List.cons_append, List.nil_append, eqCells, eqCell, eqT, bytes_eq]
        cases he : decide ((a.1 : List UInt8) = b.1) with
        | true => simp only [ih, Bool.true_and]
        | false => simp only [Bool.false_and]
      · cases hd
    | _ => simp [descT] at hd
/-- a struct of plain fields -/
theorem agg_plain {u : TV} (hu : u.isC = false) {lu : List TV} (hl : u.cs = some lu) {ds : List TypeDesc} {T : Ty} (hd : descT ds = some T) {a : T.den} {m : Nat} (hp : packC PT.leaf 40 T lu = some (a, m, [])) {y : AV} (hy : erV h u = some y) : Le y (.f (.agg (encC T a))) := by
  obtain ⟨h1, _⟩ := cs_ok hl hy
  obtain ⟨l2, h2, h3⟩ := pack_plain h ds T hd 40 lu a m [] hp _ h1
  simp only [erVs, Option.some.injEq] at h2; subst h2
  rw [List.append_nil] at h3
  cases u with
  | agg l =>
    simp only [erV] at hy
    split at hy
    · rename_i l' _
      simp only [Option.some.injEq] at hy; subst hy
      have : l' = (encC T a).map .f := h3
      rw [this]; exact Le.aggOf (encC_cell T a)
    · cases hy
  | f S x =>
    simp only [erV, Option.some.injEq] at hy; subst hy
    have ho : S.one = false := hu
    rw [enc1_cs] at h3
    have : encC S x = encC T a := map_f_inj h3
    rw [enc1_agg S x ho, this]; exact Le.refl _
  | tup l => simp [TV.cs, TV.isC] at hl
  | undef => simp [TV.cs, TV.isC] at hl
  | anyb => simp [TV.cs, TV.isC] at hl
  | fel T xs j hj off => cases hu
  | pel id sz j off => cases hu
  | ptr id off => cases hu
  | row id => cases hu
  | emp => cases hu
  | nil => cases hu
  | mp id => cases hu
  | clo g l => cases hu

variable (hinv : InvH h nx) (hi : InvE e h)
include hinv hi

theorem K_eqs {con : FuncId → Option Con} {tyv : TypeId → Option Ty} {neg : Bool} {ds : List TypeDesc} {x y : Operand} {st : Bool} (hc : compOp P o.op = some (.eqs neg ds x y)) (hk : topK con tyv (.op (.eqs neg ds x y)) e h nx K = some r) : Res P o st e h nx K r := by
  obtain ⟨H, hH⟩ := erH_ex h
  simp only [topK] at hk
  split at hk
  · rename_i T u v hd hu hv
    split at hk
    · cases hk
    · rename_i hcc
      simp only [Bool.or_eq_true, not_or, Bool.not_eq_true] at hcc
      split at hk
      · rename_i lu lv hlu hlv
        split at hk
        · rename_i a m1 b m2 hpa hpb
          obtain ⟨yu, h1, h2⟩ := opnd_ev hi hu
          obtain ⟨yv, h3, h4⟩ := opnd_ev hi hv
          have l1 := agg_plain hcc.1 hlu hd hpa h2
          have l2 := agg_plain hcc.2 hlv hd hpb h4
          have tmp : ∀ (z : Operand) (q : TV), opnd e z = some q → q.isC = false → ∃ t, z = .tmp t := by
            intro z q hz hq
            cases z with
            | tmp t => exact ⟨t, rfl⟩
            | const c => have := (cst_er h hz).2.2; rw [hq] at this; cases this
            | func g => simp only [opnd, Option.some.injEq] at hz; subst hz; cases hq
            | global g =>
              simp only [opnd] at hz
              split at hz
              · cases hz; cases hq
              · cases hz
          obtain ⟨t, rfl⟩ := tmp x u hu hcc.1
          obtain ⟨t', rfl⟩ := tmp y v hv hcc.2
          have same : t = t' → encC T a = encC T b := by
            intro ht; subst ht
            rw [hu] at hv; cases hv
            rw [hlu] at hlv; cases hlv
            rw [hpa] at hpb; cases hpb; rfl
          let E1 : Env := ((erE e h).set t (some (.f (.agg (encC T a))))).set t' (some (.f (.agg (encC T b))))
          have e1 : evL E1 (.tmp t) = some (.f (.agg (encC T a))) := by
            simp only [evL, E1, PT.get_set]
            by_cases ht : t = t'
            · rw [if_pos ht, same ht]
            · rw [if_neg ht]; simp
          have e2 : evL E1 (.tmp t') = some (.f (.agg (encC T b))) := by simp only [evL, E1, PT.get_set, if_true]
          have ha : aop (.eqs neg ds (.tmp t) (.tmp t')) E1 H 0 = some ⟨raw (.bool (eqT T a b != neg)), [], [], [], []⟩ := by
            simp only [aop, e1, e2, eq_plain ds T hd a b]; rfl
          have ht := op_sound hc ha
          rw [hH] at ht
          have ht2 : OpT P o (erEF e h) (erHF h) _ := ht.envLe (e2 := erEF e h) fun s z _ hz => by
            simp only [E1, PT.get_set] at hz
            rw [← erE_get]
            simp only [evL] at h1 h3
            split at hz
            · rename_i es; subst es; cases hz; exact ⟨yv, h3, l2⟩
            · split at hz
              · rename_i es; subst es; cases hz; exact ⟨yu, h1, l1⟩
              · exact ⟨z, hz, Le.refl _⟩
          refine ⟨_, 0, 0, h, nx, hk, ⟨⟨_, ht2, fun y hy => ?_, by simp [OpR.eff, updF_nil], by simp [OpR.eff], by simp [OpR.eff], by simp [OpR.eff]⟩, fun _ _ h => h, hinv, Nat.le_refl _, fun _ => ⟨rfl, rfl⟩⟩⟩
          simp only [erV, Option.some.injEq] at hy; exact hy
        · cases hk
      · cases hk
  · cases hk

theorem K_mkm {con : FuncId → Option Con} {tyv : TypeId → Option Ty} (hc : compOp P o.op = some .mkm) (hk : topK con tyv (.op .mkm) e h nx K = some r) : Res P o false e h nx K r := by
  have _ := hi
  obtain ⟨H, hH⟩ := erH_ex h
  refine ⟨_, _, _, _, _, hk, TOpT.new hinv hc hH (y0 := .mp (nm nx)) (rdl := []) (b0 := ⟨0, .mp []⟩) rfl (RowsM.zero h) (fun _ _ he => by cases he) (fun H1 H2 d g b' hb' => ?_) (fun H1 H2 y d g hy => ?_) (by simp)⟩
  · simp only [erB, List.map_nil, Option.some.injEq] at hb'; subst hb'; exact BLeH.refl d _
  · simp only [erV, Option.some.injEq] at hy; subst hy; exact LeH.refl d _
theorem K_lenm {con : FuncId → Option Con} {tyv : TypeId → Option Ty} {x : Operand} (hc : compOp P o.op = some (.lenm x)) (hk : topK con tyv (.op (.lenm x)) e h nx K = some r) : Res P o false e h nx K r := by
  obtain ⟨H, hH⟩ := erH_ex h
  simp only [topK] at hk
  split at hk
  · rename_i id hv
    split at hk
    · rename_i K' V es hb
      obtain ⟨y, h1, h2⟩ := opnd_ev hi hv
      simp only [erV, Option.some.injEq] at h2; subst h2
      have hg : H.get (nm id) = some ⟨0, .mp (es.map fun p => (keyOf K' p.1, .f (enc1 V p.2)))⟩ := by rw [hH, erHF_nm, hb]; rfl
      exact ⟨_, _, _, _, _, hk, TOpT.pure (k := 0) hinv hc hH (y0 := raw (.int .i64 es.length)) (rdl := [nm id]) (by simp only [aop, h1, hg, List.length_map]) (fun y hy => by simp only [erV, Option.some.injEq] at hy; subst hy; exact Le.refl _) (fun n hn => by simp only [List.mem_singleton] at hn; subst hn; rw [ow_nm]; exact testBit_bit.2 rfl) (fun h => by cases h)⟩
    · cases hk
  · cases hk
theorem K_lku {con : FuncId → Option Con} {tyv : TypeId → Option Ty} {str : Bool} {z : Value} {x k : Operand} (hc : compOp P o.op = some (.lku str z x k)) (hk : topK con tyv (.op (.lku str z x k)) e h nx K = some r) : Res P o false e h nx K r := by
  obtain ⟨H, hH⟩ := erH_ex h
  simp only [topK] at hk
  split at hk
  · rename_i id KT kv hv hv2
    split at hk
    · rename_i K' V es hb
      split at hk
      · rename_i hK
        obtain ⟨y, h1, h2⟩ := opnd_ev hi hv
        obtain ⟨y2, h3, h4⟩ := opnd_ev hi hv2
        simp only [erV, Option.some.injEq] at h2 h4; subst h2; subst h4
        have hg : H.get (nm id) = some ⟨0, .mp (es.map fun p => (keyOf K' p.1, .f (enc1 V p.2)))⟩ := by rw [hH, erHF_nm, hb]; rfl
        obtain ⟨_, hok, henc⟩ := key_eq hK kv kv
        rw [henc] at h3
        have hrd : ∀ n ∈ [nm id], Nat.testBit (bit id) (ow n) = true := fun n hn => by simp only [List.mem_singleton] at hn; subst hn; rw [ow_nm]; exact testBit_bit.2 rfl
        split at hk
        · rename_i hE
          split at hk
          · rename_i v hz
            have hzz := (cst_er h hz).1
            exact ⟨_, _, _, _, _, hk, TOpT.pure (k := 0) hinv hc hH (y0 := raw z) (rdl := [nm id]) (by simp only [aop, h1, h3, hg, hok, if_true, mpE_ok hE, mapFind]) (fun y hy => by rw [hzz] at hy; cases hy; exact Le.refl _) hrd (fun h => by cases h)⟩
          · cases hk
        · split at hk
          · rename_i kv' Z zv hkv hz
            split at hk
            · rename_i zv' hzv
              obtain ⟨e1, e2⟩ := castT_ok hkv
              cases e1
              subst e2
              obtain ⟨e3, e4⟩ := castT_ok hzv
              cases e3
              subst e4
              have hzz := (cst_er h hz).1
              simp only [erV, Option.some.injEq] at hzz
              refine ⟨_, _, _, _, _, hk, TOpT.pure (k := 0) hinv hc hH (y0 := .f (enc1 _ (mgetD kv' es zv'))) (rdl := [nm id]) ?_ (fun y hy => by simp only [erV, Option.some.injEq] at hy; subst hy; exact Le.refl _) hrd (fun h => by cases h)⟩
              simp only [aop, h1, h3, hg, hok, if_true, mfind_ok hK]
              unfold mgetD
              cases hf : mfind kv' es with
              | none => simp only [Option.map_none]; rw [hzz]
              | some v => rfl
            · cases hk
          · cases hk
      · cases hk
    · cases hk
  · cases hk
theorem K_mup {con : FuncId → Option Con} {tyv : TypeId → Option Ty} {str : Bool} {x k v : Operand} (hc : compOp P o.op = some (.mup str x k v)) (hk : topK con tyv (.op (.mup str x k v)) e h nx K = some r) : Res P o false e h nx K r := by
  obtain ⟨H, hH⟩ := erH_ex h
  simp only [topK] at hk
  split at hk
  · rename_i id KT kv VT vv hv hv2 hv3
    split at hk
    · rename_i K' V es hb
      split at hk
      · rename_i hK
        simp only [Bool.and_eq_true] at hK
        obtain ⟨y, h1, h2⟩ := opnd_ev hi hv
        obtain ⟨y2, h3, h4⟩ := opnd_ev hi hv2
        obtain ⟨y3, h5, h6⟩ := opnd_ev hi hv3
        simp only [erV, Option.some.injEq] at h2 h4 h6; subst h2; subst h4; subst h6
        have hg : H.get (nm id) = some ⟨0, .mp (es.map fun p => (keyOf K' p.1, .f (enc1 V p.2)))⟩ := by rw [hH, erHF_nm, hb]; rfl
        obtain ⟨_, hok, henc⟩ := key_eq hK.1 kv kv
        rw [henc] at h3
        have hrd : ∀ n ∈ [nm id], Nat.testBit (bit id) (ow n) = true := fun n hn => by simp only [List.mem_singleton] at hn; subst hn; rw [ow_nm]; exact testBit_bit.2 rfl
        split at hk
        · rename_i hE
          exact ⟨_, _, _, _, _, hk, TOpT.wrt (k := 0) (m := 0) (v := .undef) (rd := bit id) hinv hc hH (y0 := raw undef) (b0 := ⟨0, .mp [(keyOf KT kv, .f (enc1 VT vv))]⟩) (rdl := [nm id]) (by simp only [aop, h1, h3, h5, hg, hok, if_true, mpE_ok hE, mapPut]) (B := .mp KT VT [(kv, vv)]) hb (RowsM.zero h) (by simp) rfl (fun ty' l2 he => by cases he) (fun H1 H2 d g b' hb' => by simp only [erB, Option.some.injEq] at hb'; subst hb'; exact BLeH.refl d _) (fun H1 H2 y d g hy => by simp only [erV, Option.some.injEq] at hy; subst hy; exact LeH.refl d _) hrd⟩
        · split at hk
          · rename_i kv' vv' hkv hvv
            obtain ⟨e1, e2⟩ := castT_ok hkv
            cases e1
            subst e2
            obtain ⟨e3, e4⟩ := castT_ok hvv
            cases e3
            subst e4
            exact ⟨_, _, _, _, _, hk, TOpT.wrt (k := 0) (m := 0) (v := .undef) (rd := bit id) hinv hc hH (y0 := raw undef) (b0 := ⟨0, .mp ((mput kv' vv' es).map fun p => (keyOf _ p.1, .f (enc1 _ p.2)))⟩) (rdl := [nm id]) (by simp only [aop, h1, h3, h5, hg, hok, if_true, mput_ok hK.1]) (B := .mp _ _ (mput kv' vv' es)) hb (RowsM.zero h) (by simp) rfl (fun ty' l2 he => by cases he) (fun H1 H2 d g b' hb' => by simp only [erB, Option.some.injEq] at hb'; subst hb'; exact BLeH.refl d _) (fun H1 H2 y d g hy => by simp only [erV, Option.some.injEq] at hy; subst hy; exact LeH.refl d _) hrd⟩
          · cases hk
      · cases hk
    · cases hk
  · cases hk

/-- every operation but calls -/
theorem K_op {con : FuncId → Option Con} {tyv : TypeId → Option Ty} {s : SOp} (hc : compOp P o.op = some s) (hk : topK con tyv (.op s) e h nx K = some r) : Res P o s.still e h nx K r := by
  cases s with
  | mv x => exact K_mv hinv hi hc hk
  | pick c a b => exact K_pick hinv hi hc hk
  | alloc ty z => exact K_alloc hinv hi hc hk
  | box ty x => exact K_box hinv hi hc hk
  | build z parts => exact K_build hinv hi hc hk
  | bsl ty sz len z parts => exact K_bsl hinv hi hc hk
  | load sz ag x => exact K_load hinv hi hc hk
  | store sz x v => exact K_store hinv hi hc hk
  | nilc x => exact K_nilc hinv hi hc hk
  | bin op x y => exact K_bin hinv hi hc hk
  | eqs neg ds x y => exact K_eqs hinv hi hc hk
  | eqb neg x y => exact K_eqb hinv hi hc hk
  | isnil neg x => exact K_isnil hinv hi hc hk
  | not x => exact K_not hinv hi hc hk
  | conv k x => exact K_conv hinv hi hc hk
  | mksl ty sz bytes z l c => exact K_mksl hinv hi hc hk
  | slc sz x lo hi' mx => exact K_slc hinv hi hc hk
  | fad off x => exact K_fad hinv hi hc hk
  | fld off sz ag x => exact K_fld hinv hi hc hk
  | iad sz x i => exact K_iad hinv hi hc hk
  | idx n sz ag x i => exact K_idx hinv hi hc hk
  | iada n sz x i => exact K_iada hinv hi hc hk
  | ext x i => exact K_ext hinv hi hc hk
  | len x => exact K_len hinv hi hc hk
  | lens x => exact K_lens hinv hi hc hk
  | max x y => exact K_max hinv hi hc hk
  | app ty sz bytes s x => exact K_app hinv hi hc hk
  | copy sz d x => exact K_copy hinv hi hc hk
  | mkf f caps => exact K_mkf hinv hi hc hk
  | mkm => exact K_mkm hinv hi hc hk
  | lenm x => exact K_lenm hinv hi hc hk
  | lku str z x k => exact K_lku hinv hi hc hk
  | mup str x k v => exact K_mup hinv hi hc hk
  | _ => simp [topK] at hk
end ops

/-! names may be changed -/
mutual
def AV.ren (g : Nat → Nat) : AV → AV
  | .f x => .f x
  | .ptr id off => .ptr (g id) off
  | .sl id off n => .sl (g id) off n
  | .row id sz n => .row (g id) sz n
  | .mp id => .mp (g id)
  | .emp => .emp
  | .anyb => .anyb
  | .agg l => .agg (AV.renL g l)
  | .tup l => .tup (AV.renL g l)
  | .clo q l => .clo q (AV.renL g l)
def AV.renL (g : Nat → Nat) : List AV → List AV
  | [] => []
  | x :: r => x.ren g :: AV.renL g r
end
theorem renL_map (g : Nat → Nat) : ∀ l, AV.renL g l = l.map (AV.ren g)
  | [] => rfl
  | x :: r => by rw [AV.renL, renL_map g r]; rfl
theorem ren_cell (g : Nat → Nat) (x : AV) : (x.ren g).isCell = x.isCell := by cases x <;> rfl
theorem RelV.renTo {φ φ' : PM} {g : Nat → Nat} {O : Nat → Prop} {w : World} (hk : ∀ i k, φ i = some k → φ' (g i) = some k) {x : AV} {v : Value} (h : RelV φ O w x v) : RelV φ' O w (x.ren g) v := by
  induction h with
  | f h => exact .f h
  | ptr h => exact .ptr (hk _ _ h)
  | sl h hn hc => exact .sl (hk _ _ h) hn hc
  | row h hn hc hsh => exact .row (hk _ _ h) hn hc hsh
  | emp => exact .emp
  | anyb => exact .anyb
  | mp h => exact .mp (hk _ _ h)
  | agg hl hcl hr ih =>
    simp only [AV.ren, renL_map]
    refine .agg (by simpa using hl) (fun x hx => ?_) fun j x v hx hv => ?_
    · obtain ⟨y, hy, rfl⟩ := List.mem_map.1 hx; rw [ren_cell]; exact hcl y hy
    · rw [List.getElem?_map] at hx
      obtain ⟨y, hy, rfl⟩ := Option.map_eq_some_iff.1 hx
      exact ih j y v hy hv
  | tup hl hr ih =>
    simp only [AV.ren, renL_map]
    refine .tup (by simpa using hl) fun j x v hx hv => ?_
    rw [List.getElem?_map] at hx
    obtain ⟨y, hy, rfl⟩ := Option.map_eq_some_iff.1 hx
    exact ih j y v hy hv
  | clo hl hr ih =>
    simp only [AV.ren, renL_map]
    refine .clo (by simpa using hl) fun j x v hx hv => ?_
    rw [List.getElem?_map] at hx
    obtain ⟨y, hy, rfl⟩ := Option.map_eq_some_iff.1 hx
    exact ih j y v hy hv
/-- back, for the names that satisfy p -/
theorem RelV.renFrom {φ φ' : PM} {g : Nat → Nat} {O : Nat → Prop} {w : World} {p : Nat → Bool} (hk : ∀ i k, p i = true → φ (g i) = some k → φ' i = some k) {z : AV} {v : Value} (h : RelV φ O w z v) : ∀ x : AV, x.all p = true → z = x.ren g → RelV φ' O w x v := by
  induction h with
  | f h => intro x hp e; cases x <;> simp only [AV.ren, reduceCtorEq] at e; cases e; exact .f h
  | ptr h => intro x hp e; cases x <;> simp only [AV.ren, reduceCtorEq] at e; cases e; exact .ptr (hk _ _ hp h)
  | sl h hn hc => intro x hp e; cases x <;> simp only [AV.ren, reduceCtorEq] at e; cases e; exact .sl (hk _ _ hp h) hn hc
  | row h hn hc hsh => intro x hp e; cases x <;> simp only [AV.ren, reduceCtorEq] at e; cases e; exact .row (hk _ _ hp h) hn hc hsh
  | emp => intro x hp e; cases x <;> simp only [AV.ren, reduceCtorEq] at e; exact .emp
  | anyb => intro x hp e; cases x <;> simp only [AV.ren, reduceCtorEq] at e; exact .anyb
  | mp h => intro x hp e; cases x <;> simp only [AV.ren, reduceCtorEq] at e; cases e; exact .mp (hk _ _ hp h)
  | agg hl hcl hr ih =>
    intro x hp e
    cases x <;> simp only [AV.ren, reduceCtorEq] at e
    rename_i l
    cases e
    rw [renL_map] at hl hcl hr ih
    refine .agg (by simpa using hl) (fun x hx => ?_) fun j x v hx hv => ?_
    · have := hcl (x.ren g) (List.mem_map.2 ⟨x, hx, rfl⟩); rwa [ren_cell] at this
    · exact ih j (x.ren g) v (by rw [List.getElem?_map, hx]; rfl) hv x (allL_mem hp x (List.mem_of_getElem? hx)) rfl
  | tup hl hr ih =>
    intro x hp e
    cases x <;> simp only [AV.ren, reduceCtorEq] at e
    rename_i l
    cases e
    rw [renL_map] at hl hr ih
    refine .tup (by simpa using hl) fun j x v hx hv => ?_
    exact ih j (x.ren g) v (by rw [List.getElem?_map, hx]; rfl) hv x (allL_mem hp x (List.mem_of_getElem? hx)) rfl
  | clo hl hr ih =>
    intro x hp e
    cases x <;> simp only [AV.ren, reduceCtorEq] at e
    rename_i l
    cases e
    rw [renL_map] at hl hr ih
    refine .clo (by simpa using hl) fun j x v hx hv => ?_
    exact ih j (x.ren g) v (by rw [List.getElem?_map, hx]; rfl) hv x (allL_mem hp x (List.mem_of_getElem? hx)) rfl
def BC.ren (g : Nat → Nat) : BC → BC
  | .fz l => .fz l
  | .mx l => .mx (l.map (AV.ren g))
  | .mp es => .mp (es.map fun p => (p.1, p.2.ren g))
  | .it s p => .it s p
def Blk.ren (g : Nat → Nat) (b : Blk) : Blk := ⟨b.ty, b.c.ren g⟩
theorem ObjAt.renTo {φ φ' : PM} {g : Nat → Nat} {O O' : Nat → Prop} {w : World} (hk : ∀ x v, RelV φ O w x v → RelV φ' O' w (x.ren g) v) {b : Blk} {o : Obj} (h : ObjAt φ O w b o) : ObjAt φ' O' w (b.ren g) o := by
  obtain ⟨ty, c⟩ := b
  unfold ObjAt at h ⊢
  simp only [Blk.ren]
  cases c with
  | fz l =>
    simp only [BC.ren]
    obtain ⟨arr, h1, h2, h3⟩ := h
    refine ⟨arr, h1, h2, fun j x hx => ?_⟩
    obtain ⟨a, v, c, d⟩ := h3 j x hx
    simp only [BC.get] at hx
    obtain ⟨q, _, rfl⟩ := Option.map_eq_some_iff.1 hx
    exact ⟨a, v, c, hk _ _ d⟩
  | mx l =>
    simp only [BC.ren]
    obtain ⟨arr, h1, h2, h3⟩ := h
    refine ⟨arr, h1, by simpa [BC.len] using h2, fun j x hx => ?_⟩
    simp only [BC.get, List.getElem?_map] at hx
    obtain ⟨q, hq, rfl⟩ := Option.map_eq_some_iff.1 hx
    obtain ⟨a, v, c, d⟩ := h3 j q hq
    exact ⟨by rw [ren_cell]; exact a, v, c, hk _ _ d⟩
  | mp es =>
    simp only [BC.ren]
    obtain ⟨e, c, h1, h2, h3⟩ := h
    refine ⟨e, c, h1, by rw [h2, List.map_map]; rfl, fun j x hx => ?_⟩
    rw [List.getElem?_map] at hx
    obtain ⟨q, hq, rfl⟩ := Option.map_eq_some_iff.1 hx
    obtain ⟨m, a, b⟩ := h3 j q hq
    exact ⟨m, a, hk _ _ b⟩
  | it s p => exact h
theorem ObjAt.renFrom {φ φ' : PM} {g : Nat → Nat} {O O' : Nat → Prop} {w : World} {p : Nat → Bool} (hk : ∀ x v, x.all p = true → RelV φ O w (x.ren g) v → RelV φ' O' w x v) {b : Blk} (hb : b.c.all p = true) {o : Obj} (h : ObjAt φ O w (b.ren g) o) : ObjAt φ' O' w b o := by
  obtain ⟨ty, c⟩ := b
  unfold ObjAt at h ⊢
  simp only [Blk.ren] at h
  cases c with
  | fz l =>
    simp only [BC.ren] at h
    obtain ⟨arr, h1, h2, h3⟩ := h
    refine ⟨arr, h1, h2, fun j x hx => ?_⟩
    obtain ⟨a, v, c, d⟩ := h3 j x hx
    simp only [BC.get] at hx
    obtain ⟨q, _, rfl⟩ := Option.map_eq_some_iff.1 hx
    exact ⟨a, v, c, hk _ _ rfl d⟩
  | mx l =>
    simp only [BC.ren] at h
    obtain ⟨arr, h1, h2, h3⟩ := h
    refine ⟨arr, h1, by simpa [BC.len] using h2, fun j x hx => ?_⟩
    simp only [BC.get] at hx
    obtain ⟨a, v, c, d⟩ := h3 j (x.ren g) (by simp only [BC.get, List.getElem?_map, hx]; rfl)
    rw [ren_cell] at a
    exact ⟨a, v, c, hk _ _ (allL_mem hb x (List.mem_of_getElem? hx)) d⟩
  | mp es =>
    simp only [BC.ren] at h
    obtain ⟨e, c, h1, h2, h3⟩ := h
    refine ⟨e, c, h1, by rw [h2, List.map_map]; rfl, fun j x hx => ?_⟩
    obtain ⟨m, a, b⟩ := h3 j (x.1, x.2.ren g) (by rw [List.getElem?_map, hx]; rfl)
    exact ⟨m, a, hk _ _ (allL_mem hb x.2 (List.mem_map.2 ⟨x, List.mem_of_getElem? hx, rfl⟩)) b⟩
  | it s p => exact h
end Go.Proofs.YtjjplipoacljoaaDoor.AI
namespace Go.Proofs.YtjjplipoacljoaaDoor.AI
open Go.RowKit

/-! other names -/
mutual
def renT (g : Nat → Nat) : TV → TV
  | .row i => .row (g i)
  | .agg l => .agg (renTs g l)
  | .tup l => .tup (renTs g l)
  | .clo q l => .clo q (renTs g l)
  | .f T v => .f T v
  | .fel T xs j h off => .fel T xs j h off
  | .pel a b c d => .pel (g a) b c d
  | .ptr a b => .ptr (g a) b
  | .emp => .emp
  | .nil => .nil
  | .mp i => .mp (g i)
  | .undef => .undef
  | .anyb => .anyb
def renTs (g : Nat → Nat) : List TV → List TV
  | [] => []
  | x :: r => renT g x :: renTs g r
end
theorem renTs_map (g : Nat → Nat) : ∀ l, renTs g l = l.map (renT g)
  | [] => rfl
  | x :: r => by rw [renTs, renTs_map g r]; rfl
def renB (g : Nat → Nat) : TBlk → TBlk
  | .cells ty l => .cells ty (renTs g l)
  | .rows ty p T xs => .rows ty p T xs
  | .dead p sz n => .dead p sz n
  | .mp K V es => .mp K V es
theorem rowB_ren (g : Nat → Nat) (b : TBlk) : rowB (renB g b) = rowB b := by cases b <;> rfl
/-- names -/
def gam (g : Nat → Nat) (n : Nat) : Nat := nm (g (ow n))
theorem gam_nm (g : Nat → Nat) (i : Nat) : gam g (nm i) = nm (g i) := by unfold gam; rw [ow_nm]

mutual
theorem er_ren {g : Nat → Nat} {h1 h2 : THeap} (hrow : ∀ i r, rowOf h1 i = some r → rowOf h2 (g i) = some r) : ∀ (v : TV) (y : AV), erV h1 v = some y → erV h2 (renT g v) = some (y.ren (gam g))
  | .f _ _, y, he => by simp only [erV, Option.some.injEq] at he; subst he; rfl
  | .fel _ _ _ _ _, y, he => by simp only [erV, Option.some.injEq] at he; subst he; rfl
  | .pel _ _ _ _, y, he => by simp only [erV, Option.some.injEq] at he; subst he; simp only [renT, erV, AV.ren, gam_nm]
  | .ptr _ _, y, he => by simp only [erV, Option.some.injEq] at he; subst he; simp only [renT, erV, AV.ren, gam_nm]
  | .row id, y, he => by
    simp only [erV] at he
    split at he
    · rename_i p sz n hr
      simp only [Option.some.injEq] at he; subst he
      simp only [renT, erV, hrow id _ hr]
      unfold rowAV
      split
      · rfl
      · simp only [AV.ren, gam_nm]
    · cases he
  | .emp, y, he => by simp only [erV, Option.some.injEq] at he; subst he; rfl
  | .nil, y, he => by simp only [erV, Option.some.injEq] at he; subst he; rfl
  | .mp _, y, he => by simp only [erV, Option.some.injEq] at he; subst he; simp only [renT, erV, AV.ren, gam_nm]
  | .agg l, y, he => by
    simp only [erV] at he
    split at he
    · rename_i l' hl
      simp only [Option.some.injEq] at he; subst he
      simp only [renT, erV, ers_ren hrow l l' hl, AV.ren]
    · cases he
  | .tup l, y, he => by
    simp only [erV] at he
    split at he
    · rename_i l' hl
      simp only [Option.some.injEq] at he; subst he
      simp only [renT, erV, ers_ren hrow l l' hl, AV.ren]
    · cases he
  | .clo q l, y, he => by
    simp only [erV] at he
    split at he
    · rename_i l' hl
      simp only [Option.some.injEq] at he; subst he
      simp only [renT, erV, ers_ren hrow l l' hl, AV.ren]
    · cases he
  | .undef, y, he => by simp only [erV, Option.some.injEq] at he; subst he; rfl
  | .anyb, y, he => by simp only [erV, Option.some.injEq] at he; subst he; rfl
theorem ers_ren {g : Nat → Nat} {h1 h2 : THeap} (hrow : ∀ i r, rowOf h1 i = some r → rowOf h2 (g i) = some r) : ∀ (l : List TV) (l' : List AV), erVs h1 l = some l' → erVs h2 (renTs g l) = some (AV.renL (gam g) l')
  | [], l', he => by simp only [erVs, Option.some.injEq] at he; subst he; rfl
  | x :: r, l', he => by
    obtain ⟨y, l2, rfl, e1, e2⟩ := erVs_cons he
    exact erVs_mk (er_ren hrow x y e1) (ers_ren hrow r l2 e2)
end
theorem erB_ren {g : Nat → Nat} {h1 h2 : THeap} (hrow : ∀ i r, rowOf h1 i = some r → rowOf h2 (g i) = some r) {b : TBlk} {y : Blk} (he : erB h1 b = some y) : erB h2 (renB g b) = some (y.ren (gam g)) := by
  cases b with
  | rows ty p T xs =>
    simp only [erB] at he
    split at he
    · cases he
    · rename_i hc
      simp only [Option.some.injEq] at he; subst he
      simp only [renB, erB, if_neg hc]; rfl
  | cells ty l =>
    simp only [erB] at he
    split at he
    · rename_i l' hl
      simp only [Option.some.injEq] at he; subst he
      simp only [renB, erB, ers_ren hrow l l' hl, renL_map]; rfl
    · cases he
  | dead p sz n => cases he
  | mp K V es =>
    simp only [erB, Option.some.injEq] at he; subst he
    simp only [renB, erB, Blk.ren, BC.ren, List.map_map]; rfl

/-! putting -/
theorem renTs_append (g : Nat → Nat) (a b : List TV) : renTs g (a ++ b) = renTs g a ++ renTs g b := by
  rw [renTs_map, renTs_map, renTs_map, List.map_append]
theorem cellsOf_ren (g : Nat → Nat) : ∀ (n : Nat) (T : Ty) (v : T.den) (l : List TV), cellsOf n T v = some l → renTs g l = l
  | 0, _, _, _, he => by simp [cellsOf] at he
  | n + 1, .st t, v, l, he => cellsOf_ren g n t v l he
  | n + 1, .pr a b, v, l, he => by
    simp only [cellsOf] at he
    split at he
    · rename_i x y hx hy
      simp only [Option.some.injEq] at he; subst he
      rw [renTs_append, cellsOf_ren g n a v.1 x hx, cellsOf_ren g n b v.2 y hy]
    · cases he
  | n + 1, .un, v, l, he => by simp only [cellsOf, Option.some.injEq] at he; subst he; rfl
  | n + 1, .ex, v, l, he => cellsOf_ren g n exF (unEx v) l he
  | n + 1, .sm, v, l, he => cellsOf_ren g n smF (unSm v) l he
  | n + 1, .int k, v, l, he => by simp only [cellsOf, Option.some.injEq] at he; subst he; rfl
  | n + 1, .bool, v, l, he => by simp only [cellsOf, Option.some.injEq] at he; subst he; rfl
  | n + 1, .str, v, l, he => by simp only [cellsOf, Option.some.injEq] at he; subst he; rfl
  | n + 1, .sl t, v, l, he => by simp only [cellsOf, Option.some.injEq] at he; subst he; rfl
abbrev idf : Nat → Nat := fun i => i
mutual
theorem putC_ren (g : Nat → Nat) : ∀ (p : PV) (x : p.ty.den), putC g p x = (putC idf p x).map (renTs g)
  | .d T, x => by
    simp only [putC]
    cases h : cellsOf 40 T x with
    | none => rfl
    | some l => simp only [Option.map_some, cellsOf_ren g 40 T x l h]
  | .ptr i o, x => rfl
  | .row i, x => rfl
  | .mp i, x => rfl
  | .nil, x => rfl
  | .emp, x => rfl
  | .agg ps, x => putCs_ren g ps x
theorem putCs_ren (g : Nat → Nat) : ∀ (ps : List PV) (x : (PV.tyL ps).den), putCs g ps x = (putCs idf ps x).map (renTs g)
  | [], x => rfl
  | p :: r, x => by
    simp only [putCs]
    rw [putC_ren g p, putCs_ren g r]
    cases putC idf p (fsp p.ty (PV.tyL r) x) with
    | none => rfl
    | some a =>
      cases putCs idf r (snp p.ty (PV.tyL r) x) with
      | none => rfl
      | some b => simp only [Option.map_some, renTs_append]
end
def aggO (o : Option (List TV)) : Option TV := match o with | some l => some (.agg l) | none => none
theorem aggO_ren (g : Nat → Nat) (o : Option (List TV)) : aggO (o.map (renTs g)) = (aggO o).map (renT g) := by cases o <;> rfl
theorem putV_ren (g : Nat → Nat) (p : PV) (x : p.ty.den) : putV g p x = (putV idf p x).map (renT g) := by
  cases p with
  | agg ps => exact (congrArg aggO (putCs_ren g ps x)).trans (aggO_ren g _)
  | _ => rfl
theorem putVs_ren (g : Nat → Nat) : ∀ (ps : List PV) (x : (PV.tyL ps).den), putVs g ps x = (putVs idf ps x).map (renTs g)
  | [], x => rfl
  | p :: r, x => by
    simp only [putVs]
    rw [putV_ren g p, putVs_ren g r]
    cases putV idf p (fsp p.ty (PV.tyL r) x) with
    | none => rfl
    | some a =>
      cases putVs idf r (snp p.ty (PV.tyL r) x) with
      | none => rfl
      | some b => rfl
def cellsO (ty : TypeId) (o : Option (List TV)) : Option (Option TBlk) := match o with | some l => some (some (.cells ty l)) | none => none
theorem cellsO_ren (g : Nat → Nat) (ty : TypeId) (o : Option (List TV)) : cellsO ty (o.map (renTs g)) = (cellsO ty o).map (Option.map (renB g)) := by cases o <;> rfl
theorem putB_ren (g : Nat → Nat) (b : PB) (x : b.ty.den) : putB g b x = (putB idf b x).map (Option.map (renB g)) := by
  cases b with
  | cells ty ps => exact (congrArg (cellsO ty) (putCs_ren g ps x)).trans (cellsO_ren g ty _)
  | _ => rfl
theorem putBl_ren (g : Nat → Nat) : ∀ (bs : List PB) (x : (PB.tyL bs).den), putBl g bs x = (putBl idf bs x).map (List.map (Option.map (renB g)))
  | [], x => rfl
  | b :: r, x => by
    simp only [putBl]
    rw [putB_ren g b, putBl_ren g r]
    cases putB idf b (fsp b.ty (PB.tyL r) x) with
    | none => rfl
    | some a =>
      cases putBl idf r (snp b.ty (PB.tyL r) x) with
      | none => rfl
      | some l => rfl
theorem putBl_length (g : Nat → Nat) : ∀ (bs : List PB) (x : (PB.tyL bs).den) (l : List (Option TBlk)), putBl g bs x = some l → l.length = bs.length
  | [], x, l, h => by simp only [putBl, Option.some.injEq] at h; subst h; rfl
  | b :: r, x, l, h => by
    simp only [putBl] at h
    split at h
    · split at h
      · rename_i q hq
        simp only [Option.some.injEq] at h; subst h
        simp [putBl_length g r _ q hq]
      · cases h
    · cases h
theorem get_kill (h : THeap) (i j : Nat) : (kill h i).get j = if j = i then (h.get i).map killB else h.get j := by
  unfold kill
  cases hb : h.get i with
  | none =>
    simp only [Option.map_none]
    split
    · rename_i e; rw [e, hb]
    · rfl
  | some b => rw [PT.get_set]; rfl
theorem layH_ne (g : Nat → Nat) : ∀ (l : List (Option TBlk)) (i : Nat) (h : THeap) (j : Nat), (∀ k, k < l.length → j ≠ g (i + k)) → (layH g i l h).get j = h.get j
  | [], i, h, j, _ => rfl
  | some c :: r, i, h, j, hj => by
    rw [layH, layH_ne g r (i + 1) _ j (fun k hk => by have := hj (k + 1) (by simpa using hk); rwa [show i + 1 + k = i + (k + 1) from by omega]), PT.get_set, if_neg]
    exact hj 0 (by simp)
  | none :: r, i, h, j, hj => by
    rw [layH, layH_ne g r (i + 1) _ j (fun k hk => by have := hj (k + 1) (by simpa using hk); rwa [show i + 1 + k = i + (k + 1) from by omega]), get_kill, if_neg]
    exact hj 0 (by simp)
theorem layH_at (g : Nat → Nat) : ∀ (l : List (Option TBlk)) (i : Nat) (h : THeap), (∀ a b, a < l.length → b < l.length → g (i + a) = g (i + b) → a = b) → ∀ (k : Nat) (c : Option TBlk), l[k]? = some c → (layH g i l h).get (g (i + k)) = (match c with | some b => some b | none => (h.get (g (i + k))).map killB)
  | [], i, h, _, k, c, hk => by simp at hk
  | o :: r, i, h, hinj, k, c, hk => by
    have hinj' : ∀ a b, a < r.length → b < r.length → g (i + 1 + a) = g (i + 1 + b) → a = b := fun a b ha hb e => by
      have := hinj (a + 1) (b + 1) (by simpa using ha) (by simpa using hb) (by rw [show i + (a + 1) = i + 1 + a from by omega, show i + (b + 1) = i + 1 + b from by omega]; exact e)
      omega
    cases k with
    | zero =>
      simp at hk; subst hk
      have hne : ∀ k, k < r.length → g (i + 0) ≠ g (i + 1 + k) := fun k hk e => by
        have := hinj 0 (k + 1) (by simp) (by simpa using hk) (by rw [show i + (k + 1) = i + 1 + k from by omega]; exact e)
        omega
      cases o with
      | some b => rw [layH, layH_ne g r (i + 1) _ _ hne]; simp only [Nat.add_zero]; rw [PT.get_set, if_pos rfl]
      | none => rw [layH, layH_ne g r (i + 1) _ _ hne]; simp only [Nat.add_zero]; rw [get_kill, if_pos rfl]
    | succ k =>
      have hk' : r[k]? = some c := by simpa using hk
      have hkl : k < r.length := (List.getElem?_eq_some_iff.1 hk').1
      have hne : g (i + (k + 1)) ≠ g i := fun e => by
        have := hinj (k + 1) 0 (by simpa using hkl) (by simp) (by rw [e]; rfl)
        omega
      rw [show i + (k + 1) = i + 1 + k from by omega] at hne ⊢
      cases o with
      | some b =>
        rw [layH, layH_at g r (i + 1) _ hinj' k c hk']
        cases c with
        | some _ => rfl
        | none => simp only [PT.get_set, if_neg hne]
      | none =>
        rw [layH, layH_at g r (i + 1) _ hinj' k c hk']
        cases c with
        | some _ => rfl
        | none => simp only [get_kill, if_neg hne]

/-! getting: what was got, put in again, is a weaker view -/
def RowsIn (h' h : THeap) : Prop := ∀ i r, rowOf h' i = some r → rowOf h i = some r
section get
variable {h h' : THeap} {H H' : HF} {g : Nat → Nat}
theorem LeH.agg {l l' : List AV} (hl : LeHL H H' l l') (hc : ∀ x ∈ l', x.isCell = true) : LeH H H' (.agg l) (.agg l') := by
  intro φ E w v hrep hr
  cases hr with
  | @agg _ vs hlen hcl hrr =>
    refine .agg (by rw [hlen, ← hl.length]) hc fun j y u hy hu => ?_
    obtain ⟨x, hx, hle⟩ := hl.get j y hy
    exact hle φ E w u hrep (hrr j x u hx hu)
theorem row_same (hr : RowsIn h' h) {i : Nat} {y y' : AV} (hy : erV h (.row i) = some y) (hy' : erV h' (.row i) = some y') : y' = y := by
  simp only [erV] at hy hy'
  cases h1 : rowOf h' i with
  | none => rw [h1] at hy'; cases hy'
  | some r =>
    rw [h1] at hy'
    rw [hr i r h1] at hy
    rw [hy] at hy'; cases hy'; rfl
mutual
theorem getC_ok (d : Dom H H') (hr : RowsIn h' h) : ∀ (p : PV) (l : List TV) (x : p.ty.den) (m : Nat) (r : List TV) (cs : List TV) (l' cs' : List AV), getC g h p l = some (x, m, r) → putC g p x = some cs → erVs h l = some l' → erVs h' cs = some cs' → Giv h H H' m → ∃ l1 l2, l' = l1 ++ l2 ∧ erVs h r = some l2 ∧ LeHL H H' l1 cs'
  | .d T, l, x, m, r, cs, l', cs', hg, hp, hl, hc, gv => by
    obtain ⟨l1, l2, e1, e2, e3⟩ := packC_ok d 40 T l x m r l' hg hl gv
    have := (cellsOf_ok h' 40 T x cs hp).1
    rw [hc] at this; cases this
    exact ⟨l1, l2, e1, e2, e3⟩
  | .ptr i q, l, x, m, r, cs, l', cs', hg, hp, hl, hc, gv => by
    simp only [getC] at hg
    split at hg
    · rename_i i' o' r'
      split at hg
      · rename_i hb
        simp only [Bool.and_eq_true] at hb
        have e1 := Nat.eq_of_beq_eq_true hb.1
        have e2 := Nat.eq_of_beq_eq_true hb.2
        subst e1; subst e2
        simp only [Option.some.injEq, Prod.mk.injEq] at hg
        obtain ⟨_, _, rfl⟩ := hg
        simp only [putC, Option.some.injEq] at hp; subst hp
        obtain ⟨y, l2, rfl, g1, g2⟩ := erVs_cons hl
        simp only [erV, Option.some.injEq] at g1; subst g1
        simp only [erVs, erV, Option.some.injEq] at hc; subst hc
        exact ⟨[_], l2, rfl, g2, LeH.refl d _, trivial⟩
      · cases hg
    · cases hg
  | .row i, l, x, m, r, cs, l', cs', hg, hp, hl, hc, gv => by
    simp only [getC] at hg
    split at hg
    · rename_i i' r'
      split at hg
      · rename_i hb
        have e1 := Nat.eq_of_beq_eq_true hb
        subst e1
        simp only [Option.some.injEq, Prod.mk.injEq] at hg
        obtain ⟨_, _, rfl⟩ := hg
        simp only [putC, Option.some.injEq] at hp; subst hp
        obtain ⟨y, l2, rfl, g1, g2⟩ := erVs_cons hl
        obtain ⟨y', l3, rfl, g3, g4⟩ := erVs_cons hc
        simp only [erVs, Option.some.injEq] at g4; subst g4
        rw [row_same hr g1 g3]
        exact ⟨[_], l2, rfl, g2, LeH.refl d _, trivial⟩
      · cases hg
    · cases hg
  | .mp i, l, x, m, r, cs, l', cs', hg, hp, hl, hc, gv => by
    simp only [getC] at hg
    split at hg
    · rename_i i' r'
      split at hg
      · rename_i hb
        have e1 := Nat.eq_of_beq_eq_true hb
        subst e1
        simp only [Option.some.injEq, Prod.mk.injEq] at hg
        obtain ⟨_, _, rfl⟩ := hg
        simp only [putC, Option.some.injEq] at hp; subst hp
        obtain ⟨y, l2, rfl, g1, g2⟩ := erVs_cons hl
        simp only [erV, Option.some.injEq] at g1; subst g1
        simp only [erVs, erV, Option.some.injEq] at hc; subst hc
        exact ⟨[_], l2, rfl, g2, LeH.refl d _, trivial⟩
      · cases hg
    · cases hg
  | .nil, l, x, m, r, cs, l', cs', hg, hp, hl, hc, gv => by
    simp only [getC] at hg
    split at hg
    · simp only [Option.some.injEq, Prod.mk.injEq] at hg
      obtain ⟨_, _, rfl⟩ := hg
      simp only [putC, Option.some.injEq] at hp; subst hp
      obtain ⟨y, l2, rfl, g1, g2⟩ := erVs_cons hl
      simp only [erV, Option.some.injEq] at g1; subst g1
      simp only [erVs, erV, Option.some.injEq] at hc; subst hc
      exact ⟨[_], l2, rfl, g2, LeH.refl d _, trivial⟩
    · cases hg
  | .emp, l, x, m, r, cs, l', cs', hg, hp, hl, hc, gv => by
    simp only [getC] at hg
    split at hg
    · simp only [Option.some.injEq, Prod.mk.injEq] at hg
      obtain ⟨_, _, rfl⟩ := hg
      simp only [putC, Option.some.injEq] at hp; subst hp
      obtain ⟨y, l2, rfl, g1, g2⟩ := erVs_cons hl
      simp only [erV, Option.some.injEq] at g1; subst g1
      simp only [erVs, erV, Option.some.injEq] at hc; subst hc
      exact ⟨[_], l2, rfl, g2, Le.nilEmp.toH d, trivial⟩
    · simp only [Option.some.injEq, Prod.mk.injEq] at hg
      obtain ⟨_, _, rfl⟩ := hg
      simp only [putC, Option.some.injEq] at hp; subst hp
      obtain ⟨y, l2, rfl, g1, g2⟩ := erVs_cons hl
      simp only [erV, Option.some.injEq] at g1; subst g1
      simp only [erVs, erV, Option.some.injEq] at hc; subst hc
      exact ⟨[_], l2, rfl, g2, LeH.refl d _, trivial⟩
    · cases hg
  | .agg ps, l, x, m, r, cs, l', cs', hg, hp, hl, hc, gv => getCs_ok d hr ps l x m r cs l' cs' hg hp hl hc gv
theorem getCs_ok (d : Dom H H') (hr : RowsIn h' h) : ∀ (ps : List PV) (l : List TV) (x : (PV.tyL ps).den) (m : Nat) (r : List TV) (cs : List TV) (l' cs' : List AV), getCs g h ps l = some (x, m, r) → putCs g ps x = some cs → erVs h l = some l' → erVs h' cs = some cs' → Giv h H H' m → ∃ l1 l2, l' = l1 ++ l2 ∧ erVs h r = some l2 ∧ LeHL H H' l1 cs'
  | [], l, x, m, r, cs, l', cs', hg, hp, hl, hc, gv => by
    simp only [getCs, Option.some.injEq, Prod.mk.injEq] at hg
    obtain ⟨_, _, rfl⟩ := hg
    simp only [putCs, Option.some.injEq] at hp; subst hp
    simp only [erVs, Option.some.injEq] at hc; subst hc
    exact ⟨[], l', rfl, hl, trivial⟩
  | p :: ps, l, x, m, r, cs, l', cs', hg, hp, hl, hc, gv => by
    simp only [getCs] at hg
    split at hg
    · rename_i x1 m1 r1 h1
      split at hg
      · rename_i x2 m2 r2 h2
        simp only [Option.some.injEq, Prod.mk.injEq] at hg
        obtain ⟨rfl, rfl, rfl⟩ := hg
        simp only [putCs, fsp_mkp, snp_mkp] at hp
        split at hp
        · rename_i a ha
          split at hp
          · rename_i b hb
            simp only [Option.some.injEq] at hp; subst hp
            obtain ⟨a', b', rfl, ea, eb⟩ := erVs_split hc
            obtain ⟨ga, gb⟩ := gv.or
            obtain ⟨l1, l2, rfl, q1, q2⟩ := getC_ok d hr p l _ _ _ a l' a' h1 ha hl ea ga
            obtain ⟨l3, l4, rfl, q3, q4⟩ := getCs_ok d hr ps _ _ _ _ b l2 b' h2 hb q1 eb gb
            exact ⟨l1 ++ l3, l4, by simp, q3, q2.append q4⟩
          · cases hp
        · cases hp
      · cases hg
    · cases hg
end
mutual
theorem putC_cell : ∀ (p : PV) (x : p.ty.den) (cs : List TV), putC g p x = some cs → allC cs = true
  | .d T, x, cs, hp => (cellsOf_ok PT.leaf 40 T x cs hp).2
  | .ptr i q, x, cs, hp => by simp only [putC, Option.some.injEq] at hp; subst hp; rfl
  | .row i, x, cs, hp => by simp only [putC, Option.some.injEq] at hp; subst hp; rfl
  | .mp i, x, cs, hp => by simp only [putC, Option.some.injEq] at hp; subst hp; rfl
  | .nil, x, cs, hp => by simp only [putC, Option.some.injEq] at hp; subst hp; rfl
  | .emp, x, cs, hp => by simp only [putC, Option.some.injEq] at hp; subst hp; rfl
  | .agg ps, x, cs, hp => putCs_cell ps x cs hp
theorem putCs_cell : ∀ (ps : List PV) (x : (PV.tyL ps).den) (cs : List TV), putCs g ps x = some cs → allC cs = true
  | [], x, cs, hp => by simp only [putCs, Option.some.injEq] at hp; subst hp; rfl
  | p :: ps, x, cs, hp => by
    simp only [putCs] at hp
    split at hp
    · rename_i a ha
      split at hp
      · rename_i b hb
        simp only [Option.some.injEq] at hp; subst hp
        exact allC_app (putC_cell p _ a ha) (putCs_cell ps _ b hb)
      · cases hp
    · cases hp
end
theorem getV_ok (d : Dom H H') (hr : RowsIn h' h) {p : PV} {v : TV} {x : p.ty.den} {m : Nat} {u : TV} {y y' : AV} (hg : getV g h p v = some (x, m)) (hp : putV g p x = some u) (hy : erV h v = some y) (hy' : erV h' u = some y') (gv : Giv h H H' m) : LeH H H' y y' := by
  cases p with
  | d T =>
    simp only [putV, Option.some.injEq] at hp; subst hp
    simp only [erV, Option.some.injEq] at hy'; subst hy'
    exact (asT_ok d hg hy gv).1
  | agg ps =>
    simp only [getV] at hg
    split at hg
    · cases hg
    · rename_i hc
      split at hg
      · rename_i l hl
        split at hg
        · rename_i x1 m1 h1
          simp only [Option.some.injEq, Prod.mk.injEq] at hg
          obtain ⟨rfl, rfl⟩ := hg
          simp only [putV] at hp
          split at hp
          · rename_i cs hcs
            simp only [Option.some.injEq] at hp; subst hp
            simp only [erV] at hy'
            split at hy'
            · rename_i cs' hcs'
              simp only [Option.some.injEq] at hy'; subst hy'
              obtain ⟨e1, e2⟩ := cs_ok hl hy
              obtain ⟨l1, l2, q1, q2, q3⟩ := getCs_ok d hr ps l _ _ [] cs y.cs cs' h1 hcs e1 hcs' gv
              simp only [erVs, Option.some.injEq] at q2; subst q2
              rw [List.append_nil] at q1; subst q1
              have hcell : ∀ x ∈ cs', x.isCell = true := allCell_spec (allC_er hcs' (putCs_cell ps _ cs hcs))
              cases v with
              | agg q =>
                simp only [erV] at hy
                split at hy
                · simp only [Option.some.injEq] at hy; subst hy; exact LeH.agg q3 hcell
                · cases hy
              | f S z =>
                simp only [erV, Option.some.injEq] at hy; subst hy
                have ho : S.one = false := by simpa [TV.isC] using hc
                rw [enc1_cs] at q3
                rw [enc1_agg S z ho]
                intro φ E w v hrep hrel
                exact LeH.agg q3 hcell φ E w v hrep (Le.aggF _ _ _ _ hrel)
              | tup q => simp [TV.cs, TV.isC] at hl
              | undef => simp [TV.cs, TV.isC] at hl
              | anyb => simp [TV.cs, TV.isC] at hl
              | fel T xs j hj off => simp [TV.isC] at hc
              | pel id sz j off => simp [TV.isC] at hc
              | ptr id off => simp [TV.isC] at hc
              | row id => simp [TV.isC] at hc
              | emp => simp [TV.isC] at hc
              | nil => simp [TV.isC] at hc
              | mp id => simp [TV.isC] at hc
              | clo g l => simp [TV.isC] at hc
            · cases hy'
          · cases hp
        · cases hg
      · cases hg
  | ptr i q =>
    simp only [putV, Option.some.injEq] at hp; subst hp
    simp only [getV] at hg
    split at hg
    · rename_i h1
      simp only [getC] at h1
      split at h1
      · rename_i e
        simp only [List.cons.injEq] at e
        obtain ⟨rfl, _⟩ := e
        split at h1
        · rename_i hb
          simp only [Bool.and_eq_true] at hb
          have e1 := Nat.eq_of_beq_eq_true hb.1
          have e2 := Nat.eq_of_beq_eq_true hb.2
          subst e1; subst e2
          simp only [erV, Option.some.injEq] at hy hy'; subst hy; subst hy'; exact LeH.refl d _
        · cases h1
      · cases h1
    · cases hg
  | row i =>
    simp only [putV, Option.some.injEq] at hp; subst hp
    simp only [getV] at hg
    split at hg
    · rename_i h1
      simp only [getC] at h1
      split at h1
      · rename_i e
        simp only [List.cons.injEq] at e
        obtain ⟨rfl, _⟩ := e
        split at h1
        · rename_i hb
          have e1 := Nat.eq_of_beq_eq_true hb
          subst e1
          rw [row_same hr hy hy']; exact LeH.refl d _
        · cases h1
      · cases h1
    · cases hg
  | mp i =>
    simp only [putV, Option.some.injEq] at hp; subst hp
    simp only [getV] at hg
    split at hg
    · rename_i h1
      simp only [getC] at h1
      split at h1
      · rename_i e
        simp only [List.cons.injEq] at e
        obtain ⟨rfl, _⟩ := e
        split at h1
        · rename_i hb
          have e1 := Nat.eq_of_beq_eq_true hb
          subst e1
          simp only [erV, Option.some.injEq] at hy hy'; subst hy; subst hy'; exact LeH.refl d _
        · cases h1
      · cases h1
    · cases hg
  | nil =>
    simp only [putV, Option.some.injEq] at hp; subst hp
    simp only [getV] at hg
    split at hg
    · rename_i h1
      simp only [getC] at h1
      split at h1
      · rename_i e
        simp only [List.cons.injEq] at e
        obtain ⟨rfl, _⟩ := e
        simp only [erV, Option.some.injEq] at hy hy'; subst hy; subst hy'; exact LeH.refl d _
      · cases h1
    · cases hg
  | emp =>
    simp only [putV, Option.some.injEq] at hp; subst hp
    simp only [getV] at hg
    split at hg
    · rename_i h1
      simp only [getC] at h1
      split at h1
      · rename_i e
        simp only [List.cons.injEq] at e
        obtain ⟨rfl, _⟩ := e
        simp only [erV, Option.some.injEq] at hy hy'; subst hy; subst hy'; exact Le.nilEmp.toH d
      · rename_i e
        simp only [List.cons.injEq] at e
        obtain ⟨rfl, _⟩ := e
        simp only [erV, Option.some.injEq] at hy hy'; subst hy; subst hy'; exact LeH.refl d _
      · cases h1
    · cases hg
theorem getVs_ok (d : Dom H H') (hr : RowsIn h' h) : ∀ (ps : List PV) (vs : List TV) (x : (PV.tyL ps).den) (m : Nat) (us : List TV) (l l' : List AV), getVs g h ps vs = some (x, m) → putVs g ps x = some us → erVs h vs = some l → erVs h' us = some l' → Giv h H H' m → LeHL H H' l l'
  | [], [], x, m, us, l, l', hg, hp, hl, hl', gv => by
    simp only [putVs, Option.some.injEq] at hp; subst hp
    simp only [erVs, Option.some.injEq] at hl hl'; subst hl; subst hl'
    trivial
  | [], _ :: _, x, m, us, l, l', hg, _, _, _, _ => by simp [getVs] at hg
  | _ :: _, [], x, m, us, l, l', hg, _, _, _, _ => by simp [getVs] at hg
  | p :: ps, v :: vs, x, m, us, l, l', hg, hp, hl, hl', gv => by
    simp only [getVs] at hg
    split at hg
    · rename_i x1 m1 h1
      split at hg
      · rename_i x2 m2 h2
        simp only [Option.some.injEq, Prod.mk.injEq] at hg
        obtain ⟨rfl, rfl⟩ := hg
        simp only [putVs, fsp_mkp, snp_mkp] at hp
        split at hp
        · rename_i a ha
          split at hp
          · rename_i b hb
            simp only [Option.some.injEq] at hp; subst hp
            obtain ⟨y, l2, rfl, e1, e2⟩ := erVs_cons hl
            obtain ⟨y', l3, rfl, e3, e4⟩ := erVs_cons hl'
            obtain ⟨ga, gb⟩ := gv.or
            exact ⟨getV_ok d hr h1 ha e1 e3 ga, getVs_ok d hr ps vs _ _ b l2 l3 h2 hb e2 e4 gb⟩
          · cases hp
        · cases hp
      · cases hg
    · cases hg
/-- what a block was, and what it is as a pattern -/
inductive BM (g : Nat → Nat) (h : THeap) (m : Nat) : TBlk → TBlk → Prop
  | rows (ty : TypeId) (p : Bool) (T : Ty) (xs : List T.den) : BM g h m (.rows ty p T xs) (.rows ty p T xs)
  | mp (K V : Ty) (es : List (K.den × V.den)) : BM g h m (.mp K V es) (.mp K V es)
  | cells (ty : TypeId) (ps : List PV) (x : (PV.tyL ps).den) (l l2 : List TV) (m' : Nat) (hg : getCs g h ps l = some (x, m', [])) (hp : putCs g ps x = some l2) (hm : ∀ i, Nat.testBit m' i = true → Nat.testBit m i = true) : BM g h m (.cells ty l) (.cells ty l2)
theorem BM.mono {m m2 : Nat} (hm : ∀ i, Nat.testBit m i = true → Nat.testBit m2 i = true) {b c : TBlk} (h1 : BM g h m b c) : BM g h m2 b c := by
  cases h1 with
  | rows ty p T xs => exact .rows ty p T xs
  | mp K V es => exact .mp K V es
  | cells ty ps x l l2 m' hg hp hm' => exact .cells ty ps x l l2 m' hg hp fun i hi => hm i (hm' i hi)
theorem getB_ok {i : Nat} {b : PB} {x : b.ty.den} {m : Nat} {c : TBlk} (hg : getB g h i b = some (x, m)) (hp : putB g b x = some (some c)) : ∃ b0, h.get (g i) = some b0 ∧ BM g h m b0 c := by
  cases b with
  | rows ty p T =>
    simp only [getB] at hg
    split at hg
    · rename_i ty' p' S xs hb
      split at hg
      · rename_i hc
        simp only [Bool.and_eq_true, beq_iff_eq] at hc
        obtain ⟨rfl, rfl⟩ := hc
        split at hg
        · rename_i z hz
          simp only [Option.some.injEq, Prod.mk.injEq] at hg
          obtain ⟨rfl, rfl⟩ := hg
          obtain ⟨e, rfl⟩ := castT_ok hz
          cases e
          simp only [putB, Option.some.injEq] at hp; subst hp
          exact ⟨_, hb, .rows _ _ _ _⟩
        · cases hg
      · cases hg
    · cases hg
  | cells ty ps =>
    simp only [getB] at hg
    split at hg
    · rename_i ty' l hb
      split at hg
      · rename_i hc
        have hc : ty = ty' := by simpa using hc
        subst hc
        split at hg
        · rename_i z m1 hz
          simp only [Option.some.injEq, Prod.mk.injEq] at hg
          obtain ⟨rfl, rfl⟩ := hg
          simp only [putB] at hp
          split at hp
          · rename_i l2 hl2
            simp only [Option.some.injEq] at hp; subst hp
            exact ⟨_, hb, .cells ty ps _ l l2 _ hz hl2 fun _ h => h⟩
          · cases hp
        · cases hg
      · cases hg
    · cases hg
  | mp K V =>
    simp only [getB] at hg
    split at hg
    · rename_i K' V' es hb
      split at hg
      · rename_i z hz
        simp only [Option.some.injEq, Prod.mk.injEq] at hg
        obtain ⟨rfl, rfl⟩ := hg
        obtain ⟨e, rfl⟩ := castT_ok hz
        cases e
        simp only [putB, Option.some.injEq] at hp; subst hp
        exact ⟨_, hb, .mp _ _ _⟩
      · cases hg
    · cases hg
  | gone => simp [putB] at hp
theorem getBs_ok : ∀ (bs : List PB) (i : Nat) (x : (PB.tyL bs).den) (m : Nat) (lg : List (Option TBlk)), getBs g h i bs = some (x, m) → putBl g bs x = some lg → ∀ (k : Nat) c, lg[k]? = some (some c) → ∃ b0, h.get (g (i + k)) = some b0 ∧ BM g h m b0 c
  | [], i, x, m, lg, hg, hp, k, c, hk => by
    simp only [putBl, Option.some.injEq] at hp; subst hp; simp at hk
  | b :: r, i, x, m, lg, hg, hp, k, c, hk => by
    simp only [getBs] at hg
    split at hg
    · rename_i x1 m1 h1
      split at hg
      · rename_i x2 m2 h2
        simp only [Option.some.injEq, Prod.mk.injEq] at hg
        obtain ⟨rfl, rfl⟩ := hg
        simp only [putBl, fsp_mkp, snp_mkp] at hp
        split at hp
        · rename_i a ha
          split at hp
          · rename_i q hq
            simp only [Option.some.injEq] at hp; subst hp
            cases k with
            | zero =>
              simp at hk; subst hk
              obtain ⟨b0, e1, e2⟩ := getB_ok h1 ha
              exact ⟨b0, e1, e2.mono fun i hi => by rw [Nat.testBit_or, hi]; rfl⟩
            | succ k =>
              obtain ⟨b0, e1, e2⟩ := getBs_ok r (i + 1) _ _ q h2 hq k c (by simpa using hk)
              rw [show i + 1 + k = i + (k + 1) from by omega] at e1
              exact ⟨b0, e1, e2.mono fun i hi => by rw [Nat.testBit_or, hi]; simp⟩
          · cases hp
        · cases hp
      · cases hg
    · cases hg
end get
end Go.Proofs.YtjjplipoacljoaaDoor.AI
namespace Go.Proofs.YtjjplipoacljoaaDoor.AI
open Go.RowKit

theorem gOf_some {σ : PT Nat} {i a : Nat} (h : σ.get i = some a) : gOf σ i = a := by unfold gOf; rw [h]
theorem sigM_ok {σ : PT Nat} : ∀ (n i acc sm : Nat), sigM σ n i acc = some sm →
    (∀ k, k < n → Nat.testBit acc (gOf σ (i + k)) = false) ∧ (∀ a b, a < n → b < n → gOf σ (i + a) = gOf σ (i + b) → a = b) ∧ ∀ q, Nat.testBit sm q = true ↔ Nat.testBit acc q = true ∨ ∃ k, k < n ∧ gOf σ (i + k) = q
  | 0, i, acc, sm, h => by
    simp only [sigM, Option.some.injEq] at h; subst h
    exact ⟨fun k hk => by omega, fun a b ha => by omega, fun q => ⟨.inl, fun hq => hq.elim id fun ⟨k, hk, _⟩ => by omega⟩⟩
  | n + 1, i, acc, sm, h => by
    simp only [sigM] at h
    split at h
    · rename_i a ha
      split at h
      · cases h
      · rename_i hna
        have hna : Nat.testBit acc a = false := by simpa using hna
        have hga := gOf_some ha
        obtain ⟨h1, h2, h3⟩ := sigM_ok n (i + 1) (acc ||| bit a) sm h
        have hne : ∀ k, k < n → gOf σ (i + 1 + k) ≠ a ∧ Nat.testBit acc (gOf σ (i + 1 + k)) = false := fun k hk => by
          have := h1 k hk
          rw [Nat.testBit_or, Bool.or_eq_false_iff] at this
          refine ⟨fun e => ?_, this.1⟩
          have h4 := this.2
          rw [e] at h4
          rw [testBit_bit.2 rfl] at h4; cases h4
        refine ⟨fun k hk => ?_, fun x y hx hy hxy => ?_, fun q => ?_⟩
        · cases k with
          | zero => rw [Nat.add_zero, hga]; exact hna
          | succ k => rw [show i + (k + 1) = i + 1 + k from by omega]; exact (hne k (by omega)).2
        · cases x with
          | zero =>
            cases y with
            | zero => rfl
            | succ y =>
              rw [Nat.add_zero, hga, show i + (y + 1) = i + 1 + y from by omega] at hxy
              exact absurd hxy.symm (hne y (by omega)).1
          | succ x =>
            cases y with
            | zero =>
              rw [show i + 0 = i from rfl, hga, show i + (x + 1) = i + 1 + x from by omega] at hxy
              exact absurd hxy (hne x (by omega)).1
            | succ y =>
              rw [show i + (x + 1) = i + 1 + x from by omega, show i + (y + 1) = i + 1 + y from by omega] at hxy
              have := h2 x y (by omega) (by omega) hxy
              omega
        · rw [h3, Nat.testBit_or, Bool.or_eq_true]
          constructor
          · rintro ((hq | hq) | ⟨k, hk, hq⟩)
            · exact .inl hq
            · exact .inr ⟨0, by omega, by rw [Nat.add_zero, hga]; exact testBit_bit.1 hq⟩
            · exact .inr ⟨k + 1, by omega, by rw [show i + (k + 1) = i + 1 + k from by omega]; exact hq⟩
          · rintro (hq | ⟨k, hk, hq⟩)
            · exact .inl (.inl hq)
            · cases k with
              | zero => rw [Nat.add_zero, hga] at hq; exact .inl (.inr (testBit_bit.2 hq))
              | succ k => exact .inr ⟨k, by omega, by rw [show i + 1 + k = i + (k + 1) from by omega]; exact hq⟩
    · cases h
theorem fixed_ok {σ : PT Nat} : ∀ (n : Nat), fixed σ n = true → ∀ i, i < n → gOf σ i = i
  | 0, _, i, hi => by omega
  | n + 1, h, i, hi => by
    simp only [fixed, Bool.and_eq_true] at h
    by_cases e : i = n
    · subst e
      cases hx : σ.get i with
      | none => rw [hx] at h; exact absurd h.1 (by simp)
      | some a => rw [hx] at h; rw [gOf_some hx]; exact Nat.eq_of_beq_eq_true h.1
    · exact fixed_ok n h.2 i (by omega)
structure MatchOK (np : Nat) (t : Tm) (vs : List TV) (h : THeap) (z : t.ty.den) (m : Nat) (σ : PT Nat) (sm : Nat) : Prop where
  ex : ∃ x m1 y m2, z = mkp _ _ x y ∧ m = m1 ||| m2 ∧ getVs (gOf σ) h t.vs vs = some (x, m1) ∧ getBs (gOf σ) h 0 t.bs = some (y, m2)
  inj : ∀ a b, a < t.bs.length → b < t.bs.length → gOf σ a = gOf σ b → a = b
  sig : ∀ q, Nat.testBit sm q = true ↔ ∃ k, k < t.bs.length ∧ gOf σ k = q
  disj : ∀ i, Nat.testBit m i = true → Nat.testBit sm i = false
  fix : ∀ i, i < np → gOf σ i = i
theorem matchT_ok {np : Nat} {t : Tm} {vs : List TV} {h : THeap} {z : t.ty.den} {m : Nat} {σ : PT Nat} {sm : Nat} (hm : matchT np t vs h = some ⟨z, m, σ, sm⟩) : MatchOK np t vs h z m σ sm := by
  unfold matchT at hm
  rw [frcP_eq] at hm
  split at hm
  · rename_i sm' hs
    split at hm
    · rename_i x m1 h1
      split at hm
      · rename_i y m2 h2
        split at hm
        · rename_i hc
          simp only [Bool.and_eq_true] at hc
          simp only [Option.some.injEq, Match.mk.injEq] at hm
          obtain ⟨rfl, rfl, rfl, rfl⟩ := hm
          obtain ⟨g1, g2, g3⟩ := sigM_ok _ _ _ _ hs
          simp only [Nat.zero_add] at g1 g2 g3
          exact ⟨⟨x, m1, y, m2, rfl, rfl, h1, h2⟩, g2, fun q => by rw [g3]; simp, fun i hi => disjM_spec hc.1 i hi, fixed_ok np hc.2⟩
        · cases hm
      · cases hm
    · cases hm
  · cases hm

/-! given rows are rows -/
mutual
theorem getC_m {g : Nat → Nat} {h : THeap} : ∀ (p : PV) (l : List TV) (x : p.ty.den) (m : Nat) (r : List TV), getC g h p l = some (x, m, r) → RowsM h m
  | .d T, l, x, m, r, hg => packC_m 40 T l x m r hg
  | .ptr i q, l, x, m, r, hg => by
    simp only [getC] at hg
    split at hg
    · split at hg
      · simp only [Option.some.injEq, Prod.mk.injEq] at hg; obtain ⟨_, rfl, _⟩ := hg; exact RowsM.zero h
      · cases hg
    · cases hg
  | .row i, l, x, m, r, hg => by
    simp only [getC] at hg
    split at hg
    · split at hg
      · simp only [Option.some.injEq, Prod.mk.injEq] at hg; obtain ⟨_, rfl, _⟩ := hg; exact RowsM.zero h
      · cases hg
    · cases hg
  | .mp i, l, x, m, r, hg => by
    simp only [getC] at hg
    split at hg
    · split at hg
      · simp only [Option.some.injEq, Prod.mk.injEq] at hg; obtain ⟨_, rfl, _⟩ := hg; exact RowsM.zero h
      · cases hg
    · cases hg
  | .nil, l, x, m, r, hg => by
    simp only [getC] at hg
    split at hg
    · simp only [Option.some.injEq, Prod.mk.injEq] at hg; obtain ⟨_, rfl, _⟩ := hg; exact RowsM.zero h
    · cases hg
  | .emp, l, x, m, r, hg => by
    simp only [getC] at hg
    split at hg
    · simp only [Option.some.injEq, Prod.mk.injEq] at hg; obtain ⟨_, rfl, _⟩ := hg; exact RowsM.zero h
    · simp only [Option.some.injEq, Prod.mk.injEq] at hg; obtain ⟨_, rfl, _⟩ := hg; exact RowsM.zero h
    · cases hg
  | .agg ps, l, x, m, r, hg => getCs_m ps l x m r hg
theorem getCs_m {g : Nat → Nat} {h : THeap} : ∀ (ps : List PV) (l : List TV) (x : (PV.tyL ps).den) (m : Nat) (r : List TV), getCs g h ps l = some (x, m, r) → RowsM h m
  | [], l, x, m, r, hg => by
    simp only [getCs, Option.some.injEq, Prod.mk.injEq] at hg; obtain ⟨_, rfl, _⟩ := hg; exact RowsM.zero h
  | p :: ps, l, x, m, r, hg => by
    simp only [getCs] at hg
    split at hg
    · rename_i x1 m1 r1 h1
      split at hg
      · rename_i x2 m2 r2 h2
        simp only [Option.some.injEq, Prod.mk.injEq] at hg
        obtain ⟨_, rfl, _⟩ := hg
        exact (getC_m p l x1 m1 r1 h1).or (getCs_m ps r1 _ _ _ h2)
      · cases hg
    · cases hg
end
theorem getV_m {g : Nat → Nat} {h : THeap} {p : PV} {v : TV} {x : p.ty.den} {m : Nat} (hg : getV g h p v = some (x, m)) : RowsM h m := by
  cases p with
  | d T => exact asT_m hg
  | agg ps =>
    simp only [getV] at hg
    split at hg
    · cases hg
    · split at hg
      · split at hg
        · rename_i x1 m1 h1
          simp only [Option.some.injEq, Prod.mk.injEq] at hg
          obtain ⟨_, rfl⟩ := hg; exact getCs_m ps _ _ _ _ h1
        · cases hg
      · cases hg
  | ptr i q =>
    simp only [getV] at hg
    split at hg
    · rename_i h1; simp only [Option.some.injEq, Prod.mk.injEq] at hg; obtain ⟨_, rfl⟩ := hg; exact getC_m _ _ _ _ _ h1
    · cases hg
  | row i =>
    simp only [getV] at hg
    split at hg
    · rename_i h1; simp only [Option.some.injEq, Prod.mk.injEq] at hg; obtain ⟨_, rfl⟩ := hg; exact getC_m _ _ _ _ _ h1
    · cases hg
  | mp i =>
    simp only [getV] at hg
    split at hg
    · rename_i h1; simp only [Option.some.injEq, Prod.mk.injEq] at hg; obtain ⟨_, rfl⟩ := hg; exact getC_m _ _ _ _ _ h1
    · cases hg
  | nil =>
    simp only [getV] at hg
    split at hg
    · rename_i h1; simp only [Option.some.injEq, Prod.mk.injEq] at hg; obtain ⟨_, rfl⟩ := hg; exact getC_m _ _ _ _ _ h1
    · cases hg
  | emp =>
    simp only [getV] at hg
    split at hg
    · rename_i h1; simp only [Option.some.injEq, Prod.mk.injEq] at hg; obtain ⟨_, rfl⟩ := hg; exact getC_m _ _ _ _ _ h1
    · cases hg
theorem getVs_m {g : Nat → Nat} {h : THeap} : ∀ (ps : List PV) (vs : List TV) (x : (PV.tyL ps).den) (m : Nat), getVs g h ps vs = some (x, m) → RowsM h m
  | [], [], x, m, hg => by simp only [getVs, Option.some.injEq, Prod.mk.injEq] at hg; obtain ⟨_, rfl⟩ := hg; exact RowsM.zero h
  | [], _ :: _, x, m, hg => by simp [getVs] at hg
  | _ :: _, [], x, m, hg => by simp [getVs] at hg
  | p :: ps, v :: vs, x, m, hg => by
    simp only [getVs] at hg
    split at hg
    · rename_i x1 m1 h1
      split at hg
      · rename_i x2 m2 h2
        simp only [Option.some.injEq, Prod.mk.injEq] at hg
        obtain ⟨_, rfl⟩ := hg
        exact (getV_m h1).or (getVs_m ps vs x2 m2 h2)
      · cases hg
    · cases hg
theorem getB_m {g : Nat → Nat} {h : THeap} {i : Nat} {b : PB} {x : b.ty.den} {m : Nat} (hg : getB g h i b = some (x, m)) : RowsM h m := by
  cases b with
  | rows ty p T =>
    simp only [getB] at hg
    split at hg
    · split at hg
      · split at hg
        · simp only [Option.some.injEq, Prod.mk.injEq] at hg; obtain ⟨_, rfl⟩ := hg; exact RowsM.zero h
        · cases hg
      · cases hg
    · cases hg
  | cells ty ps =>
    simp only [getB] at hg
    split at hg
    · split at hg
      · split at hg
        · rename_i h1; simp only [Option.some.injEq, Prod.mk.injEq] at hg; obtain ⟨_, rfl⟩ := hg; exact getCs_m ps _ _ _ _ h1
        · cases hg
      · cases hg
    · cases hg
  | mp K V =>
    simp only [getB] at hg
    split at hg
    · split at hg
      · simp only [Option.some.injEq, Prod.mk.injEq] at hg; obtain ⟨_, rfl⟩ := hg; exact RowsM.zero h
      · cases hg
    · cases hg
  | gone => simp only [getB, Option.some.injEq, Prod.mk.injEq] at hg; obtain ⟨_, rfl⟩ := hg; exact RowsM.zero h
theorem getBs_m {g : Nat → Nat} {h : THeap} : ∀ (bs : List PB) (i : Nat) (x : (PB.tyL bs).den) (m : Nat), getBs g h i bs = some (x, m) → RowsM h m
  | [], i, x, m, hg => by simp only [getBs, Option.some.injEq, Prod.mk.injEq] at hg; obtain ⟨_, rfl⟩ := hg; exact RowsM.zero h
  | b :: r, i, x, m, hg => by
    simp only [getBs] at hg
    split at hg
    · rename_i x1 m1 h1
      split at hg
      · rename_i x2 m2 h2
        simp only [Option.some.injEq, Prod.mk.injEq] at hg
        obtain ⟨_, rfl⟩ := hg
        exact (getB_m h1).or (getBs_m r (i + 1) x2 m2 h2)
      · cases hg
    · cases hg

/-! a pattern with its data -/
structure InstOK (t : Tm) (x : t.ty.den) (vs : List TV) (h1 : THeap) (l1 : List (Option TBlk)) : Prop where
  pv : putVs idf t.vs (fsp _ _ x) = some vs
  pb : putBl idf t.bs (snp _ _ x) = some l1
  len : l1.length = t.bs.length
  at_ : ∀ i b, h1.get i = some b ↔ l1[i]? = some (some b)
  ok : okVs h1 vs = true
  lt : ltVs t.bs.length vs = true
  cells : ∀ i ty l, h1.get i = some (.cells ty l) → okVs h1 l = true ∧ ltVs t.bs.length l = true
theorem layH_idf (l : List (Option TBlk)) (i : Nat) (b : TBlk) : (layH idf 0 l PT.leaf).get i = some b ↔ l[i]? = some (some b) := by
  by_cases hi : i < l.length
  · obtain ⟨c, hc⟩ : ∃ c, l[i]? = some c := ⟨l[i], List.getElem?_eq_getElem hi⟩
    have := layH_at idf l 0 PT.leaf (fun a b _ _ e => by simp only [idf] at e; omega) i c hc
    rw [show idf (0 + i) = i from by simp only [idf]; omega] at this
    rw [this, hc]
    cases c with
    | some b' => simp
    | none => simp [PT.get]
  · rw [layH_ne idf l 0 PT.leaf i (fun k hk => by simp only [idf]; omega), List.getElem?_eq_none (by omega)]
    simp [PT.get]
theorem instT_ok {t : Tm} {x : t.ty.den} {vs : List TV} {h1 : THeap} (hi : instT t x = some (vs, h1)) : ∃ l1, InstOK t x vs h1 l1 := by
  unfold instT at hi
  split at hi
  · rename_i us hus
    split at hi
    · rename_i h hh
      split at hi
      · rename_i hc
        simp only [Bool.and_eq_true] at hc
        simp only [Option.some.injEq, Prod.mk.injEq] at hi
        obtain ⟨rfl, rfl⟩ := hi
        unfold putBs at hh
        split at hh
        · rename_i l1 hl1
          simp only [Option.some.injEq] at hh
          refine ⟨l1, hus, hl1, putBl_length _ _ _ _ hl1, fun i b => ?_, hc.1.1, hc.1.2, fun i ty l hil => ?_⟩
          · rw [← hh]; exact layH_idf l1 i b
          · have := PT.get_all _ h 1 0 i _ hc.2 hil
            simpa only [Bool.and_eq_true] using this
        · cases hh
      · cases hi
    · cases hi
  · cases hi

/-! names below n -/
def pnb (nb : Nat) (n : Nat) : Bool := n % 2 == 0 && Nat.blt (n / 2) nb
theorem pnb_nm {nb i : Nat} : pnb nb (nm i) = true ↔ i < nb := by
  unfold pnb nm
  rw [show 2 * i % 2 = 0 from by omega, show 2 * i / 2 = i from by omega]
  simp only [beq_self_eq_true, Bool.true_and]
  exact ⟨fun h => Nat.le_of_ble_eq_true h, fun h => Nat.ble_eq_true_of_le h⟩
theorem pnb_ex {nb n : Nat} (h : pnb nb n = true) : ∃ i, i < nb ∧ n = nm i := by
  unfold pnb at h
  simp only [Bool.and_eq_true, beq_iff_eq] at h
  exact ⟨n / 2, Nat.le_of_ble_eq_true h.2, by unfold nm; omega⟩
mutual
theorem lt_all {nb : Nat} {h : THeap} : ∀ (v : TV) (y : AV), ltV nb v = true → erV h v = some y → y.all (pnb nb) = true
  | .f _ _, y, _, he => by simp only [erV, Option.some.injEq] at he; subst he; rfl
  | .fel _ _ _ _ _, y, _, he => by simp only [erV, Option.some.injEq] at he; subst he; rfl
  | .pel id _ _ _, y, hl, he => by simp only [erV, Option.some.injEq] at he; subst he; exact pnb_nm.2 (Nat.le_of_ble_eq_true hl)
  | .ptr id _, y, hl, he => by simp only [erV, Option.some.injEq] at he; subst he; exact pnb_nm.2 (Nat.le_of_ble_eq_true hl)
  | .row id, y, hl, he => by
    simp only [erV] at he
    split at he
    · simp only [Option.some.injEq] at he; subst he
      unfold rowAV
      split
      · rfl
      · exact pnb_nm.2 (Nat.le_of_ble_eq_true hl)
    · cases he
  | .emp, y, _, he => by simp only [erV, Option.some.injEq] at he; subst he; rfl
  | .nil, y, _, he => by simp only [erV, Option.some.injEq] at he; subst he; rfl
  | .mp id, y, hl, he => by simp only [erV, Option.some.injEq] at he; subst he; exact pnb_nm.2 (Nat.le_of_ble_eq_true hl)
  | .agg l, y, hl, he => by
    simp only [erV] at he
    split at he
    · rename_i l' hl'; simp only [Option.some.injEq] at he; subst he; exact lts_all l l' hl hl'
    · cases he
  | .tup l, y, hl, he => by
    simp only [erV] at he
    split at he
    · rename_i l' hl'; simp only [Option.some.injEq] at he; subst he; exact lts_all l l' hl hl'
    · cases he
  | .clo q l, y, hl, he => by
    simp only [erV] at he
    split at he
    · rename_i l' hl'; simp only [Option.some.injEq] at he; subst he; exact lts_all l l' hl hl'
    · cases he
  | .undef, y, _, he => by simp only [erV, Option.some.injEq] at he; subst he; rfl
  | .anyb, y, _, he => by simp only [erV, Option.some.injEq] at he; subst he; rfl
theorem lts_all {nb : Nat} {h : THeap} : ∀ (l : List TV) (l' : List AV), ltVs nb l = true → erVs h l = some l' → AV.allL (pnb nb) l' = true
  | [], l', _, he => by simp only [erVs, Option.some.injEq] at he; subst he; rfl
  | x :: r, l', hl, he => by
    obtain ⟨y, l2, rfl, e1, e2⟩ := erVs_cons he
    simp only [ltVs, Bool.and_eq_true] at hl
    simp only [AV.allL, Bool.and_eq_true]
    exact ⟨lt_all x y hl.1 e1, lts_all r l2 hl.2 e2⟩
end
theorem InstOK.blk_all {t : Tm} {x : t.ty.den} {vs : List TV} {h1 : THeap} {l1 : List (Option TBlk)} (I : InstOK t x vs h1 l1) {i : Nat} {b : TBlk} (hb : h1.get i = some b) {y : Blk} (hy : erB h1 b = some y) : y.c.all (pnb t.bs.length) = true := by
  cases b with
  | rows ty p T xs =>
    simp only [erB] at hy
    split at hy
    · cases hy
    · simp only [Option.some.injEq] at hy; subst hy; rfl
  | cells ty l =>
    simp only [erB] at hy
    split at hy
    · rename_i l' hl
      simp only [Option.some.injEq] at hy; subst hy
      exact lts_all l l' (I.cells i ty l hb).2 hl
    · cases hy
  | dead p sz n => cases hy
  | mp K V es =>
    simp only [erB, Option.some.injEq] at hy; subst hy
    simp only [BC.all, List.map_map]
    clear hb
    induction es with
    | nil => rfl
    | cons e r ih => simp only [List.map_cons, AV.allL, Bool.and_eq_true]; exact ⟨rfl, ih⟩
theorem InstOK.lt_len {t : Tm} {x : t.ty.den} {vs : List TV} {h1 : THeap} {l1 : List (Option TBlk)} (I : InstOK t x vs h1 l1) {i : Nat} {b : TBlk} (hb : h1.get i = some b) : i < t.bs.length := by
  rw [← I.len]; exact (List.getElem?_eq_some_iff.1 ((I.at_ i b).1 hb)).1

/-- the state under a pattern's own names -/
def φ1 (nb : Nat) (g : Nat → Nat) (φ : PM) : PM := fun n => if pnb nb n then φ (gam g n) else none
theorem φ1_nm {nb : Nat} {g : Nat → Nat} {φ : PM} {i : Nat} (hi : i < nb) : φ1 nb g φ (nm i) = φ (nm (g i)) := by
  unfold φ1; rw [if_pos (pnb_nm.2 hi), gam_nm]
theorem φ1_some {nb : Nat} {g : Nat → Nat} {φ : PM} {n k : Nat} (h : φ1 nb g φ n = some k) : ∃ i, i < nb ∧ n = nm i ∧ φ (nm (g i)) = some k := by
  unfold φ1 at h
  split at h
  · rename_i hp
    obtain ⟨i, hi, rfl⟩ := pnb_ex hp
    rw [gam_nm] at h; exact ⟨i, hi, rfl, h⟩
  · cases h
structure ToId (t : Tm) (x : t.ty.den) (vs : List TV) (h1 : THeap) (g : Nat → Nat) (φ : PM) (E E' : Nat → Prop) (Hv : HF) (w : World) : Prop where
  rep : Rep (φ1 t.bs.length g φ) E' (erHF h1) w
  val : ∀ x v, x.all (pnb t.bs.length) = true → RelV φ (tot E φ Hv) w (x.ren (gam g)) v → RelV (φ1 t.bs.length g φ) (tot E' (φ1 t.bs.length g φ) (erHF h1)) w x v
  own_ : ∀ k, own (φ1 t.bs.length g φ) (erHF h1) k → own φ Hv k
  tot_ : ∀ k, tot E' (φ1 t.bs.length g φ) (erHF h1) k → tot E φ Hv k
theorem Rep.toId {t : Tm} {x : t.ty.den} {vs : List TV} {h1 : THeap} {l1 : List (Option TBlk)} (I : InstOK t x vs h1 l1) {g : Nat → Nat} (inj : ∀ a b, a < t.bs.length → b < t.bs.length → g a = g b → a = b) {φ : PM} {E E' : Nat → Prop} {Hv : HF} {w : World} (r : Rep φ E Hv w)
    (hat : ∀ i b y, h1.get i = some b → erB h1 b = some y → Hv (nm (g i)) = some (y.ren (gam g)))
    (hE : ∀ k, E' k → tot E φ Hv k) (hne : ∀ i k b, i < t.bs.length → Hv (nm (g i)) = some b → φ (nm (g i)) = some k → ¬ E' k) (hel : ∀ k, E' k → k < w.heap.size) : ToId t x vs h1 g φ E E' Hv w := by
  have own1 : ∀ k, own (φ1 t.bs.length g φ) (erHF h1) k → own φ Hv k := by
    rintro k ⟨n, y, h2, h3⟩
    obtain ⟨i, hi, rfl, h4⟩ := φ1_some h3
    obtain ⟨j, b, e, h5, h6⟩ := erHF_some h2
    have := nm_inj e; subst this
    exact ⟨nm (g i), _, hat i b y h5 h6, h4⟩
  have tot1 : ∀ k, tot E' (φ1 t.bs.length g φ) (erHF h1) k → tot E φ Hv k := fun k hk => hk.elim (hE k) fun h => .inr (own1 k h)
  have val : ∀ x v, x.all (pnb t.bs.length) = true → RelV φ (tot E φ Hv) w (x.ren (gam g)) v → RelV (φ1 t.bs.length g φ) (tot E' (φ1 t.bs.length g φ) (erHF h1)) w x v := fun x v hx hr => by
    have h2 : RelV (φ1 t.bs.length g φ) (tot E φ Hv) w x v := RelV.renFrom (fun i k hp hk => by unfold φ1; rw [if_pos hp]; exact hk) hr x hx rfl
    exact h2.ext (fun _ _ h => h) (Ext.refl _ w) fun k _ hk => tot1 k hk
  refine ⟨⟨fun n n' b b' k g1 g2 g3 g4 => ?_, fun n y g1 => ?_, hel, fun g' cells hg => (r.gl g' cells hg).ext (Ext.refl _ w) fun k _ hk => tot1 k hk⟩, val, own1, tot1⟩
  · obtain ⟨i, hi, rfl, h4⟩ := φ1_some g3
    obtain ⟨j, hj, rfl, h5⟩ := φ1_some g4
    obtain ⟨i', c, e, h6, h7⟩ := erHF_some g1
    have := nm_inj e; subst this
    obtain ⟨j', c', e, h8, h9⟩ := erHF_some g2
    have := nm_inj e; subst this
    have := r.inj _ _ _ _ k (hat i c _ h6 h7) (hat j c' _ h8 h9) h4 h5
    rw [inj i j hi hj (nm_inj this)]
  · obtain ⟨i, c, rfl, h6, h7⟩ := erHF_some g1
    have hi := I.lt_len h6
    obtain ⟨k, p1, p2, ob, p3, p4⟩ := r.at_ _ _ (hat i c y h6 h7)
    exact ⟨k, by rw [φ1_nm hi]; exact p1, hne i k _ hi (hat i c y h6 h7) p1, ob, p3, ObjAt.renFrom val (I.blk_all h6 h7) p4⟩

/-- blocks as patterns -/
theorem BM.view {g : Nat → Nat} {h hv : THeap} {H H' : HF} {m : Nat} (d : Dom H H') (gv : Giv h H H' m) (hr : RowsIn hv h) {b0 c : TBlk} (hb : BM g h m b0 c) {y y' : Blk} (e0 : erB h b0 = some y) (e1 : erB hv c = some y') : BLeH H H' y y' := by
  cases hb with
  | rows ty p T xs =>
    simp only [erB] at e0 e1
    rw [e0] at e1; cases e1
    exact BLeH.refl d y
  | mp K V es =>
    simp only [erB] at e0 e1
    rw [e0] at e1; cases e1
    exact BLeH.refl d y
  | cells ty ps x l l2 m' hg hp hm =>
    simp only [erB] at e0 e1
    split at e0
    · rename_i l' hl
      simp only [Option.some.injEq] at e0; subst e0
      split at e1
      · rename_i cs' hc
        simp only [Option.some.injEq] at e1; subst e1
        obtain ⟨l1, l3, q1, q2, q3⟩ := getCs_ok d hr ps l x m' [] l2 l' cs' hg hp hl hc fun i hi => gv i (hm i hi)
        simp only [erVs, Option.some.injEq] at q2; subst q2
        rw [List.append_nil] at q1; subst q1
        exact BLeH.cells rfl rfl q3 (allCell_spec (allC_er hc (putCs_cell ps x l2 hp)))
      · cases e1
    · cases e0
theorem BM.erB_some {g : Nat → Nat} {h hv : THeap} {nx m : Nat} (hinv : InvH h nx) {i : Nat} {b0 c : TBlk} (h0 : h.get i = some b0) (hb : BM g h m b0 c) {y' : Blk} (e1 : erB hv c = some y') : ∃ y, erB h b0 = some y := by
  cases hb with
  | rows ty p T xs => exact ⟨y', e1⟩
  | mp K V es => exact ⟨y', e1⟩
  | cells ty ps x l l2 m' hg hp hm =>
    obtain ⟨l', hl⟩ := okVs_er h l (hinv.cells i ty l h0)
    exact ⟨_, by simp only [erB, hl]; rfl⟩
theorem BM.row {g : Nat → Nat} {h : THeap} {m : Nat} {b0 c : TBlk} (hb : BM g h m b0 c) : rowB c = rowB b0 := by
  cases hb <;> rfl
end Go.Proofs.YtjjplipoacljoaaDoor.AI
namespace Go.Proofs.YtjjplipoacljoaaDoor.AI
open Go.RowKit

structure Holds (P : Program) (f : FuncId) (c : Con) : Prop where
  callable : Callable P f
  calls : ∀ x y, c.m x = some y → ∀ vs hp l1 rs hq l2 la lr, InstOK c.pre x vs hp l1 → InstOK c.post y rs hq l2 → erVs hp vs = some la → erVs hq rs = some lr →
    ∀ (φ : PM) (E : Nat → Prop) (w : World) (us : List Value), Rep φ E (erHF hp) w → RelL φ (tot E φ (erHF hp)) w la us → (∀ n k, φ n = some k → ow n < c.pre.bs.length) →
    Calls P f us.toArray w fun en w' => ∃ v φ', en = .returned v ∧ Ext (own φ (erHF hp)) w w' ∧ (∀ k, k < w.heap.size → own φ' (erHF hq) k → own φ (erHF hp) k) ∧ (∀ i, i < c.pre.bs.length → φ' (nm i) = φ (nm i)) ∧ Rep φ' E (erHF hq) w' ∧ RelV φ' (tot E φ' (erHF hq)) w' (tupA lr) v

theorem noGone_ok {g : Nat → Nat} : ∀ (bs : List PB) (x : (PB.tyL bs).den) (l : List (Option TBlk)), noGone bs = true → putBl g bs x = some l → ∀ (i : Nat) (c : Option TBlk), l[i]? = some c → ∃ b, c = some b
  | [], x, l, _, hp, i, c, hc => by simp only [putBl, Option.some.injEq] at hp; subst hp; simp at hc
  | b :: r, x, l, hn, hp, i, c, hc => by
    simp only [putBl] at hp
    split at hp
    · rename_i a ha
      split at hp
      · rename_i q hq
        simp only [Option.some.injEq] at hp; subst hp
        cases i with
        | zero =>
          simp at hc; subst hc
          cases b with
          | gone => simp [noGone] at hn
          | rows ty p T => simp only [putB, Option.some.injEq] at ha; exact ⟨_, ha.symm⟩
          | cells ty ps =>
            simp only [putB] at ha
            split at ha
            · simp only [Option.some.injEq] at ha; exact ⟨_, ha.symm⟩
            · cases ha
          | mp K V => simp only [putB, Option.some.injEq] at ha; exact ⟨_, ha.symm⟩
        | succ i =>
          refine noGone_ok r _ q ?_ hq i c (by simpa using hc)
          cases b <;> first | exact hn | simp [noGone] at hn
      · cases hp
    · cases hp
theorem sameRows_ok {h h2 : THeap} {g : Nat → Nat} : ∀ n, sameRows h h2 g n = true → ∀ i, i < n → ∀ r, rowOf h (g i) = some r → rowOf h2 (g i) = some r
  | 0, _, i, hi, _, _ => by omega
  | n + 1, hs, i, hi, r, hr => by
    simp only [sameRows, Bool.and_eq_true] at hs
    by_cases e : i = n
    · subst e
      obtain ⟨p, s, k⟩ := r
      have h1 := hs.1
      rw [hr] at h1
      cases h3 : rowOf h2 (g i) with
      | none => rw [h3] at h1; cases h1
      | some q =>
        obtain ⟨p', s', k'⟩ := q
        rw [h3] at h1
        simp only [Bool.and_eq_true, beq_iff_eq] at h1
        rw [h1.1.1, Nat.eq_of_beq_eq_true h1.1.2, Nat.eq_of_beq_eq_true h1.2]
    · exact sameRows_ok n hs.2 i (by omega) r hr

theorem RelL.le {H H' : HF} {φ : PM} {E : Nat → Prop} {w : World} (r : Rep φ E H w) : ∀ {l l' : List AV} {us : List Value}, LeHL H H' l l' → RelL φ (tot E φ H) w l us → RelL φ (tot E φ H') w l' us
  | [], [], [], _, _ => trivial
  | [], [], _ :: _, _, h => h.elim
  | _ :: _, _ :: _, [], _, h => h.elim
  | [], _ :: _, _, h, _ => h.elim
  | _ :: _, [], _, h, _ => h.elim
  | _ :: _, _ :: _, _ :: _, hl, h => ⟨hl.1 _ _ _ _ r h.1, RelL.le r hl.2 h.2⟩
theorem RelL.toId {φ φ' : PM} {O O' : Nat → Prop} {w : World} {γ : Nat → Nat} {p : Nat → Bool} (hv : ∀ x v, x.all p = true → RelV φ O w (x.ren γ) v → RelV φ' O' w x v) : ∀ {l : List AV} {us : List Value}, AV.allL p l = true → RelL φ O w (AV.renL γ l) us → RelL φ' O' w l us
  | [], [], _, _ => trivial
  | [], _ :: _, _, h => h.elim
  | _ :: _, [], _, h => h.elim
  | _ :: _, _ :: _, hp, h => by
    simp only [AV.allL, Bool.and_eq_true] at hp
    exact ⟨hv _ _ hp.1 h.1, RelL.toId hv hp.2 h.2⟩
theorem resT_er {h : THeap} : ∀ {rs : List TV} {lr : List AV}, erVs h rs = some lr → erV h (resT rs) = some (tupA lr)
  | [], lr, he => by simp only [erVs, Option.some.injEq] at he; subst he; rfl
  | [x], lr, he => by
    obtain ⟨y, l2, rfl, e1, e2⟩ := erVs_cons he
    simp only [erVs, Option.some.injEq] at e2; subst e2
    exact e1
  | x :: y :: r, lr, he => by
    obtain ⟨y1, l2, rfl, e1, e2⟩ := erVs_cons he
    obtain ⟨y2, l3, rfl, e3, e4⟩ := erVs_cons e2
    simp only [resT, erV, he, tupA]
theorem tupA_ren (γ : Nat → Nat) : ∀ l : List AV, tupA (AV.renL γ l) = (tupA l).ren γ
  | [] => rfl
  | [x] => rfl
  | x :: y :: r => rfl
theorem tupA_all {p : Nat → Bool} : ∀ {l : List AV}, AV.allL p l = true → (tupA l).all p = true
  | [], _ => rfl
  | [x], h => by simp only [AV.allL, Bool.and_eq_true] at h; exact h.1
  | x :: y :: r, h => h
/-- the numbers from nx on -/
theorem newBits {nx nn q : Nat} : Nat.testBit (((1 <<< nn) - 1) <<< nx) q = true ↔ nx ≤ q ∧ q < nx + nn := by
  rw [Nat.testBit_shiftLeft, Nat.one_shiftLeft, Nat.testBit_two_pow_sub_one]
  simp only [Bool.and_eq_true, decide_eq_true_eq]
  omega

theorem call_T {P : Program} {o : Oper} {e : TEnv} {h : THeap} {nx : Nat} {f : FuncId} {c : Con} {l : List TV} (hinv : InvH h nx) (sp : Holds P f c) {x : c.pre.ty.den} {m : Nat} {σ : PT Nat} {sm : Nat} (M : MatchOK 0 c.pre l h x m σ sm) {vs : List TV} {hp : THeap} {l1 : List (Option TBlk)} (I : InstOK c.pre x vs hp l1) (hng : noGone c.pre.bs = true) {y : c.post.ty.den} (hm : c.m x = some y) {rs : List TV} {hq : THeap} {l2 : List (Option TBlk)} (J : InstOK c.post y rs hq l2) (hle : c.pre.bs.length ≤ c.post.bs.length)
    {g : Nat → Nat} (glo : ∀ i, i < c.pre.bs.length → g i = gOf σ i) (ghi : ∀ i, c.pre.bs.length ≤ i → g i = nx + (i - c.pre.bs.length)) {h2 : THeap} (hh2 : h2 = layH g 0 (l2.map (Option.map (renB g))) (killM m h)) (hsr : sameRows h h2 g c.pre.bs.length = true) {la : List AV} (hla : erVs h l = some la)
    (hexec : ∀ (φ : PM) (E : Nat → Prop) (h' : HF) (w : World) (a : Act), (∀ t, .tmp t ∈ o.op.operands → ∀ y, erEF e h t = some y → RelV φ (tot E φ h') w y (a.tmps.getD t undef)) → Rep φ E h' w → ∃ us : List Value, (execOp a.eval o).run P w = .ok (.enter f us.toArray) w ∧ RelL φ (tot E φ h') w la us) :
    TOpT P o false e h nx (resT (renTs g rs)) (sm ||| m) (sm ||| m ||| (((1 <<< (c.post.bs.length - c.pre.bs.length)) - 1) <<< nx)) h2 (nx + (c.post.bs.length - c.pre.bs.length)) := by
  obtain ⟨x1, m1, x2, m2, hx, hmm, gv, gb⟩ := M.ex
  have hmr : RowsM h m := by rw [hmm]; exact (getVs_m _ _ _ _ gv).or (getBs_m _ _ _ _ gb)
  generalize hnp : c.pre.bs.length = np at *
  generalize hnq : c.post.bs.length = nq at *
  -- the blocks handed in
  have pvg : putVs (gOf σ) c.pre.vs x1 = some (renTs (gOf σ) vs) := by
    have h3 := putVs_ren (gOf σ) c.pre.vs x1
    have h4 := I.pv
    rw [hx, fsp_mkp] at h4
    rw [h3, h4]; rfl
  have pbg : putBl (gOf σ) c.pre.bs x2 = some (l1.map (Option.map (renB (gOf σ)))) := by
    have h3 := putBl_ren (gOf σ) c.pre.bs x2
    have h4 := I.pb
    rw [hx, snp_mkp] at h4
    rw [h3, h4]; rfl
  have hl1 : ∀ i, i < np → ∃ b, l1[i]? = some (some b) := fun i hi => by
    have hi' : i < l1.length := by rw [I.len, hnp]; exact hi
    obtain ⟨b, hb⟩ := noGone_ok c.pre.bs _ l1 hng I.pb i l1[i] (List.getElem?_eq_getElem hi')
    exact ⟨b, by rw [List.getElem?_eq_getElem hi', hb]⟩
  have hbm : ∀ i b, l1[i]? = some (some b) → ∃ b0, h.get (gOf σ i) = some b0 ∧ BM (gOf σ) h m b0 (renB (gOf σ) b) := fun i b hb => by
    obtain ⟨b0, q1, q2⟩ := getBs_ok c.pre.bs 0 x2 m2 _ gb pbg i (renB (gOf σ) b) (by rw [List.getElem?_map, hb]; rfl)
    rw [Nat.zero_add] at q1
    exact ⟨b0, q1, q2.mono fun j hj => by rw [hmm, Nat.testBit_or, hj]; simp⟩
  have inj1 : ∀ a b, a < np → b < np → gOf σ a = gOf σ b → a = b := fun a b ha hb => M.inj a b (by rw [hnp]; exact ha) (by rw [hnp]; exact hb)
  have sig : ∀ q, Nat.testBit sm q = true ↔ ∃ k, k < np ∧ gOf σ k = q := fun q => by rw [M.sig, hnp]
  have gnx : ∀ i, i < np → gOf σ i < nx := fun i hi => by
    obtain ⟨b, hb⟩ := hl1 i hi
    obtain ⟨b0, q1, _⟩ := hbm i b hb
    exact hinv.low _ _ q1
  have hmS : ∀ i, i < np → Nat.testBit m (gOf σ i) = false := fun i hi => by
    cases hx : Nat.testBit m (gOf σ i) with
    | false => rfl
    | true => have := M.disj _ hx; rw [(sig _).2 ⟨i, hi, rfl⟩] at this; cases this
  have injg : ∀ a b, a < nq → b < nq → g a = g b → a = b := fun a b ha hb hab => by
    by_cases h1 : a < np
    · by_cases h2 : b < np
      · rw [glo a h1, glo b h2] at hab; exact inj1 a b h1 h2 hab
      · rw [glo a h1, ghi b (by omega)] at hab; have := gnx a h1; omega
    · by_cases h2 : b < np
      · rw [ghi a (by omega), glo b h2] at hab; have := gnx b h2; omega
      · rw [ghi a (by omega), ghi b (by omega)] at hab; omega
  -- the caller's heap with them as patterns
  let hv : THeap := layH (gOf σ) 0 (l1.map (Option.map (renB (gOf σ)))) (killM m h)
  have hv_at : ∀ i b, l1[i]? = some (some b) → hv.get (gOf σ i) = some (renB (gOf σ) b) := fun i b hb => by
    have := layH_at (gOf σ) (l1.map (Option.map (renB (gOf σ)))) 0 (killM m h) (fun a b ha hb => by
      simp only [List.length_map, I.len, hnp] at ha hb
      simp only [Nat.zero_add]; exact inj1 a b ha hb) i (some (renB (gOf σ) b)) (by rw [List.getElem?_map, hb]; rfl)
    rw [Nat.zero_add] at this
    exact this
  have hv_ne : ∀ j, (∀ i, i < np → j ≠ gOf σ i) → hv.get j = (killM m h).get j := fun j hj =>
    layH_ne (gOf σ) _ 0 _ j fun k hk => by
      simp only [List.length_map, I.len, hnp] at hk
      rw [Nat.zero_add]; exact hj k hk
  have rows_in : RowsIn hv h := fun j r hr => by
    rw [rowOf_eq] at hr ⊢
    by_cases hj : ∃ i, i < np ∧ j = gOf σ i
    · obtain ⟨i, hi, rfl⟩ := hj
      obtain ⟨b, hb⟩ := hl1 i hi
      obtain ⟨b0, q1, q2⟩ := hbm i b hb
      rw [hv_at i b hb] at hr
      rw [q1]; simp only [Option.bind_some] at hr ⊢
      rw [← q2.row]; exact hr
    · rw [hv_ne j (fun i hi e => hj ⟨i, hi, e⟩), get_killM] at hr
      split at hr
      · rename_i ht
        obtain ⟨ty, p, T, xs, hb⟩ := hmr j ht
        rw [hb] at hr ⊢; exact hr
      · exact hr
  have rows_hp : ∀ i r, rowOf hp i = some r → rowOf hv (gOf σ i) = some r := fun i r hr => by
    rw [rowOf_eq] at hr ⊢
    cases hb : hp.get i with
    | none => rw [hb] at hr; cases hr
    | some b =>
      rw [hb] at hr
      rw [hv_at i b ((I.at_ i b).1 hb)]
      simp only [Option.bind_some, rowB_ren] at hr ⊢; exact hr
  have dead_m : ∀ i, Nat.testBit m i = true → erHF hv (nm i) = none := fun i hi => by
    rw [erHF_nm, hv_ne i (fun k hk e => by rw [e, hmS k hk] at hi; cases hi)]
    obtain ⟨p, sz, n, hd⟩ := er_killed hmr hi
    rw [hd]; rfl
  -- the heap behind the call
  have h2_at : ∀ i cc, l2[i]? = some cc → h2.get (g i) = (match cc with | some b => some (renB g b) | none => ((killM m h).get (g i)).map killB) := fun i cc hc => by
    have := layH_at g (l2.map (Option.map (renB g))) 0 (killM m h) (fun a b ha hb => by
      simp only [List.length_map, J.len, hnq] at ha hb
      simp only [Nat.zero_add]; exact injg a b ha hb) i (cc.map (renB g)) (by rw [List.getElem?_map, hc]; rfl)
    rw [Nat.zero_add] at this
    rw [hh2, this]
    cases cc <;> rfl
  have h2_ne : ∀ j, (∀ i, i < nq → j ≠ g i) → h2.get j = (killM m h).get j := fun j hj => by
    rw [hh2]
    refine layH_ne g _ 0 _ j fun k hk => ?_
    simp only [List.length_map, J.len, hnq] at hk
    rw [Nat.zero_add]; exact hj k hk
  have rows_hq : ∀ i r, rowOf hq i = some r → rowOf h2 (g i) = some r := fun i r hr => by
    rw [rowOf_eq] at hr ⊢
    cases hb : hq.get i with
    | none => rw [hb] at hr; cases hr
    | some b =>
      rw [hb] at hr
      rw [h2_at i _ ((J.at_ i b).1 hb)]
      simp only [Option.bind_some, rowB_ren] at hr ⊢; exact hr
  have rows2 : RowsLe h h2 := fun j r hr => by
    by_cases hj : ∃ i, i < np ∧ j = gOf σ i
    · obtain ⟨i, hi, rfl⟩ := hj
      rw [← glo i hi] at hr ⊢
      exact sameRows_ok np hsr i hi r hr
    · have hjn : j < nx := by
        rw [rowOf_eq] at hr
        cases hb : h.get j with
        | none => rw [hb] at hr; cases hr
        | some b => exact hinv.low j b hb
      have := RowsLe.kill m h j r hr
      rw [rowOf_eq] at this ⊢
      rw [h2_ne j (fun i hi e => ?_)]
      · exact this
      · by_cases hip : i < np
        · exact hj ⟨i, hip, by rw [e, glo i hip]⟩
        · rw [ghi i (by omega)] at e; omega
  obtain ⟨lr, hlr⟩ := okVs_er hq rs J.ok
  obtain ⟨lp, hlp⟩ := okVs_er hp vs I.ok
  -- blocks behind the call, by their names
  have er2 : ∀ i b yb, hq.get i = some b → erB hq b = some yb → erHF h2 (nm (g i)) = some (yb.ren (gam g)) := fun i b yb hb hyb => by
    rw [erHF_nm, h2_at i _ ((J.at_ i b).1 hb)]
    exact erB_ren rows_hq hyb
  have er2' : ∀ i, i < nq → ∀ z, erHF h2 (nm (g i)) = some z → ∃ b yb, hq.get i = some b ∧ erB hq b = some yb ∧ z = yb.ren (gam g) := fun i hi z hz => by
    have hi' : i < l2.length := by rw [J.len, hnq]; exact hi
    have hcc := List.getElem?_eq_getElem hi'
    cases hcv : l2[i] with
    | none =>
      rw [hcv] at hcc
      rw [erHF_nm, h2_at i none hcc] at hz
      simp only at hz
      cases hkg : (killM m h).get (g i) with
      | none => rw [hkg] at hz; cases hz
      | some b0 => rw [hkg] at hz; cases b0 <;> simp [killB, erB] at hz
    | some b =>
      rw [hcv] at hcc
      have hb := (J.at_ i b).2 hcc
      rw [erHF_nm, h2_at i (some b) hcc] at hz
      have hyb : ∃ yb, erB hq b = some yb := by
        cases b with
        | rows ty p T xs => simp only [Option.bind_some, renB, erB] at hz ⊢; exact ⟨z, hz⟩
        | cells ty q =>
          obtain ⟨q', hq'⟩ := okVs_er hq q (J.cells i ty q hb).1
          exact ⟨_, by simp only [erB, hq']; rfl⟩
        | dead p sz n => simp [renB, erB] at hz
        | mp K V es => exact ⟨_, rfl⟩
      obtain ⟨yb, hyb⟩ := hyb
      have := erB_ren rows_hq hyb
      simp only [Option.bind_some] at hz
      rw [this] at hz
      exact ⟨b, yb, hb, hyb, by cases hz; rfl⟩
  have dead2 : ∀ i, Nat.testBit m i = true → erHF h2 (nm i) = none := fun i hi => by
    have hlt := hmr.lt hinv hi
    rw [erHF_nm, h2_ne i (fun k hk e => ?_)]
    · obtain ⟨p, sz, n, hd⟩ := er_killed hmr hi
      rw [hd]; rfl
    · by_cases hkp : k < np
      · rw [e, glo k hkp, hmS k hkp] at hi; cases hi
      · rw [ghi k (by omega)] at e; omega
  have inv2 : InvH h2 (nx + (nq - np)) := by
    refine ⟨fun j ty q hj => ?_, fun j b hj => ?_⟩
    · by_cases hjg : ∃ i, i < nq ∧ j = g i
      · obtain ⟨i, hi, rfl⟩ := hjg
        have hi' : i < l2.length := by rw [J.len, hnq]; exact hi
        have hcc := List.getElem?_eq_getElem hi'
        cases hcv : l2[i] with
        | none =>
          rw [hcv] at hcc
          rw [h2_at i none hcc] at hj
          simp only at hj
          cases hkg : (killM m h).get (g i) with
          | none => rw [hkg] at hj; cases hj
          | some b0 => rw [hkg] at hj; cases b0 <;> simp [killB] at hj
        | some b =>
          rw [hcv] at hcc
          have hb := (J.at_ i b).2 hcc
          rw [h2_at i (some b) hcc] at hj
          simp only [Option.some.injEq] at hj
          cases b with
          | cells ty' q' =>
            simp only [renB, TBlk.cells.injEq] at hj
            obtain ⟨_, rfl⟩ := hj
            obtain ⟨z, hz⟩ := okVs_er hq q' (J.cells i ty' q' hb).1
            exact er_okVs _ _ _ (ers_ren rows_hq q' z hz)
          | rows _ _ _ _ => simp [renB] at hj
          | dead _ _ _ => simp [renB] at hj
          | mp _ _ _ => simp [renB] at hj
      · rw [h2_ne j (fun i hi e => hjg ⟨i, hi, e⟩)] at hj
        refine okVs_mono rows2 q ?_
        have hkk := (hinv.kill m).cells j ty q hj
        rw [get_killM] at hj
        split at hj
        · rename_i ht
          obtain ⟨_, _, _, _, hb⟩ := hmr j ht
          rw [hb] at hj; cases hj
        · exact hinv.cells j ty q hj
    · by_cases hjg : ∃ i, i < nq ∧ j = g i
      · obtain ⟨i, hi, rfl⟩ := hjg
        by_cases hip : i < np
        · rw [glo i hip]; have := gnx i hip; omega
        · rw [ghi i (by omega)]; omega
      · rw [h2_ne j (fun i hi e => hjg ⟨i, hi, e⟩)] at hj
        have := (hinv.kill m).low j b hj; omega
  let S : List Nat := (List.range np).map fun i => nm (gOf σ i)
  have memS : ∀ n, n ∈ S ↔ ∃ i, i < np ∧ n = nm (gOf σ i) := fun n => by
    simp only [S, List.mem_map, List.mem_range]
    exact ⟨fun ⟨i, h1, h2⟩ => ⟨i, h1, h2.symm⟩, fun ⟨i, h1, h2⟩ => ⟨i, h1, h2.symm⟩⟩
  let NN : List Nat := (List.range (nq - np)).map fun t => nm (nx + t)
  have memN : ∀ n, n ∈ NN ↔ ∃ t, t < nq - np ∧ n = nm (nx + t) := fun n => by
    simp only [NN, List.mem_map, List.mem_range]
    exact ⟨fun ⟨i, h1, h2⟩ => ⟨i, h1, h2.symm⟩, fun ⟨i, h1, h2⟩ => ⟨i, h1, h2.symm⟩⟩
  have memW : ∀ n, n ∈ S ++ nms m ++ NN ↔ (∃ i, i < nq ∧ n = nm (g i)) ∨ n ∈ nms m := fun n => by
    rw [List.mem_append, List.mem_append, memS, memN]
    constructor
    · rintro ((⟨i, hi, rfl⟩ | hn) | ⟨t, ht, rfl⟩)
      · exact .inl ⟨i, by omega, by rw [glo i hi]⟩
      · exact .inr hn
      · exact .inl ⟨np + t, by omega, by rw [ghi _ (by omega), show np + t - np = t from by omega]⟩
    · rintro (⟨i, hi, rfl⟩ | hn)
      · by_cases hip : i < np
        · exact .inl (.inl ⟨i, hip, by rw [glo i hip]⟩)
        · exact .inr ⟨i - np, by omega, by rw [ghi i (by omega)]⟩
      · exact .inl (.inr hn)
  have hOpT : OpT P o (erEF e h) (erHF h) ⟨tupA (AV.renL (gam g) lr), S ++ nms m, S ++ nms m ++ NN, erHF h2, NN⟩ := by
    intro φ E h' w a hrd hwr hops hrep hN
    have hS' : ∀ i, i < np → h' (nm (gOf σ i)) = erHF h (nm (gOf σ i)) := fun i hi => hrd _ (List.mem_append_left _ ((memS _).2 ⟨i, hi, rfl⟩))
    have hM' : ∀ i, Nat.testBit m i = true → h' (nm i) = erHF h (nm i) := fun i hi => hrd _ (List.mem_append_right _ (nm_mem_nms.2 hi))
    obtain ⟨us, hrun, hrel⟩ := hexec φ E h' w a hops hrep
    -- seen as patterns
    let Hv : HF := fun n => if n ∈ S ++ nms m then erHF hv n else h' n
    have Hv_in : ∀ n, n ∈ S ++ nms m → Hv n = erHF hv n := fun n hn => by simp only [Hv, hn, if_true]
    have Hv_out : ∀ n, n ∉ S ++ nms m → Hv n = h' n := fun n hn => by simp only [Hv, hn, if_false]
    have blkS : ∀ i, i < np → ∀ z, erHF hv (nm (gOf σ i)) = some z → ∃ b0 b y0, h.get (gOf σ i) = some b0 ∧ l1[i]? = some (some b) ∧ BM (gOf σ) h m b0 (renB (gOf σ) b) ∧ erB h b0 = some y0 ∧ erB hv (renB (gOf σ) b) = some z := fun i hi z hz => by
      obtain ⟨b, hb⟩ := hl1 i hi
      obtain ⟨b0, q1, q2⟩ := hbm i b hb
      rw [erHF_nm, hv_at i b hb] at hz
      simp only [Option.bind_some] at hz
      obtain ⟨y0, hy0⟩ := BM.erB_some hinv q1 q2 hz
      exact ⟨b0, b, y0, q1, hb, q2, hy0, hz⟩
    have hd : Dom h' Hv := fun n b hb => by
      by_cases hn : n ∈ S ++ nms m
      · rw [Hv_in n hn] at hb
        rcases List.mem_append.1 hn with hs | hs
        · obtain ⟨i, hi, rfl⟩ := (memS n).1 hs
          obtain ⟨b0, b1, y0, q1, q2, q3, q4, q5⟩ := blkS i hi b hb
          exact ⟨y0, by rw [hS' i hi, erHF_nm, q1]; exact q4⟩
        · obtain ⟨i, rfl, hi⟩ := mem_nms.1 hs
          rw [dead_m i hi] at hb; cases hb
      · rw [Hv_out n hn] at hb; exact ⟨b, hb⟩
    have gvv : Giv h h' Hv m := fun i hi => ⟨hM' i hi, by rw [Hv_in _ (List.mem_append_right _ (nm_mem_nms.2 hi)), dead_m i hi]⟩
    have V : View h' Hv := ⟨hd, fun n b b' hb hb' => by
      by_cases hn : n ∈ S ++ nms m
      · rw [Hv_in n hn] at hb'
        rcases List.mem_append.1 hn with hs | hs
        · obtain ⟨i, hi, rfl⟩ := (memS n).1 hs
          obtain ⟨b0, b1, y0, q1, q2, q3, q4, q5⟩ := blkS i hi b' hb'
          rw [hS' i hi, erHF_nm, q1] at hb
          simp only [Option.bind_some] at hb
          exact BM.view hd gvv rows_in q3 hb q5
        · obtain ⟨i, rfl, hi⟩ := mem_nms.1 hs
          rw [dead_m i hi] at hb'; cases hb'
      · rw [Hv_out n hn, hb] at hb'; cases hb'
        exact BLeH.refl hd b⟩
    have hrepv := V.rep hrep
    have hlpg : erVs hv (renTs (gOf σ) vs) = some (AV.renL (gam (gOf σ)) lp) := ers_ren rows_hp vs lp hlp
    have hrel1 : RelL φ (tot E φ Hv) w (AV.renL (gam (gOf σ)) lp) us :=
      RelL.le hrep (getVs_ok hd rows_in c.pre.vs l x1 m1 _ la _ gv pvg hla hlpg (fun i hi => gvv i (by rw [hmm, Nat.testBit_or, hi]; rfl))) hrel
    -- the callee's names
    let E' : Nat → Prop := fun k => E k ∨ ∃ n b, Hv n = some b ∧ n ∉ S ∧ φ n = some k
    have T : ToId c.pre x vs hp (gOf σ) φ E E' Hv w := by
      refine Rep.toId I (fun a b ha hb => inj1 a b (by rw [← hnp]; exact ha) (by rw [← hnp]; exact hb)) hrepv (fun i b yb hb hyb => ?_) ?_ ?_ ?_
      · have hi := I.lt_len hb
        rw [hnp] at hi
        rw [Hv_in _ (List.mem_append_left _ ((memS _).2 ⟨i, hi, rfl⟩)), erHF_nm, hv_at i b ((I.at_ i b).1 hb)]
        exact erB_ren rows_hp hyb
      · rintro k (hE | ⟨n, b, h1, _, h3⟩)
        · exact .inl hE
        · exact .inr ⟨n, b, h1, h3⟩
      · rintro i k b hi h1 h3 (hE | ⟨n, b', h4, h5, h6⟩)
        · obtain ⟨k', p1, p2, _⟩ := hrepv.at_ _ _ h1
          rw [h3] at p1; cases p1; exact p2 hE
        · have := hrepv.inj _ _ _ _ k h1 h4 h3 h6
          exact h5 (by rw [← this]; exact (memS _).2 ⟨i, by rw [← hnp]; exact hi, rfl⟩)
      · rintro k (hE | ⟨n, b, h1, _, h3⟩)
        · exact hrepv.el k hE
        · obtain ⟨k', q1, _, ob, q3, _⟩ := hrepv.at_ n b h1
          rw [h3] at q1; cases q1
          exact (Array.getElem?_eq_some_iff.1 q3).1
    have hcalls := sp.calls x y hm vs hp l1 rs hq l2 lp lr I J hlp hlr (φ1 c.pre.bs.length (gOf σ) φ) E' w us T.rep (RelL.toId T.val (lts_all vs lp I.lt hlp) hrel1) (fun n k hk => by
      obtain ⟨i, hi, rfl, _⟩ := φ1_some hk
      rw [ow_nm]; exact hi)
    unfold Oper.wp
    rw [hrun]
    refine Calls.mono hcalls ?_
    rintro en w' ⟨v, φc', rfl, hext, hown, hnm, rp, rv'⟩
    -- the names behind the call
    let isN : Nat → Prop := fun n => n ∈ NN
    let φ' : PM := fun n => if n ∈ NN then φc' (nm (np + (ow n - nx))) else φ n
    have φ'_new : ∀ t, t < nq - np → φ' (nm (nx + t)) = φc' (nm (np + t)) := fun t ht => by
      have : nm (nx + t) ∈ NN := (memN _).2 ⟨t, ht, rfl⟩
      simp only [φ', this, if_true, ow_nm]
      rw [show nx + t - nx = t from by omega]
    have φ'_old : ∀ n, n ∉ NN → φ' n = φ n := fun n hn => by simp only [φ', hn, if_false]
    have loN : ∀ i, i < nx → nm i ∉ NN := fun i hi hn => by
      obtain ⟨t, _, e⟩ := (memN _).1 hn
      have := nm_inj e; omega
    have φ'_g : ∀ i, i < nq → φ' (nm (g i)) = φc' (nm i) := fun i hi => by
      by_cases hip : i < np
      · rw [glo i hip, φ'_old _ (loN _ (gnx i hip)), hnm i (by rw [hnp]; exact hip), φ1_nm (by rw [hnp]; exact hip)]
      · rw [ghi i (by omega), φ'_new _ (by omega), show np + (i - np) = i from by omega]
    have hsub : ∀ n k, φ n = some k → φ' n = some k := fun n k hk => by
      by_cases hn : n ∈ NN
      · rw [hN n hn] at hk; cases hk
      · rw [φ'_old n hn]; exact hk
    let F : HF := updF h' (S ++ nms m ++ NN) (erHF h2)
    have F_g : ∀ i, i < nq → F (nm (g i)) = erHF h2 (nm (g i)) := fun i hi => by
      simp only [F, updF, (memW _).2 (.inl ⟨i, hi, rfl⟩), if_true]
    have F_out : ∀ n, n ∉ S ++ nms m ++ NN → F n = h' n := fun n hn => by simp only [F, updF, hn, if_false]
    -- where a block comes from
    have from_ : ∀ n b, F n = some b → (∃ i bq yb, i < nq ∧ n = nm (g i) ∧ hq.get i = some bq ∧ erB hq bq = some yb ∧ b = yb.ren (gam g)) ∨ (h' n = some b ∧ Hv n = some b ∧ n ∉ S ∧ n ∉ NN ∧ φ' n = φ n) := fun n b hb => by
      by_cases hn : n ∈ S ++ nms m ++ NN
      · rcases (memW n).1 hn with ⟨i, hi, rfl⟩ | hs
        · rw [F_g i hi] at hb
          obtain ⟨bq, yb, q1, q2, q3⟩ := er2' i hi b hb
          exact .inl ⟨i, bq, yb, hi, rfl, q1, q2, q3⟩
        · obtain ⟨i, rfl, hi⟩ := mem_nms.1 hs
          have : F (nm i) = erHF h2 (nm i) := by simp only [F, updF, hn, if_true]
          rw [this, dead2 i hi] at hb; cases hb
      · rw [F_out n hn] at hb
        have h1 : n ∉ S ++ nms m := fun hh => hn (List.mem_append_left _ hh)
        have h3 : n ∉ NN := fun hh => hn (List.mem_append_right _ hh)
        exact .inr ⟨hb, by rw [Hv_out n h1]; exact hb, fun hh => h1 (List.mem_append_left _ hh), h3, φ'_old n h3⟩
    have own' : ∀ k, own φ' F k → own φc' (erHF hq) k ∨ ∃ n b, Hv n = some b ∧ n ∉ S ∧ φ n = some k := by
      rintro k ⟨n, b, h1, h3⟩
      rcases from_ n b h1 with ⟨i, bq, yb, hi, rfl, q1, q2, _⟩ | ⟨_, q2, q3, _, q5⟩
      · rw [φ'_g i hi] at h3
        exact .inl ⟨nm i, yb, by rw [erHF_nm, q1]; exact q2, h3⟩
      · exact .inr ⟨n, b, q2, q3, by rw [← q5]; exact h3⟩
    have mv : Moves φ φ' h' F w w' := by
      refine ⟨hsub, hext.mono fun k hk => hd.own (T.own_ k hk), fun k hk ho => ?_⟩
      rcases own' k ho with h1 | ⟨n, b, h1, _, h3⟩
      · exact hd.own (T.own_ k (hown k hk h1))
      · exact hd.own ⟨n, b, h1, h3⟩
    have tot' : ∀ k, tot E φ' F k → tot E' φc' (erHF hq) k := by
      rintro k (h1 | h1)
      · exact .inl (.inl h1)
      · rcases own' k h1 with h3 | h3
        · exact .inr h3
        · exact .inl (.inr h3)
    let φr : PM := fun n => if pnb nq n then φc' n else none
    have rel_r : ∀ x v, x.all (pnb nq) = true → RelV φc' (tot E' φc' (erHF hq)) w' x v → RelV φr (tot E φ' F) w' x v := fun x v hx hr =>
      hr.restrict (fun i k hi hk => by simp only [φr, hi, if_true]; exact hk) tot' hx
    have rel_g : ∀ x v, RelV φr (tot E φ' F) w' x v → RelV φ' (tot E φ' F) w' (x.ren (gam g)) v := fun x v hr =>
      hr.renTo fun n k hk => by
        simp only [φr] at hk
        split at hk
        · rename_i hpn
          obtain ⟨i, hi, rfl⟩ := pnb_ex hpn
          rw [gam_nm, φ'_g i hi]; exact hk
        · cases hk
    have hnqJ := hnq
    refine ⟨v, φ', rfl, mv, fun n k hk => ?_, ?_, ?_⟩
    · by_cases hn : n ∈ NN
      · exact .inr hn
      · rw [φ'_old n hn] at hk; exact .inl hk
    · refine ⟨fun n n' b b' k h1 h3 h4 h5 => ?_, fun n b h1 => ?_, fun k hk => Nat.lt_of_lt_of_le (hrep.el k hk) mv.ext.size, fun g' cells hg => mv.keepF (hrep.gl g' cells hg)⟩
      · rcases from_ n b h1 with ⟨i, bq, yb, hi, rfl, q1, q2, _⟩ | ⟨q1, q2, q3, _, q5⟩
        · rw [φ'_g i hi] at h4
          have hqi : erHF hq (nm i) = some yb := by rw [erHF_nm, q1]; exact q2
          rcases from_ n' b' h3 with ⟨j, bj, yj, hj, rfl, t1, t2, _⟩ | ⟨t1, t2, t3, _, t5⟩
          · rw [φ'_g j hj] at h5
            have := rp.inj _ _ _ _ k hqi (by rw [erHF_nm, t1]; exact t2) h4 h5
            rw [nm_inj this]
          · exfalso
            obtain ⟨k', p1, p2, _⟩ := rp.at_ _ _ hqi
            rw [h4] at p1; cases p1
            exact p2 (.inr ⟨n', b', t2, t3, by rw [← t5]; exact h5⟩)
        · rcases from_ n' b' h3 with ⟨j, bj, yj, hj, rfl, t1, t2, _⟩ | ⟨t1, t2, t3, _, t5⟩
          · exfalso
            rw [φ'_g j hj] at h5
            have hqj : erHF hq (nm j) = some yj := by rw [erHF_nm, t1]; exact t2
            obtain ⟨k', p1, p2, _⟩ := rp.at_ _ _ hqj
            rw [h5] at p1; cases p1
            exact p2 (.inr ⟨n, b, q2, q3, by rw [← q5]; exact h4⟩)
          · exact hrep.inj n n' b b' k q1 t1 (by rw [← q5]; exact h4) (by rw [← t5]; exact h5)
      · rcases from_ n b h1 with ⟨i, bq, yb, hi, rfl, q1, q2, rfl⟩ | ⟨q1, q2, q3, _, q5⟩
        · have hqi : erHF hq (nm i) = some yb := by rw [erHF_nm, q1]; exact q2
          obtain ⟨k, p1, p2, ob, p3, p4⟩ := rp.at_ _ _ hqi
          have hall := J.blk_all q1 q2
          rw [hnq] at hall
          exact ⟨k, by rw [φ'_g i hi]; exact p1, fun hE => p2 (.inl hE), ob, p3, (p4.restrict rel_r hall).renTo rel_g⟩
        · obtain ⟨k, p1, p2, ob, p3, p4⟩ := hrep.at_ n b q1
          have hk : k < w.heap.size := (Array.getElem?_eq_some_iff.1 p3).1
          refine ⟨k, hsub n k p1, p2, ob, ?_, p4.mono fun x v hr => mv.keep hr⟩
          rw [hext.blk k hk ?_]
          · exact p3
          · rintro ⟨n', y', t1, t2⟩
            obtain ⟨i, hi, rfl, t3⟩ := φ1_some t2
            obtain ⟨j, bb, e, t4, t5⟩ := erHF_some t1
            have := nm_inj e; subst this
            have hi' : i < np := by rw [← hnp]; exact hi
            have hvi : Hv (nm (gOf σ i)) = some (y'.ren (gam (gOf σ))) := by
              rw [Hv_in _ (List.mem_append_left _ ((memS _).2 ⟨i, hi', rfl⟩)), erHF_nm, hv_at i bb ((I.at_ i bb).1 t4)]
              exact erB_ren rows_hp t5
            have := hrepv.inj _ _ _ _ k hvi q2 t3 p1
            exact q3 (by rw [← this]; exact (memS _).2 ⟨i, hi', rfl⟩)
    · have hall : (tupA lr).all (pnb nq) = true := tupA_all (by have := lts_all rs lr J.lt hlr; rwa [hnq] at this)
      show RelV φ' (tot E φ' F) w' (tupA (AV.renL (gam g) lr)) v
      rw [tupA_ren]
      exact rel_g _ _ (rel_r _ _ hall rv')
  have hrsg : erVs h2 (renTs g rs) = some (AV.renL (gam g) lr) := ers_ren rows_hq rs lr hlr
  refine ⟨⟨_, hOpT, fun z hz => ?_, ?_, fun n hn => ?_, fun n hn => ?_, fun n hn => ?_⟩, rows2, inv2, by omega, fun hs => by cases hs⟩
  · rw [resT_er hrsg] at hz; cases hz; rfl
  · funext n
    unfold updF
    split
    · rfl
    · rename_i hn
      refine (erHF_eq hinv rows2 fun i e => ?_).symm
      subst e
      rw [h2_ne i (fun k hk e => hn ((memW _).2 (.inl ⟨k, hk, by rw [e]⟩))), get_killM, if_neg]
      intro hb; exact hn ((memW _).2 (.inr (nm_mem_nms.2 hb)))
  · rw [Nat.testBit_or]
    rcases List.mem_append.1 hn with hs | hs
    · obtain ⟨i, hi, rfl⟩ := (memS n).1 hs
      rw [ow_nm, (sig _).2 ⟨i, hi, rfl⟩]; rfl
    · obtain ⟨i, rfl, hi⟩ := mem_nms.1 hs
      rw [ow_nm, hi]; simp
  · rw [Nat.testBit_or, Nat.testBit_or]
    rcases List.mem_append.1 hn with hs | hs
    · rcases List.mem_append.1 hs with hs | hs
      · obtain ⟨i, hi, rfl⟩ := (memS n).1 hs
        rw [ow_nm, (sig _).2 ⟨i, hi, rfl⟩]; rfl
      · obtain ⟨i, rfl, hi⟩ := mem_nms.1 hs
        rw [ow_nm, hi]; simp
    · obtain ⟨t, ht, rfl⟩ := (memN n).1 hs
      rw [ow_nm, newBits.2 ⟨by omega, by omega⟩]; simp
  · obtain ⟨t, ht, rfl⟩ := (memN n).1 hn
    rw [ow_nm]; omega
end Go.Proofs.YtjjplipoacljoaaDoor.AI
namespace Go.Proofs.YtjjplipoacljoaaDoor.AI
open Go.RowKit

/-! values that lead nowhere -/
mutual
def FV.fl : FV → Bool
  | .raw _ => true
  | .agg l => FV.flL l
  | .sl _ _ => false
  | .ptr _ _ => false
def FV.flL : List FV → Bool
  | [] => true
  | x :: r => x.fl && FV.flL r
end
theorem flL_mem : ∀ {l : List FV}, FV.flL l = true → ∀ x ∈ l, x.fl = true
  | [], _, x, hx => by cases hx
  | y :: l, h, x, hx => by
    simp only [FV.flL, Bool.and_eq_true] at h
    rcases List.mem_cons.1 hx with rfl | hx
    · exact h.1
    · exact flL_mem h.2 x hx
theorem flL_of : ∀ {l : List FV}, (∀ x ∈ l, x.fl = true) → FV.flL l = true
  | [], _ => rfl
  | y :: l, h => by simp only [FV.flL, Bool.and_eq_true]; exact ⟨h y (by simp), flL_of fun x hx => h x (by simp [hx])⟩
theorem RelF.flat {O O' : Nat → Prop} {w w' : World} {x : FV} {v : Value} (h : RelF O w x v) : x.fl = true → RelF O' w' x v := by
  induction h with
  | raw v => intro _; exact .raw v
  | nil a c hc => intro h; cases h
  | sl cells n c b off us hn hc hO hb hcl hu hr ih => intro h; cases h
  | ptr cells o b off us hO hb hcl hu hr ih => intro h; cases h
  | agg cells vs hl hcl hr ih => intro h; exact .agg cells vs hl hcl fun j x v hx hv => ih j x v hx hv (flL_mem h x (List.mem_of_getElem? hx))
mutual
def AV.fl : AV → Bool
  | .f x => x.fl
  | .emp => true
  | .anyb => true
  | .agg l => AV.flL l
  | .tup l => AV.flL l
  | .ptr _ _ => false
  | .sl _ _ _ => false
  | .row _ _ _ => false
  | .mp _ => false
  | .clo _ _ => false
def AV.flL : List AV → Bool
  | [] => true
  | x :: r => x.fl && AV.flL r
end
theorem aflL_mem : ∀ {l : List AV}, AV.flL l = true → ∀ x ∈ l, x.fl = true
  | [], _, x, hx => by cases hx
  | y :: l, h, x, hx => by
    simp only [AV.flL, Bool.and_eq_true] at h
    rcases List.mem_cons.1 hx with rfl | hx
    · exact h.1
    · exact aflL_mem h.2 x hx
theorem aflL_of : ∀ {l : List AV}, (∀ x ∈ l, x.fl = true) → AV.flL l = true
  | [], _ => rfl
  | y :: l, h => by simp only [AV.flL, Bool.and_eq_true]; exact ⟨h y (by simp), aflL_of fun x hx => h x (by simp [hx])⟩
theorem RelV.flat {φ φ' : PM} {O O' : Nat → Prop} {w w' : World} {x : AV} {v : Value} (h : RelV φ O w x v) : x.fl = true → RelV φ' O' w' x v := by
  induction h with
  | f h => intro hf; exact .f (h.flat hf)
  | ptr h => intro hf; cases hf
  | sl h hn hc => intro hf; cases hf
  | row h hn hc hsh => intro hf; cases hf
  | emp => intro _; exact .emp
  | anyb => intro _; exact .anyb
  | mp h => intro hf; cases hf
  | agg hl hcl hr ih => intro hf; exact .agg hl hcl fun j x v hx hv => ih j x v hx hv (aflL_mem hf x (List.mem_of_getElem? hx))
  | tup hl hr ih => intro hf; exact .tup hl fun j x v hx hv => ih j x v hx hv (aflL_mem hf x (List.mem_of_getElem? hx))
  | clo hl hr ih => intro hf; cases hf
mutual
theorem fl_ren (γ : Nat → Nat) : ∀ x : AV, x.fl = true → x.ren γ = x
  | .f x, _ => rfl
  | .emp, _ => rfl
  | .anyb, _ => rfl
  | .agg l, h => by simp only [AV.ren]; rw [flL_ren γ l h]
  | .tup l, h => by simp only [AV.ren]; rw [flL_ren γ l h]
  | .ptr _ _, h => by cases h
  | .sl _ _ _, h => by cases h
  | .row _ _ _, h => by cases h
  | .mp _, h => by cases h
  | .clo _ _, h => by cases h
theorem flL_ren (γ : Nat → Nat) : ∀ l : List AV, AV.flL l = true → AV.renL γ l = l
  | [], _ => rfl
  | x :: r, h => by
    simp only [AV.flL, Bool.and_eq_true] at h
    rw [AV.renL, fl_ren γ x h.1, flL_ren γ r h.2]
end
theorem encC_fl : ∀ (T : Ty), T.flat = true → ∀ x : T.den, ∀ y ∈ encC T x, y.fl = true
  | .int _, _, x, y, hy => by simp only [encC, List.mem_singleton] at hy; subst hy; rfl
  | .bool, _, x, y, hy => by simp only [encC, List.mem_singleton] at hy; subst hy; rfl
  | .str, _, x, y, hy => by simp only [encC, List.mem_singleton] at hy; subst hy; rfl
  | .sl _, h, x, y, hy => by cases h
  | .st t, h, x, y, hy => encC_fl t h x y hy
  | .pr a b, h, x, y, hy => by
    simp only [Ty.flat, Bool.and_eq_true] at h
    simp only [encC, List.mem_append] at hy
    exact hy.elim (encC_fl a h.1 x.1 y) (encC_fl b h.2 x.2 y)
  | .un, _, x, y, hy => by simp [encC] at hy
  | .ex, h, _, _, _ => by cases h
  | .sm, h, _, _, _ => by cases h
theorem enc1_fl (T : Ty) (h : T.flat = true) (x : T.den) : (enc1 T x).fl = true := by
  cases ho : T.one with
  | true =>
    have := encC_fl T h x (enc1 T x) (by rw [(encC_one T x ho).1]; simp)
    exact this
  | false => rw [enc1_agg T x ho]; exact flL_of (encC_fl T h x)
theorem spr_flat (a b : Ty) : (spr a b).flat = (a.flat && b.flat) := by
  cases a <;> cases b <;> simp [spr, sprN, Ty.flat]
theorem ltVs_split {n : Nat} : ∀ {a b : List TV}, ltVs n (a ++ b) = true → ltVs n a = true ∧ ltVs n b = true
  | [], b, h => ⟨rfl, h⟩
  | x :: r, b, h => by
    simp only [List.cons_append, ltVs, Bool.and_eq_true] at h ⊢
    obtain ⟨h1, h2⟩ := ltVs_split h.2
    exact ⟨⟨h.1, h1⟩, h2⟩
mutual
theorem putC_fl {g : Nat → Nat} {h : THeap} : ∀ (p : PV) (x : p.ty.den) (cs : List TV) (l : List AV), p.ty.flat = true → putC g p x = some cs → ltVs 0 cs = true → erVs h cs = some l → ∀ y ∈ l, y.fl = true
  | .d T, x, cs, l, hf, hp, _, hl, y, hy => by
    have := (cellsOf_ok h 40 T x cs hp).1
    rw [hl] at this; cases this
    obtain ⟨q, hq, rfl⟩ := List.mem_map.1 hy
    exact encC_fl T hf x q hq
  | .ptr i q, x, cs, l, hf, hp, hlt, hl, y, hy => by
    simp only [putC, Option.some.injEq] at hp; subst hp
    simp [ltVs, ltV] at hlt
  | .row i, x, cs, l, hf, hp, hlt, hl, y, hy => by
    simp only [putC, Option.some.injEq] at hp; subst hp
    simp [ltVs, ltV] at hlt
  | .mp i, x, cs, l, hf, hp, hlt, hl, y, hy => by
    simp only [putC, Option.some.injEq] at hp; subst hp
    simp [ltVs, ltV] at hlt
  | .nil, x, cs, l, hf, hp, hlt, hl, y, hy => by
    simp only [putC, Option.some.injEq] at hp; subst hp
    simp only [erVs, erV, Option.some.injEq] at hl; subst hl
    simp only [List.mem_singleton] at hy; subst hy; rfl
  | .emp, x, cs, l, hf, hp, hlt, hl, y, hy => by
    simp only [putC, Option.some.injEq] at hp; subst hp
    simp only [erVs, erV, Option.some.injEq] at hl; subst hl
    simp only [List.mem_singleton] at hy; subst hy; rfl
  | .agg ps, x, cs, l, hf, hp, hlt, hl, y, hy => putCs_fl ps x cs l hf hp hlt hl y hy
theorem putCs_fl {g : Nat → Nat} {h : THeap} : ∀ (ps : List PV) (x : (PV.tyL ps).den) (cs : List TV) (l : List AV), (PV.tyL ps).flat = true → putCs g ps x = some cs → ltVs 0 cs = true → erVs h cs = some l → ∀ y ∈ l, y.fl = true
  | [], x, cs, l, hf, hp, hlt, hl, y, hy => by
    simp only [putCs, Option.some.injEq] at hp; subst hp
    simp only [erVs, Option.some.injEq] at hl; subst hl
    cases hy
  | p :: ps, x, cs, l, hf, hp, hlt, hl, y, hy => by
    simp only [PV.tyL] at hf
    rw [spr_flat, Bool.and_eq_true] at hf
    simp only [putCs] at hp
    split at hp
    · rename_i a ha
      split at hp
      · rename_i b hb
        simp only [Option.some.injEq] at hp; subst hp
        obtain ⟨a', b', rfl, e1, e2⟩ := erVs_split hl
        have hsp := ltVs_split hlt
        rcases List.mem_append.1 hy with hy | hy
        · exact putC_fl p _ a a' hf.1 ha hsp.1 e1 y hy
        · exact putCs_fl ps _ b b' hf.2 hb hsp.2 e2 y hy
      · cases hp
    · cases hp
end
theorem putV_fl {g : Nat → Nat} {h : THeap} {p : PV} {x : p.ty.den} {u : TV} {y : AV} (hf : p.ty.flat = true) (hp : putV g p x = some u) (hlt : ltV 0 u = true) (hy : erV h u = some y) : y.fl = true := by
  cases p with
  | d T =>
    simp only [putV, Option.some.injEq] at hp; subst hp
    simp only [erV, Option.some.injEq] at hy; subst hy
    exact enc1_fl T hf x
  | agg ps =>
    simp only [putV] at hp
    split at hp
    · rename_i l hl
      simp only [Option.some.injEq] at hp; subst hp
      simp only [erV] at hy
      split at hy
      · rename_i l' hl'
        simp only [Option.some.injEq] at hy; subst hy
        exact aflL_of (putCs_fl ps _ l l' hf hl hlt hl')
      · cases hy
    · cases hp
  | ptr i q => simp only [putV, Option.some.injEq] at hp; subst hp; simp [ltV] at hlt
  | row i => simp only [putV, Option.some.injEq] at hp; subst hp; simp [ltV] at hlt
  | mp i => simp only [putV, Option.some.injEq] at hp; subst hp; simp [ltV] at hlt
  | nil => simp only [putV, Option.some.injEq] at hp; subst hp; simp only [erV, Option.some.injEq] at hy; subst hy; rfl
  | emp => simp only [putV, Option.some.injEq] at hp; subst hp; simp only [erV, Option.some.injEq] at hy; subst hy; rfl
theorem putVs_fl {g : Nat → Nat} {h : THeap} : ∀ (ps : List PV) (x : (PV.tyL ps).den) (us : List TV) (l : List AV), (PV.tyL ps).flat = true → putVs g ps x = some us → ltVs 0 us = true → erVs h us = some l → AV.flL l = true
  | [], x, us, l, hf, hp, hlt, hl => by
    simp only [putVs, Option.some.injEq] at hp; subst hp
    simp only [erVs, Option.some.injEq] at hl; subst hl
    rfl
  | p :: ps, x, us, l, hf, hp, hlt, hl => by
    simp only [PV.tyL] at hf
    rw [spr_flat, Bool.and_eq_true] at hf
    simp only [putVs] at hp
    split at hp
    · rename_i a ha
      split at hp
      · rename_i b hb
        simp only [Option.some.injEq] at hp; subst hp
        obtain ⟨y, l2, rfl, e1, e2⟩ := erVs_cons hl
        simp only [ltVs, Bool.and_eq_true] at hlt
        simp only [AV.flL, Bool.and_eq_true]
        exact ⟨putV_fl hf.1 ha hlt.1 e1, putVs_fl ps _ b l2 hf.2 hb hlt.2 e2⟩
      · cases hp
    · cases hp
theorem tupA_fl : ∀ {l : List AV}, AV.flL l = true → (tupA l).fl = true
  | [], _ => rfl
  | [x], h => by simp only [AV.flL, Bool.and_eq_true] at h; exact h.1
  | x :: y :: r, h => h

/-- a call that only looks at rows of the caller's -/
theorem callB_T {P : Program} {o : Oper} {e : TEnv} {h : THeap} {nx : Nat} {f : FuncId} {c : Con} {l : List TV} (hinv : InvH h nx) (sp : Holds P f c) {x : c.pre.ty.den} {m : Nat} {σ : PT Nat} {sm : Nat} (M : MatchOK 0 c.pre l h x m σ sm) {vs : List TV} {hp : THeap} {l1 : List (Option TBlk)} (I : InstOK c.pre x vs hp l1) {y : c.post.ty.den} (hm : c.m x = some y) {rs : List TV} {hq : THeap} {l2 : List (Option TBlk)} (J : InstOK c.post y rs hq l2) (hp0 : c.pre.bs.length = 0) (hq0 : c.post.bs.length = 0) (hfl : (PV.tyL c.post.vs).flat = true)
    (g : Nat → Nat) {la : List AV} (hla : erVs h l = some la)
    (hexec : ∀ (φ : PM) (E : Nat → Prop) (h' : HF) (w : World) (a : Act), (∀ t, .tmp t ∈ o.op.operands → ∀ y, erEF e h t = some y → RelV φ (tot E φ h') w y (a.tmps.getD t undef)) → Rep φ E h' w → ∃ us : List Value, (execOp a.eval o).run P w = .ok (.enter f us.toArray) w ∧ RelL φ (tot E φ h') w la us) :
    TOpT P o false e h nx (resT (renTs g rs)) m 0 h nx := by
  obtain ⟨x1, m1, x2, m2, hx, hmm, gv, gb⟩ := M.ex
  have hmr : RowsM h m := by rw [hmm]; exact (getVs_m _ _ _ _ gv).or (getBs_m _ _ _ _ gb)
  have pvg : putVs (gOf σ) c.pre.vs x1 = some (renTs (gOf σ) vs) := by
    have h3 := putVs_ren (gOf σ) c.pre.vs x1
    have h4 := I.pv
    rw [hx, fsp_mkp] at h4
    rw [h3, h4]; rfl
  obtain ⟨lr, hlr⟩ := okVs_er hq rs J.ok
  obtain ⟨lp, hlp⟩ := okVs_er hp vs I.ok
  have hfl' : AV.flL lr = true := putVs_fl c.post.vs _ rs lr hfl J.pv (by rw [← hq0]; exact J.lt) hlr
  have hpe : ∀ i, hp.get i = none := fun i => by
    cases hb : hp.get i with
    | none => rfl
    | some b => have := I.lt_len hb; omega
  have hqe : ∀ i, hq.get i = none := fun i => by
    cases hb : hq.get i with
    | none => rfl
    | some b => have := J.lt_len hb; omega
  have rows_hp : ∀ i r, rowOf hp i = some r → rowOf (killM m h) (gOf σ i) = some r := fun i r hr => by rw [rowOf_eq, hpe] at hr; cases hr
  have rows_hq : ∀ i r, rowOf hq i = some r → rowOf h (g i) = some r := fun i r hr => by rw [rowOf_eq, hqe] at hr; cases hr
  have rows_in : RowsIn (killM m h) h := fun j r hr => by
    rw [rowOf_eq] at hr ⊢
    rw [get_killM] at hr
    split at hr
    · rename_i ht
      obtain ⟨ty, p, T, xs, hb⟩ := hmr j ht
      rw [hb] at hr ⊢; exact hr
    · exact hr
  have hOpT : OpT P o (erEF e h) (erHF h) ⟨tupA lr, nms m, [], fun _ => none, []⟩ := by
    intro φ E h' w a hrd hwr hops hrep hN
    obtain ⟨us, hrun, hrel⟩ := hexec φ E h' w a hops hrep
    let Hv : HF := fun n => if n ∈ nms m then none else h' n
    have Hv_in : ∀ n, n ∈ nms m → Hv n = none := fun n hn => by simp only [Hv, hn, if_true]
    have Hv_out : ∀ n, n ∉ nms m → Hv n = h' n := fun n hn => by simp only [Hv, hn, if_false]
    have hd : Dom h' Hv := fun n b hb => by
      by_cases hn : n ∈ nms m
      · rw [Hv_in n hn] at hb; cases hb
      · rw [Hv_out n hn] at hb; exact ⟨b, hb⟩
    have gvv : Giv h h' Hv m := fun i hi => ⟨hrd _ (nm_mem_nms.2 hi), Hv_in _ (nm_mem_nms.2 hi)⟩
    have V : View h' Hv := ⟨hd, fun n b b' hb hb' => by
      by_cases hn : n ∈ nms m
      · rw [Hv_in n hn] at hb'; cases hb'
      · rw [Hv_out n hn, hb] at hb'; cases hb'
        exact BLeH.refl hd b⟩
    have hrepv := V.rep hrep
    have hlpg : erVs (killM m h) (renTs (gOf σ) vs) = some (AV.renL (gam (gOf σ)) lp) := ers_ren rows_hp vs lp hlp
    have hrel1 : RelL φ (tot E φ Hv) w (AV.renL (gam (gOf σ)) lp) us :=
      RelL.le hrep (getVs_ok hd rows_in c.pre.vs l x1 m1 _ la _ gv pvg hla hlpg (fun i hi => gvv i (by rw [hmm, Nat.testBit_or, hi]; rfl))) hrel
    let E' : Nat → Prop := fun k => E k ∨ ∃ n b, Hv n = some b ∧ φ n = some k
    have T : ToId c.pre x vs hp (gOf σ) φ E E' Hv w := by
      refine Rep.toId I (fun a b ha => by omega) hrepv (fun i b yb hb => by rw [hpe] at hb; cases hb) ?_ (fun i k b hi => by omega) ?_
      · rintro k (hE | ⟨n, b, h1, h3⟩)
        · exact .inl hE
        · exact .inr ⟨n, b, h1, h3⟩
      · rintro k (hE | ⟨n, b, h1, h3⟩)
        · exact hrepv.el k hE
        · obtain ⟨k', q1, _, ob, q3, _⟩ := hrepv.at_ n b h1
          rw [h3] at q1; cases q1
          exact (Array.getElem?_eq_some_iff.1 q3).1
    have hcalls := sp.calls x y hm vs hp l1 rs hq l2 lp lr I J hlp hlr (φ1 c.pre.bs.length (gOf σ) φ) E' w us T.rep (RelL.toId T.val (lts_all vs lp I.lt hlp) hrel1) (fun n k hk => by
      obtain ⟨i, hi, rfl, _⟩ := φ1_some hk
      rw [ow_nm]; exact hi)
    unfold Oper.wp
    rw [hrun]
    refine Calls.mono hcalls ?_
    rintro en w' ⟨v, φc', rfl, hext, hown, hnm, rp, rv'⟩
    have hno : ∀ k, ¬ own (φ1 c.pre.bs.length (gOf σ) φ) (erHF hp) k := by
      rintro k ⟨n, b, h1, _⟩
      obtain ⟨i, bb, _, h3, _⟩ := erHF_some h1
      rw [hpe] at h3; cases h3
    have mv : Moves φ φ h' h' w w' := ⟨fun _ _ h => h, hext.mono fun k hk => absurd hk (hno k), fun _ _ h => h⟩
    refine ⟨v, φ, rfl, ?_, fun _ _ h => .inl h, ?_, ?_⟩
    · rw [updF_nil]; exact mv
    · rw [updF_nil]
      refine hrep.moved mv fun k hk => ?_
      obtain ⟨n, b, h1, h3⟩ := hk
      obtain ⟨k', q1, _, ob, q3, _⟩ := hrep.at_ n b h1
      rw [h3] at q1; cases q1
      exact hext.blk k (Array.getElem?_eq_some_iff.1 q3).1 (hno k)
    · exact rv'.flat (tupA_fl hfl')
  have hrsg : erVs h (renTs g rs) = some (AV.renL (gam g) lr) := ers_ren rows_hq rs lr hlr
  refine ⟨⟨_, hOpT, fun z hz => ?_, ?_, fun n hn => ?_, by simp, by simp⟩, fun _ _ h => h, hinv, Nat.le_refl _, fun hs => by cases hs⟩
  · rw [resT_er hrsg, flL_ren _ lr hfl'] at hz; cases hz; rfl
  · exact updF_nil _ _
  · obtain ⟨i, rfl, hi⟩ := mem_nms.1 hn
    rw [ow_nm]; exact hi

/-- a contract by which rows are only read, with the rows among the results -/
def Con.full (c : Con) : Con := ⟨c.pre, ⟨c.post.vs, c.pre.bs⟩, fun x => obind (c.m x) fun y => some (mkp (PV.tyL c.post.vs) (PB.tyL c.pre.bs) (fsp _ _ y) (snp _ _ x))⟩
def HoldsC (P : Program) (f : FuncId) (c : Con) : Prop := if Nat.ble c.pre.bs.length c.post.bs.length = true then Holds P f c else Holds P f c.full
theorem Holds.toC {P : Program} {f : FuncId} {c : Con} (h : Holds P f c) (hb : Nat.ble c.pre.bs.length c.post.bs.length = true) : HoldsC P f c := by
  unfold HoldsC; rw [if_pos hb]; exact h
theorem HoldsC.holds {P : Program} {f : FuncId} {c : Con} (h : HoldsC P f c) (hb : Nat.ble c.pre.bs.length c.post.bs.length = true) : Holds P f c := by
  unfold HoldsC at h; rw [if_pos hb] at h; exact h
theorem mkp_eta (a b : Ty) (z : (spr a b).den) : mkp a b (fsp a b z) (snp a b z) = z := by cases a <;> cases b <;> rfl
open Classical in
/-- the rows come back as they were -/
noncomputable def roM {pre : Tm} {vs : List PV} (m : pre.ty.den → Option (Tm.ty ⟨vs, pre.bs⟩).den) (x : pre.ty.den) : Option (Tm.ty ⟨vs, []⟩).den :=
  obind (m x) fun y => if snp (PV.tyL vs) (PB.tyL pre.bs) y = snp _ _ x then some (mkp (PV.tyL vs) (PB.tyL []) (fsp (PV.tyL vs) (PB.tyL pre.bs) y) ()) else none
theorem HoldsC.ro {P : Program} {f : FuncId} {pre : Tm} {vs : List PV} {m : pre.ty.den → Option (Tm.ty ⟨vs, pre.bs⟩).den} {m' : pre.ty.den → Option (Tm.ty ⟨vs, []⟩).den} (h : Holds P f ⟨pre, ⟨vs, pre.bs⟩, m⟩) (hb : Nat.ble pre.bs.length 0 = false) (hs : ∀ x y, m' x = some y → roM m x = some y) : HoldsC P f ⟨pre, ⟨vs, []⟩, m'⟩ := by
  unfold HoldsC
  rw [if_neg (by show ¬ Nat.ble pre.bs.length 0 = true; rw [hb]; exact Bool.false_ne_true)]
  refine ⟨h.callable, fun x y hxy => ?_⟩
  refine h.calls x y ?_
  have hxy : obind (m' x) (fun y => some (mkp (PV.tyL vs) (PB.tyL pre.bs) (fsp (PV.tyL vs) (PB.tyL []) y) (snp _ _ x))) = some y := hxy
  obtain ⟨z, hz, hzy⟩ := obind_some hxy
  have h1 := hs x z hz
  unfold roM at h1
  obtain ⟨y0, hy0, h2⟩ := obind_some h1
  split at h2
  · rename_i heq
    have h2 := Option.some.inj h2
    have hzy := Option.some.inj hzy
    subst h2
    have hz2 : mkp (PV.tyL vs) (PB.tyL pre.bs) (fsp (PV.tyL vs) (PB.tyL pre.bs) y0) (snp (PV.tyL pre.vs) (PB.tyL pre.bs) x) = y := (congrArg (fun q => mkp (PV.tyL vs) (PB.tyL pre.bs) q (snp (PV.tyL pre.vs) (PB.tyL pre.bs) x)) (fsp_mkp (PV.tyL vs) (PB.tyL []) _ ()).symm).trans hzy
    rw [← heq] at hz2
    have := (mkp_eta (PV.tyL vs) (PB.tyL pre.bs) y0).symm.trans hz2
    exact hy0.trans (congrArg some this)
  · cases h2

theorem TOpT.drop {P : Program} {o : Oper} {e : TEnv} {h h' : THeap} {nx nx' : Nat} {v : TV} {rd wr W wr' : Nat} (t : TOpT P o false e h nx v rd wr h' nx') (hW : ∀ i, Nat.testBit W i = true → erHF h' (nm i) = erHF h (nm i) ∧ Nat.testBit rd i = true) (hw : ∀ i, Nat.testBit wr i = true → Nat.testBit W i = true ∨ Nat.testBit wr' i = true) : TOpT P o false e h nx v rd wr' h' nx' := by
  obtain ⟨⟨f, h1, h2, h3, h4, h5, h6⟩, r, i, g, st⟩ := t
  have hs : ∀ n, Nat.testBit W (ow n) = true → erHF h' n = erHF h n := fun n hn => by
    by_cases ho : ∃ i, n = nm i
    · obtain ⟨i, rfl⟩ := ho; rw [ow_nm] at hn; exact (hW i hn).1
    · rw [erHF_odd h ho, erHF_odd h' ho]
  have hup : ∀ H : HF, (∀ n ∈ f.wr, H n = erHF h n) → updF H (f.wr.filter fun n => !(Nat.testBit W (ow n))) f.nw = updF H f.wr f.nw := fun H hH => by
    funext n
    unfold updF
    by_cases hn : n ∈ f.wr
    · by_cases hb : Nat.testBit W (ow n) = true
      · rw [if_neg (by simp [hb]), if_pos hn]
        have := congrFun h3 n
        unfold updF at this
        rw [if_pos hn, hs n hb] at this
        rw [this, hH n hn]
      · rw [if_pos (by simp [hn, hb]), if_pos hn]
    · rw [if_neg (by simp [hn]), if_neg hn]
  refine ⟨⟨⟨f.val, f.rd ++ (f.wr.filter fun n => Nat.testBit W (ow n)), f.wr.filter fun n => !(Nat.testBit W (ow n)), f.nw, f.N⟩, ?_, h2, ?_, fun n hn => ?_, fun n hn => ?_, h6⟩, r, i, g, fun hs => by cases hs⟩
  · intro φ E H w a hrd hwr hops hrep hN
    have k1 : ∀ i ∈ f.rd, H i = erHF h i := fun i hi => hrd i (List.mem_append_left _ hi)
    have k2 : ∀ i ∈ f.wr, H i = erHF h i := fun i hi => by
      cases hb : Nat.testBit W (ow i) with
      | true => exact hrd i (List.mem_append_right _ (by simp [hi, hb]))
      | false => exact hwr i (by simp [hi, hb])
    have := h1 φ E H w a k1 k2 hops hrep hN
    simp only [hup H k2]
    exact this
  · simp only [hup (erHF h) (fun _ _ => rfl)]; exact h3
  · rcases List.mem_append.1 hn with hn | hn
    · exact h4 n hn
    · simp only [List.mem_filter] at hn
      exact (hW _ hn.2).2
  · simp only [List.mem_filter, Bool.not_eq_true'] at hn
    rcases hw _ (h5 n hn.1) with hh | hh
    · rw [hn.2] at hh; cases hh
    · exact hh

mutual
theorem ltV_mono {n n' : Nat} (hle : n ≤ n') : ∀ (v : TV), ltV n v = true → ltV n' v = true
  | .row id, h => by simp only [ltV, Nat.blt_eq] at h ⊢; omega
  | .pel id _ _ _, h => by simp only [ltV, Nat.blt_eq] at h ⊢; omega
  | .ptr id _, h => by simp only [ltV, Nat.blt_eq] at h ⊢; omega
  | .mp id, h => by simp only [ltV, Nat.blt_eq] at h ⊢; omega
  | .agg l, h => ltVs_mono hle l h
  | .tup l, h => ltVs_mono hle l h
  | .clo _ l, h => ltVs_mono hle l h
  | .f _ _, _ => rfl
  | .fel _ _ _ _ _, _ => rfl
  | .emp, _ => rfl
  | .nil, _ => rfl
  | .undef, _ => rfl
  | .anyb, _ => rfl
theorem ltVs_mono {n n' : Nat} (hle : n ≤ n') : ∀ (l : List TV), ltVs n l = true → ltVs n' l = true
  | [], _ => rfl
  | x :: r, h => by
    simp only [ltVs, Bool.and_eq_true] at h ⊢
    exact ⟨ltV_mono hle x h.1, ltVs_mono hle r h.2⟩
end
/-- rows that are read are put back as they were -/
theorem getBs_put {g g' : Nat → Nat} {h : THeap} : ∀ (bs : List PB) (i : Nat) (x : (PB.tyL bs).den) (m : Nat), allRows bs = true → getBs g h i bs = some (x, m) → ∃ l, putBl g' bs x = some l ∧ l.length = bs.length ∧ ∀ j, j < bs.length → ∃ ty p T xs, l[j]? = some (some (.rows ty p T xs)) ∧ h.get (g (i + j)) = some (.rows ty p T xs)
  | [], i, x, m, _, hg => ⟨[], rfl, rfl, fun j hj => by simp at hj⟩
  | .rows ty p T :: r, i, x, m, ha, hg => by
    simp only [getBs] at hg
    split at hg
    · rename_i x1 m1 h1
      split at hg
      · rename_i x2 m2 h2
        simp only [Option.some.injEq, Prod.mk.injEq] at hg
        obtain ⟨rfl, rfl⟩ := hg
        obtain ⟨l, q1, q2, q3⟩ := getBs_put (g := g) (g' := g') (h := h) r (i + 1) x2 m2 ha h2
        simp only [getB] at h1
        split at h1
        · rename_i ty' p' S xs hb
          split at h1
          · rename_i hc
            simp only [Bool.and_eq_true, beq_iff_eq] at hc
            obtain ⟨rfl, rfl⟩ := hc
            split at h1
            · rename_i z hz
              simp only [Option.some.injEq] at h1
              obtain ⟨rfl, _⟩ := h1
              obtain ⟨es, ez⟩ := castT_ok hz
              cases es
              subst ez
              refine ⟨some (.rows ty p T x1) :: l, ?_, by simp [q2], fun j hj => ?_⟩
              · simp only [putBl]
                rw [fsp_mkp, snp_mkp, q1]; rfl
              · cases j with
                | zero => exact ⟨ty, p, T, _, rfl, hb⟩
                | succ j =>
                  obtain ⟨a, b, c, d, w1, w2⟩ := q3 j (by simpa using hj)
                  exact ⟨a, b, c, d, by simpa using w1, by rw [show i + (j + 1) = i + 1 + j from by omega]; exact w2⟩
            · cases h1
          · cases h1
        · cases h1
      · cases hg
    · cases hg
  | .cells _ _ :: r, i, x, m, ha, hg => by cases ha
  | .mp _ _ :: r, i, x, m, ha, hg => by cases ha
  | .gone :: r, i, x, m, ha, hg => by cases ha
theorem noGone_rows : ∀ {bs : List PB}, allRows bs = true → noGone bs = true
  | [], _ => rfl
  | .rows _ _ _ :: r, h => noGone_rows (bs := r) h
  | .cells _ _ :: r, h => by cases h
  | .mp _ _ :: r, h => by cases h
  | .gone :: r, h => by cases h
theorem sameRows_of {h h2 : THeap} {g : Nat → Nat} : ∀ (n : Nat), (∀ i, i < n → h2.get (g i) = h.get (g i)) → sameRows h h2 g n = true
  | 0, _ => rfl
  | n + 1, hs => by
    simp only [sameRows, Bool.and_eq_true]
    refine ⟨?_, sameRows_of n fun i hi => hs i (by omega)⟩
    have : rowOf h2 (g n) = rowOf h (g n) := by rw [rowOf_eq, rowOf_eq, hs n (by omega)]
    rw [this]
    cases rowOf h (g n) with
    | none => rfl
    | some q => obtain ⟨p, s, k⟩ := q; simp

def ConOK (P : Program) (con : FuncId → Option Con) : Prop := ∀ f c, con f = some c → HoldsC P f c

theorem callK_T {R : Type} {P : Program} {con : FuncId → Option Con} (hcon : ConOK P con) {o : Oper} {e : TEnv} {h : THeap} {nx : Nat} {f : FuncId} {l : List TV} {K : KO R} {r : R} (hinv : InvH h nx) (hk : callK con f l h nx K = some r) {la : List AV} (hla : erVs h l = some la)
    (hexec : ∀ (φ : PM) (E : Nat → Prop) (h' : HF) (w : World) (a : Act), Callable P f → (∀ t, .tmp t ∈ o.op.operands → ∀ y, erEF e h t = some y → RelV φ (tot E φ h') w y (a.tmps.getD t undef)) → Rep φ E h' w → ∃ us : List Value, (execOp a.eval o).run P w = .ok (.enter f us.toArray) w ∧ RelL φ (tot E φ h') w la us) : Res P o false e h nx K r := by
  unfold callK at hk
  split at hk
  · rename_i c hc
    have spc := hcon f c hc
    split at hk
    · rename_i x m σ sm hM
      split at hk
      · rename_i q hq
        obtain ⟨vs, hp⟩ := q
        obtain ⟨l1, I⟩ := instT_ok hq
        obtain ⟨y, hy, hk⟩ := obind_some hk
        split at hk
        · rename_i q2 hq2
          obtain ⟨rs1, hq1⟩ := q2
          obtain ⟨l2, J⟩ := instT_ok hq2
          split at hk
          · rename_i hcond
            simp only [Bool.and_eq_true] at hcond
            have hle := Nat.le_of_ble_eq_true hcond.1
            have sp := spc.holds hcond.1
            simp only at hk
            split at hk
            · rename_i rs hrs
              have hrs' := hrs
              rw [putVs_ren, J.pv] at hrs'
              simp only [Option.map_some, Option.some.injEq] at hrs'
              split at hk
              · rename_i hb
                simp only [Bool.and_eq_true] at hb
                have hq0 := Nat.eq_of_beq_eq_true hb.1.2
                refine ⟨_, _, _, _, _, hk, ?_⟩
                rw [← hrs']
                exact callB_T hinv sp (matchT_ok hM) I hy J (by omega) hq0 hb.2 _ hla fun φ E h' w a => hexec φ E h' w a sp.callable
              · split at hk
                · rename_i h2 hh2
                  obtain ⟨hsr, hk⟩ := chk_some hk
                  refine ⟨_, _, _, _, _, hk, ?_⟩
                  rw [← hrs']
                  unfold putBs at hh2
                  rw [putBl_ren, J.pb] at hh2
                  simp only [Option.map_some, Option.some.injEq] at hh2
                  exact call_T hinv sp (matchT_ok hM) I hcond.2 hy J hle (fun i hi => by
                    have : Nat.blt i c.pre.bs.length = true := Nat.ble_eq_true_of_le hi
                    simp only [this, if_true]) (fun i hi => by
                    have : Nat.blt i c.pre.bs.length = false := by
                      cases hb : Nat.blt i c.pre.bs.length with
                      | false => rfl
                      | true => have := Nat.le_of_ble_eq_true hb; omega
                    simp only [this]; rfl) hh2.symm hsr hla fun φ E h' w a => hexec φ E h' w a sp.callable
                · cases hk
            · cases hk
          · rename_i hcond
            split at hk
            · rename_i hro
              simp only [Bool.and_eq_true] at hro
              have hq0 := Nat.eq_of_beq_eq_true hro.1
              have hng := noGone_rows hro.2
              have sp : Holds P f c.full := by
                unfold HoldsC at spc
                rwa [if_neg (fun hb => hcond (by rw [hb, hng]; rfl))] at spc
              simp only at hk
              split at hk
              · rename_i rs hrs
                split at hk
                · rename_i h2 hh2
                  have hrs' := hrs
                  rw [putVs_ren, J.pv] at hrs'
                  simp only [Option.map_some, Option.some.injEq] at hrs'
                  refine ⟨_, _, _, _, _, hk, ?_⟩
                  rw [← hrs']
                  have M := matchT_ok hM
                  unfold putBs at hh2
                  rw [putBl_ren, I.pb] at hh2
                  simp only [Option.map_some, Option.some.injEq] at hh2
                  have hqe : ∀ i, hq1.get i = none := fun i => by
                    cases hb : hq1.get i with
                    | none => rfl
                    | some b => have := J.lt_len hb; omega
                  have J' : InstOK c.full.post (mkp (PV.tyL c.post.vs) (PB.tyL c.pre.bs) (fsp _ _ y) (snp _ _ x)) rs1 hp l1 :=
                    ⟨by show putVs idf c.post.vs (fsp (PV.tyL c.post.vs) (PB.tyL c.pre.bs) _) = _; rw [fsp_mkp]; exact J.pv, by show putBl idf c.pre.bs (snp (PV.tyL c.post.vs) (PB.tyL c.pre.bs) _) = _; rw [snp_mkp]; exact I.pb, I.len, I.at_, okVs_mono (fun i r hr => by rw [rowOf_eq, hqe] at hr; cases hr) _ J.ok, ltVs_mono (by omega) _ J.lt, I.cells⟩
                  obtain ⟨x1, m1, x2, m2, hx, hmm, gv, gb⟩ := M.ex
                  obtain ⟨l, q1, q2, q3⟩ := getBs_put (g' := idf) c.pre.bs 0 x2 m2 hro.2 gb
                  have hl1 : l1 = l := by
                    have := I.pb
                    rw [hx, snp_mkp, q1] at this
                    cases this; rfl
                  subst hl1
                  have hgi : ∀ i, i < c.pre.bs.length → (if Nat.blt i c.pre.bs.length then gOf σ i else nx + (i - c.pre.bs.length)) = gOf σ i := fun i hi => by
                    have : Nat.blt i c.pre.bs.length = true := Nat.ble_eq_true_of_le hi
                    simp only [this, if_true]
                  have hsame : ∀ i, i < c.pre.bs.length → h2.get (gOf σ i) = h.get (gOf σ i) := fun i hi => by
                    obtain ⟨ty, p, T, xs, w1, w2⟩ := q3 i hi
                    rw [Nat.zero_add] at w2
                    have := layH_at (fun i => if Nat.blt i c.pre.bs.length then gOf σ i else nx + (i - c.pre.bs.length)) (l1.map (Option.map (renB (fun i => if Nat.blt i c.pre.bs.length then gOf σ i else nx + (i - c.pre.bs.length))))) 0 (killM m h) (fun a b ha hb e => by
                      simp only [List.length_map, q2] at ha hb
                      rw [Nat.zero_add, Nat.zero_add, hgi a ha, hgi b hb] at e
                      exact M.inj a b ha hb e) i (some (.rows ty p T xs)) (by rw [List.getElem?_map, w1]; rfl)
                    rw [Nat.zero_add, hgi i hi] at this
                    rw [← hh2, this, w2]
                  have t := call_T (o := o) (e := e) hinv sp M I hng (y := mkp (PV.tyL c.post.vs) (PB.tyL c.pre.bs) (fsp _ _ y) (snp _ _ x)) (by show obind (c.m x) _ = _; rw [hy]; rfl) J' (Nat.le_refl _) (g := fun i => if Nat.blt i c.pre.bs.length then gOf σ i else nx + (i - c.pre.bs.length)) hgi (fun i hi => by
                    have : Nat.blt i c.pre.bs.length = false := by
                      cases hb : Nat.blt i c.pre.bs.length with
                      | false => rfl
                      | true => have := Nat.le_of_ble_eq_true hb; have hi : c.pre.bs.length ≤ i := hi; omega
                    simp only [this]; rfl) hh2.symm (sameRows_of _ fun i hi => by rw [hgi i hi]; exact hsame i hi) hla fun φ E h' w a => hexec φ E h' w a sp.callable
                  have t' : TOpT P o false e h nx (resT (renTs (fun i => if Nat.blt i c.pre.bs.length then gOf σ i else nx + (i - c.pre.bs.length)) rs1)) (sm ||| m) (sm ||| m ||| (((1 <<< (c.pre.bs.length - c.pre.bs.length)) - 1) <<< nx)) h2 (nx + (c.pre.bs.length - c.pre.bs.length)) := t
                  rw [Nat.sub_self, Nat.add_zero] at t'
                  refine t'.drop (W := sm) (fun i hi => ?_) (fun i hi => ?_)
                  · refine ⟨?_, by rw [Nat.testBit_or, hi]; rfl⟩
                    obtain ⟨k, hk, rfl⟩ := (M.sig i).1 hi
                    obtain ⟨ty, p, T, xs, _, w2⟩ := q3 k hk
                    rw [Nat.zero_add] at w2
                    rw [erHF_nm, erHF_nm, hsame k hk, w2]; rfl
                  · simp only [Nat.shiftLeft_zero, Nat.sub_self, Nat.zero_shiftLeft, Nat.or_zero, Nat.testBit_or, Bool.or_eq_true] at hi
                    exact hi
                · cases hk
              · cases hk
            · cases hk
        · cases hk
      · cases hk
    · cases hk
  · cases hk

theorem topK_T {R : Type} {P : Program} {con : FuncId → Option Con} (hcon : ConOK P con) {tyv : TypeId → Option Ty} {o : Oper} {e : TEnv} {h : THeap} {nx : Nat} {i : SI} {K : KO R} {r : R} (hinv : InvH h nx) (hi : InvE e h) (hc : compI P o.op = i) (hk : topK con tyv i e h nx K = some r) : Res P o i.still e h nx K r := by
  have callOps : ∀ (c : Call), o.op = .call c → ∀ x, x ∈ c.operands → x ∈ o.op.operands := fun c ho x hx => by rw [ho]; exact hx
  cases i with
  | call f args =>
    simp only [topK] at hk
    split at hk
    · rename_i l hl
      have ho : ∃ c : Call, o.op = .call c ∧ c.callee = .value (.func f) ∧ c.args.toList = args := by
        unfold compI at hc
        split at hc
        · rename_i i hi
          subst hc
          unfold callOf at hi
          split at hi
          · rename_i c ho
            split at hi
            · rename_i g hg
              simp only [Option.some.injEq, SI.call.injEq] at hi
              exact ⟨c, ho, by rw [hg, hi.1], hi.2⟩
            · simp at hi
            · cases hi
          · cases hi
        · split at hc <;> cases hc
      obtain ⟨c, ho, h1, h2⟩ := ho
      obtain ⟨la, g1, g2⟩ := opnds_ev hi hl
      refine callK_T hcon hinv hk g2 fun φ E h' w a hcb hops hrep => ?_
      have hp : Rel φ E h' w a (erE e h) o := fun x y hx hy => evL_rel hrep (by rw [erE_get]; exact hops) hx hy
      refine ⟨args.map a.eval, ?_, evs_ok hp args la (fun x hx => callOps c ho x (by simp [Call.operands, h1, ← h2] at hx ⊢; exact .inr hx)) g1⟩
      unfold execOp; rw [ho]
      have hm : c.args.map a.eval = (args.map a.eval).toArray := by rw [← h2]; apply Array.ext'; simp
      simp [resolve, h1, Act.eval, Deferred.ofValue, invoke, hm, run_callFunc hcb]
    · cases hk
  | callv x args =>
    simp only [topK] at hk
    split at hk
    · rename_i f cap l hx hl
      have ho : ∃ c : Call, o.op = .call c ∧ c.callee = .value x ∧ c.args.toList = args := by
        unfold compI at hc
        split at hc
        · rename_i i hi
          subst hc
          unfold callOf at hi
          split at hi
          · rename_i c ho
            split at hi
            · simp at hi
            · rename_i g hg
              simp only [Option.some.injEq, SI.callv.injEq] at hi
              exact ⟨c, ho, by rw [hg, hi.1], hi.2⟩
            · cases hi
          · cases hi
        · split at hc <;> cases hc
      obtain ⟨c, ho, h1, h2⟩ := ho
      obtain ⟨la, g1, g2⟩ := opnds_ev hi hl
      obtain ⟨yx, g3, g4⟩ := opnd_ev hi hx
      simp only [erV] at g4
      split at g4
      · rename_i lc hlc
        simp only [Option.some.injEq] at g4; subst g4
        refine callK_T hcon hinv hk (erVs_append g2 hlc) fun φ E h' w a hcb hops hrep => ?_
        have hp : Rel φ E h' w a (erE e h) o := fun x y hx hy => evL_rel hrep (by rw [erE_get]; exact hops) hx hy
        have hxv := hp x _ (callOps c ho x (by simp [Call.operands, h1])) g3
        have hlv := evs_ok hp args la (fun x hx => callOps c ho x (by simp [Call.operands, h1, ← h2] at hx ⊢; exact .inr hx)) g1
        generalize hz : a.eval x = z at hxv
        cases hxv with
        | @clo _ _ vs hvl hvr =>
          refine ⟨args.map a.eval ++ vs, ?_, hlv.append (RelL.of hvl hvr)⟩
          unfold execOp; rw [ho]
          have hm : c.args.map a.eval = (args.map a.eval).toArray := by rw [← h2]; apply Array.ext'; simp
          simp [resolve, h1, hz, Deferred.ofValue, invoke, hm, run_callFunc hcb]
      · cases g4
    · cases hk
  | op s =>
    have hc : s = .bad ∨ compOp P o.op = some s := by
      unfold compI at hc
      split at hc
      · rename_i i hi
        subst hc
        unfold callOf at hi
        split at hi
        · split at hi <;> simp at hi
        · cases hi
      · split at hc
        · rename_i q hq
          simp only [SI.op.injEq] at hc; subst hc; exact .inr hq
        · simp only [SI.op.injEq] at hc; exact .inl hc.symm
    rcases hc with rfl | hc
    · simp [topK] at hk
    · exact K_op hinv hi hc hk
end Go.Proofs.YtjjplipoacljoaaDoor.AI
namespace Go.Proofs.YtjjplipoacljoaaDoor.AI
open Go.RowKit

/-- slots that were not assigned hold what they held -/
def Keeps (am : Nat) (e e' : TEnv) : Prop := ∀ k, Nat.testBit am k = false → ∀ v', e'.get k = some v' → ∃ v, e.get k = some v ∧ (idFree v = true → v' = v)
theorem Keeps.refl (am : Nat) (e : TEnv) : Keeps am e e := fun _ _ v' h => ⟨v', h, fun _ => rfl⟩
theorem Keeps.trans {am : Nat} {a b c : TEnv} (h1 : Keeps am a b) (h2 : Keeps am b c) : Keeps am a c := fun k hk v' hv => by
  obtain ⟨v1, g1, g2⟩ := h2 k hk v' hv
  obtain ⟨v, g3, g4⟩ := h1 k hk v1 g1
  refine ⟨v, g3, fun hf => ?_⟩
  have := g4 hf; subst this
  exact g2 hf
theorem Keeps.mono {am am' : Nat} {a b : TEnv} (h : Keeps am a b) (hm : ∀ k, Nat.testBit am k = true → Nat.testBit am' k = true) : Keeps am' a b := fun k hk => h k (by
  cases hx : Nat.testBit am k with
  | false => rfl
  | true => rw [hm k hx] at hk; cases hk)

structure TLay (P : Program) (ops : Array Oper) (rest : List Oper) (sl : List SOper) (am : Nat) (s s' : TS) (fs : List FPm) (l : List (Oper × Eff)) : Prop where
  ops_ : l.map (·.1) = rest
  chain : Chain P ops l (erEF s.e s.h) (erHF s.h) (erEF s'.e s'.h) (erHF s'.h)
  fsl : fs.length = l.length
  sll : sl.length = l.length
  fp : ∀ (j : Nat) o f q, l[j]? = some (o, f) → fs[j]? = some q → (∀ n ∈ f.rd, Nat.testBit q.rd (ow n) = true) ∧ ∀ n ∈ f.wr, Nat.testBit q.wr (ow n) = true
  still : ∀ (j : Nat) o f so, l[j]? = some (o, f) → sl[j]? = some so → so.op.still = true → f.rd = [] ∧ f.wr = []
  names : ∀ (j : Nat) o f, l[j]? = some (o, f) → ∀ n ∈ f.N, s.nx ≤ ow n ∧ ow n < s'.nx
  apart_ : ∀ (i j : Nat) oi fi oj fj, i < j → l[i]? = some (oi, fi) → l[j]? = some (oj, fj) → ∀ n ∈ fi.N, n ∉ fj.N
  grows : s.nx ≤ s'.nx
  invH : InvH s'.h s'.nx
  invE : InvE s'.e s'.h
  keeps : Keeps am s.e s'.e

theorem putT_er {e : TEnv} {h h' : THeap} (hi : InvE e h) (hr : RowsLe h h') (d : Option Nat) {v : TV} {y : AV} (hv : erV h' v = some y) : putE (erEF e h) d y = erEF (putT e d v) h' := by
  funext t
  have old : (e.get t).bind (erV h) = (e.get t).bind (erV h') := by
    cases ht : e.get t with
    | none => rfl
    | some x =>
      obtain ⟨z, hz⟩ := okV_er h x (hi t x ht)
      simp only [Option.bind_some, hz, erV_mono hr x z hz]
  cases d with
  | none => simp only [putE, putT, erEF]; rw [if_neg (by simp)]; exact old
  | some d =>
    simp only [putE, putT, erEF, PT.get_set, Option.some.injEq]
    by_cases hd : d = t
    · subst hd; simp [hv]
    · rw [if_neg hd, if_neg (fun e => hd e.symm)]; exact old
theorem InvE.put {e : TEnv} {h h' : THeap} (hi : InvE e h) (hr : RowsLe h h') (d : Option Nat) {v : TV} (hv : okV h' v = true) : InvE (putT e d v) h' := fun t x hx => by
  cases d with
  | none => exact okV_mono hr x (hi t x hx)
  | some d =>
    simp only [putT, PT.get_set] at hx
    split at hx
    · cases hx; exact hv
    · exact okV_mono hr x (hi t x hx)
theorem erEF_set {e : TEnv} {h : THeap} {t : Nat} {v : TV} (ht : e.get t = some v) : erEF (e.set t (some v)) h = erEF e h := by
  funext k
  simp only [erEF, PT.get_set]
  by_cases hk : k = t
  · subst hk; simp [ht]
  · rw [if_neg hk]
theorem InvE.set {e : TEnv} {h : THeap} {t : Nat} {v : TV} (hi : InvE e h) (ht : e.get t = some v) : InvE (e.set t (some v)) h := fun k x hx => by
  rw [PT.get_set] at hx
  split at hx
  · rename_i hk; subst hk; cases hx; exact hi _ _ ht
  · exact hi k x hx

theorem wantK_some {R : Type} {e : TEnv} {g : Option (Nat × Bool)} {K : Bool → TEnv → Option R} {r : R} (h : wantK e g K = some r) :
    (g = none ∧ K true e = some r) ∨ (∃ t want b, g = some (t, want) ∧ e.get t = some (.f .bool b) ∧ K (b == want) (e.set t (some (.f .bool b))) = some r) ∨ ∃ t want, g = some (t, want) ∧ e.get t = some .undef ∧ K false e = some r := by
  unfold wantK at h
  split at h
  · exact .inl ⟨rfl, h⟩
  · rename_i t want
    split at h
    · rename_i b hb
      refine .inr (.inl ⟨t, want, b, rfl, hb, ?_⟩)
      cases want with
      | true => rcases bcase_some h with ⟨rfl, h⟩ | ⟨rfl, h⟩ <;> exact h
      | false => rcases bcase_some h with ⟨rfl, h⟩ | ⟨rfl, h⟩ <;> exact h
    · rename_i hb; exact .inr (.inr ⟨t, want, rfl, hb, h⟩)
    · cases h

theorem opsK_sound {R : Type} {P : Program} {con : FuncId → Option Con} (hcon : ConOK P con) {tyv : TypeId → Option Ty} {ops : Array Oper} {am : Nat} (ham : ∀ (j : Nat) (o : Oper) (d : Nat), ops[j]? = some o → o.dst = some d → Nat.testBit am d = true) :
    ∀ (rest : List Oper) (sl : List SOper) (s : TS) (fs : List FPm) (K : TS → List FPm → Option R) (r : R), (∀ o ∈ rest, ∃ j : Nat, ops[j]? = some o) → compOps P ops rest = some sl → opsK con tyv sl s fs K = some r → InvH s.h s.nx → InvE s.e s.h → ∃ s' fs' l, K s' (fs.reverse ++ fs') = some r ∧ TLay P ops rest sl am s s' fs' l
  | [], sl, s, fs, K, r, hin, hc, hk, hH, hE => by
    simp only [compOps, Option.some.injEq] at hc; subst hc
    simp only [opsK] at hk
    exact ⟨s, [], [], by simpa using hk, rfl, .nil _ _, rfl, rfl, by simp, by simp, by simp, by simp, Nat.le_refl _, hH, hE, Keeps.refl _ _⟩
  | o :: rest, sl, s, fs, K, r, hin, hc, hk, hH, hE => by
    simp only [compOps] at hc
    split at hc
    · rename_i sl' hsl'
      have hso : ∃ g, sl = ⟨o.dst, compI P o.op, g⟩ :: sl' ∧ ((g = none ∧ o.guard = none) ∨ ∃ j want t, g = some (t, want) ∧ o.guard = some (j, want) ∧ (ops[j]?).bind (·.dst) = some t) := by
        split at hc
        · rename_i hg
          simp only [Option.some.injEq] at hc
          exact ⟨none, hc.symm, .inl ⟨rfl, hg⟩⟩
        · rename_i j want hg
          split at hc
          · rename_i t ht
            simp only [Option.some.injEq] at hc
            exact ⟨some (t, want), hc.symm, .inr ⟨j, want, t, rfl, hg, ht⟩⟩
          · cases hc
      obtain ⟨g, rfl, hg⟩ := hso
      simp only [opsK] at hk
      have hdst : ∀ d, o.dst = some d → Nat.testBit am d = true := fun d hd => by
        obtain ⟨j, hj⟩ := hin o (List.mem_cons_self ..)
        exact ham j o d hj hd
      have hgs : ∀ t want, g = some (t, want) → Nat.testBit am t = true := fun t want hgt => by
        rcases hg with ⟨h1, _⟩ | ⟨j, want', t', h1, _, h3⟩
        · rw [h1] at hgt; cases hgt
        · rw [h1] at hgt; cases hgt
          cases hj : ops[j]? with
          | none => rw [hj] at h3; cases h3
          | some oj => rw [hj] at h3; exact ham j oj t hj h3
      have kput : ∀ (e : TEnv) (v : TV), Keeps am s.e e → Keeps am s.e (putT e o.dst v) := fun e v hke k hk v' hv => by
        cases hd : o.dst with
        | none => rw [hd] at hv; exact hke k hk v' hv
        | some d =>
          rw [hd] at hv
          simp only [putT, PT.get_set] at hv
          split at hv
          · rename_i e2; rw [e2, hdst d hd] at hk; cases hk
          · exact hke k hk v' hv
      -- the step, then the rest
      have done : ∀ (f : Eff) (v : TV) (h' : THeap) (nx' rd wr : Nat) (e : TEnv), erEF e s.h = erEF s.e s.h → InvE e s.h → Keeps am s.e e → StepOK P ops o f (erEF s.e s.h) (erHF s.h) → (∃ y, erV h' v = some y ∧ f.val = y) → updF (erHF s.h) f.wr f.nw = erHF h' → (∀ n ∈ f.rd, Nat.testBit rd (ow n) = true) → (∀ n ∈ f.wr, Nat.testBit wr (ow n) = true) → (∀ n ∈ f.N, s.nx ≤ ow n ∧ ow n < nx') → RowsLe s.h h' → InvH h' nx' → s.nx ≤ nx' → ((compI P o.op).still = true → f.rd = [] ∧ f.wr = []) →
          opsK con tyv sl' ⟨putT e o.dst v, h', nx'⟩ (⟨rd, wr⟩ :: fs) K = some r → ∃ s' fs' l, K s' (fs.reverse ++ fs') = some r ∧ TLay P ops (o :: rest) (⟨o.dst, compI P o.op, g⟩ :: sl') am s s' fs' l := by
        intro f v h' nx' rd wr e hee hiE hke hst hval hheap hrd hwr hN hrows hinv' hgr hstill hrun
        obtain ⟨y, hy1, hy2⟩ := hval
        obtain ⟨s', fs', l, hK, L⟩ := opsK_sound hcon ham rest sl' _ _ K r (fun o' ho' => hin o' (List.mem_cons_of_mem _ ho')) hsl' hrun hinv' (hiE.put hrows o.dst (er_okV _ _ _ hy1))
        have hg2 : nx' ≤ s'.nx := L.grows
        refine ⟨s', ⟨rd, wr⟩ :: fs', (o, f) :: l, by simpa using hK, by simp [L.ops_], .cons hst ?_, by simp [L.fsl], by simp [L.sll], ?_, ?_, ?_, ?_, Nat.le_trans hgr hg2, L.invH, L.invE, (kput e v hke).trans L.keeps⟩
        · have e1 : putE (erEF s.e s.h) o.dst f.val = erEF (putT e o.dst v) h' := by rw [← hee, hy2]; exact putT_er hiE hrows o.dst hy1
          rw [e1, hheap]; exact L.chain
        · intro j o' f' q' h1 h2
          cases j with
          | zero => simp at h1 h2; obtain ⟨rfl, rfl⟩ := h1; subst h2; exact ⟨hrd, hwr⟩
          | succ j => exact L.fp j o' f' q' (by simpa using h1) (by simpa using h2)
        · intro j o' f' so h1 h2 h3
          cases j with
          | zero => simp at h1 h2; obtain ⟨rfl, rfl⟩ := h1; subst h2; exact hstill h3
          | succ j => exact L.still j o' f' so (by simpa using h1) (by simpa using h2) h3
        · intro j o' f' h1 n hn
          cases j with
          | zero =>
            simp at h1; obtain ⟨rfl, rfl⟩ := h1
            have := hN n hn
            exact ⟨this.1, by omega⟩
          | succ j =>
            have := L.names j o' f' (by simpa using h1) n hn
            exact ⟨Nat.le_trans hgr this.1, this.2⟩
        · intro i j oi fi oj fj hij h1 h2 n hn hn'
          cases j with
          | zero => omega
          | succ j =>
            have hj := L.names j oj fj (by simpa using h2) n hn'
            cases i with
            | zero =>
              simp at h1; obtain ⟨rfl, rfl⟩ := h1
              have h3 := (hN n hn).2
              have h4 : nx' ≤ ow n := hj.1
              omega
            | succ i => exact L.apart_ i j oi fi oj fj (by omega) (by simpa using h1) (by simpa using h2) n hn hn'
      have runs : ∀ (e : TEnv), erEF e s.h = erEF s.e s.h → InvE e s.h → Keeps am s.e e → (∀ f, OpT P o (erEF s.e s.h) (erHF s.h) f → StepOK P ops o f (erEF s.e s.h) (erHF s.h)) → topK con tyv (compI P o.op) e s.h s.nx (fun v rd wr h nx => if okV h v then opsK con tyv sl' ⟨putT e o.dst v, h, nx⟩ (⟨rd, wr⟩ :: fs) K else none) = some r → ∃ s' fs' l, K s' (fs.reverse ++ fs') = some r ∧ TLay P ops (o :: rest) (⟨o.dst, compI P o.op, g⟩ :: sl') am s s' fs' l := by
        intro e hee hiE hke hstep hk
        obtain ⟨v, rd, wr, h', nx', hK, T⟩ := topK_T hcon hH hiE rfl hk
        simp only [] at hK
        split at hK
        · rename_i hok
          obtain ⟨f, t1, t2, t3, t4, t5, t6⟩ := T.ex
          rw [hee] at t1
          obtain ⟨y, hy⟩ := okV_er h' v hok
          refine done f v h' nx' rd wr e hee hiE hke (hstep f t1) ⟨y, hy, t2 y hy⟩ t3 t4 t5 t6 T.rows T.inv T.grows (fun hs => ?_) hK
          obtain ⟨r0, w0⟩ := T.st hs
          subst r0; subst w0
          constructor
          · cases hl : f.rd with
            | nil => rfl
            | cons n q => have := t4 n (by rw [hl]; simp); simp at this
          · cases hl : f.wr with
            | nil => rfl
            | cons n q => have := t5 n (by rw [hl]; simp); simp at this
        · cases hK
      have skips : ∀ (e : TEnv), erEF e s.h = erEF s.e s.h → InvE e s.h → Keeps am s.e e → StepOK P ops o skipEff (erEF s.e s.h) (erHF s.h) → opsK con tyv sl' ⟨putT e o.dst .undef, s.h, s.nx⟩ (⟨0, 0⟩ :: fs) K = some r → ∃ s' fs' l, K s' (fs.reverse ++ fs') = some r ∧ TLay P ops (o :: rest) (⟨o.dst, compI P o.op, g⟩ :: sl') am s s' fs' l := by
        intro e hee hiE hke hstep hk
        exact done skipEff .undef s.h s.nx 0 0 e hee hiE hke hstep ⟨_, rfl, rfl⟩ (by funext i; simp [updF, skipEff]) (by simp [skipEff]) (by simp [skipEff]) (by simp [skipEff]) (RowsLe.refl _) hH (Nat.le_refl _) (fun _ => ⟨rfl, rfl⟩) hk
      rcases wantK_some hk with ⟨h1, hk⟩ | ⟨t, want, b, h1, hb, hk⟩ | ⟨t, want, h1, hb, hk⟩
      · refine runs s.e rfl hE (Keeps.refl _ _) (fun f hf => ?_) hk
        rcases hg with ⟨_, hg⟩ | ⟨j, want, t, h2, _, _⟩
        · exact .run hg hf
        · rw [h1] at h2; cases h2
      · rcases hg with ⟨h2, _⟩ | ⟨j, want', t', h2, h3, h4⟩
        · rw [h1] at h2; cases h2
        · rw [h1] at h2; cases h2
          have hgt := hgs t want h1
          have heb : erEF s.e s.h t = some (.f (.raw (.bool b))) := by simp only [erEF, hb, Option.bind_some, erV]; rfl
          have hke : Keeps am s.e (s.e.set t (some (.f .bool b))) := fun k hk v' hv => by
            rw [PT.get_set] at hv
            split at hv
            · rename_i ek; rw [ek, hgt] at hk; cases hk
            · exact ⟨v', hv, fun _ => rfl⟩
          cases hbw : (b == want) with
          | true =>
            rw [hbw] at hk
            have : b = want := by simpa using hbw
            subst this
            exact runs _ (erEF_set hb) (hE.set hb) hke (fun f hf => .runG j t b h3 h4 heb hf) hk
          | false =>
            rw [hbw] at hk
            refine skips _ (erEF_set hb) (hE.set hb) hke (.skip j t want h3 h4 (.bool b) heb ?_ rfl) hk
            intro hv; cases hv; simp at hbw
      · rcases hg with ⟨h2, _⟩ | ⟨j, want', t', h2, h3, h4⟩
        · rw [h1] at h2; cases h2
        · rw [h1] at h2; cases h2
          exact skips _ rfl hE (Keeps.refl _ _) (.skip j t want h3 h4 undef (by simp only [erEF, hb, Option.bind_some, erV]) (by unfold undef; simp) rfl) hk
    · cases hc

theorem nip_ofT {P : Program} {ops : Array Oper} {sl : List SOper} {am : Nat} {s s' : TS} {fs : List FPm} {l : List (Oper × Eff)} {prs : List (Nat × Nat)} (hl : TLay P ops ops.toList sl am s s' fs l) (hp : prsOf ops sl = some prs) (hok : prsOK fs prs = true) : NIP ops l := by
  unfold prsOf at hp
  simp only [] at hp
  split at hp
  · rename_i hall
    simp only [List.all_eq_true, List.mem_range, Bool.and_eq_true] at hall
    simp only [Option.some.injEq] at hp
    have hop : ∀ (j : Nat) o f, l[j]? = some (o, f) → ops[j]? = some o := fun j o f hj => by
      have h1 : (l.map (·.1))[j]? = some o := by rw [List.getElem?_map, hj]; rfl
      rw [hl.ops_] at h1; simpa using h1
    have hsize : ∀ (j : Nat) o, ops[j]? = some o → j < ops.size := fun j o h => (Array.getElem?_eq_some_iff.1 h).1
    have hprs : ∀ i j, (i, j) ∈ prs → ∃ a b, fs[i]? = some a ∧ fs[j]? = some b ∧ disjM a.wr b.rd = true ∧ disjM a.wr b.wr = true ∧ disjM b.wr a.rd = true := by
      clear hp hall
      induction prs with
      | nil => intro i j h; cases h
      | cons p prs ih =>
        obtain ⟨i0, j0⟩ := p
        simp only [prsOK, Bool.and_eq_true, fpAt_eq] at hok
        intro i j hm
        rcases List.mem_cons.1 hm with h | h
        · cases h
          have h1 := hok.1
          split at h1
          · rename_i a b ha hb
            simp only [Bool.and_eq_true] at h1
            exact ⟨a, b, ha, hb, h1.1.1, h1.1.2, h1.2⟩
          · cases h1
        · exact ih hok.2 i j h
    refine ⟨fun j o ho e he hb => ?_, fun i j oi fi oj fj hij hi hj => ?_, hl.apart_⟩
    · have := (hall j (hsize j o ho)).1
      rw [ho] at this
      simp only [Option.all_some, List.all_eq_true] at this
      have := this e (by simpa using he)
      simp [hb] at this; exact this
    · have h1 := hop i oi fi hi
      have h2 := hop j oj fj hj
      have hcase := (hall j (hsize j oj h2)).2 i hij
      rw [h1, h2] at hcase
      simp only [Bool.or_eq_true] at hcase
      by_cases hB : Nat.testBit ((befsGo ops.toList []).getD j 0) i = true
      · left
        rw [List.getD_eq_getElem?_getD] at hB
        cases hx : (befsGo ops.toList [])[j]? with
        | none => rw [hx] at hB; simp at hB
        | some B =>
          rw [hx] at hB
          exact befsGo_ok (ops := ops) ops.toList [] (fun j o hj => by simpa using hj) (fun j B hj => by simp at hj) j B hx i (by simpa using hB)
      · right
        have hap := hcase.resolve_left hB
        refine ⟨hap, ?_⟩
        have hil : i < l.length := (List.getElem?_eq_some_iff.1 hi).1
        have hjl : j < l.length := (List.getElem?_eq_some_iff.1 hj).1
        have hsi := List.getElem?_eq_getElem (show i < sl.length by rw [hl.sll]; exact hil)
        have hsj := List.getElem?_eq_getElem (show j < sl.length by rw [hl.sll]; exact hjl)
        by_cases hst : (sl[i]'(by rw [hl.sll]; exact hil)).op.still = true
        · obtain ⟨q1, q2⟩ := hl.still i oi fi _ hi hsi hst
          rw [q1, q2]
          exact ⟨(fun x hx => by cases hx), (fun x _ hx => by cases hx)⟩
        · by_cases hst2 : (sl[j]'(by rw [hl.sll]; exact hjl)).op.still = true
          · obtain ⟨q1, q2⟩ := hl.still j oj fj _ hj hsj hst2
            rw [q1, q2]
            exact ⟨(fun x hx => ⟨(by simp), (by simp)⟩), (fun x hx => by cases hx)⟩
          · have hmem : (i, j) ∈ prs := by
              rw [← hp, List.mem_flatMap]
              refine ⟨j, List.mem_range.2 (hsize j oj h2), ?_⟩
              rw [List.mem_filterMap]
              refine ⟨i, List.mem_range.2 hij, ?_⟩
              rw [if_neg]
              rw [hsi, hsj]
              simp only [Bool.or_eq_true, not_or]
              exact ⟨hB, hst, hst2⟩
            obtain ⟨a, b, ha, hb, d1, d2, d3⟩ := hprs i j hmem
            obtain ⟨f1, f2⟩ := hl.fp i oi fi a hi ha
            obtain ⟨g1, g2⟩ := hl.fp j oj fj b hj hb
            refine ⟨fun x hx => ⟨fun hx' => ?_, fun hx' => ?_⟩, fun x hx hx' => ?_⟩
            · have := disjM_spec d1 (ow x) (f2 x hx); rw [g1 x hx'] at this; cases this
            · have := disjM_spec d2 (ow x) (f2 x hx); rw [g2 x hx'] at this; cases this
            · have := disjM_spec d3 (ow x) (g2 x hx); rw [f1 x hx'] at this; cases this
  · cases hp

/-- a state of the walk, and the world -/
structure TCfg (P : Program) (E : Nat → Prop) (nt np : Nat) (φ : PM) (s : TS) (a : Act) (w : World) : Prop where
  rep : Rep φ E (erHF s.h) w
  env : EnvOK φ (tot E φ (erHF s.h)) w (erEF s.e s.h) a
  dom : ∀ n k, φ n = some k → ow n < s.nx
  low : np ≤ s.nx
  invH : InvH s.h s.nx
  invE : InvE s.e s.h
  inert : ∀ d ∈ a.defers, Inert P d
  size : a.tmps.size = nt
/-- what may have changed -/
structure Stp (np : Nat) (φ φ' : PM) (H H' : HF) (w w' : World) : Prop where
  ext : Ext (own φ H) w w'
  own_ : ∀ k, k < w.heap.size → own φ' H' k → own φ H k
  par : ∀ i, i < np → φ' (nm i) = φ (nm i)
theorem Stp.refl (np : Nat) (φ : PM) (H : HF) (w : World) : Stp np φ φ H H w w := ⟨Ext.refl _ _, fun _ _ h => h, fun _ _ => rfl⟩
theorem Stp.trans {np : Nat} {φ φ' φ'' : PM} {H H' H'' : HF} {w w' w'' : World} (a : Stp np φ φ' H H' w w') (b : Stp np φ' φ'' H' H'' w' w'') : Stp np φ φ'' H H'' w w'' where
  ext := ⟨b.ext.os.trans a.ext.os, b.ext.tape.trans a.ext.tape, b.ext.output.trans a.ext.output, Nat.le_trans a.ext.size b.ext.size,
    fun k hk ho => (b.ext.blk k (Nat.lt_of_lt_of_le hk a.ext.size) (fun h => ho (a.own_ k hk h))).trans (a.ext.blk k hk ho),
    fun k hk => (b.ext.shp k (Nat.lt_of_lt_of_le hk a.ext.size)).trans (a.ext.shp k hk)⟩
  own_ := fun k hk h => a.own_ k hk (b.own_ k (Nat.lt_of_lt_of_le hk a.ext.size) h)
  par := fun i hi => (b.par i hi).trans (a.par i hi)

theorem region_T {R : Type} {P : Program} {E : Nat → Prop} {nt np : Nat} {φ : PM} {s : TS} {a : Act} {w : World} {con : FuncId → Option Con} {tyv : TypeId → Option Ty} (hm : P.follows .mixedOrders = true) (hcon : ConOK P con) (c : TCfg P E nt np φ s a w) {id : Nat} {ops : Array Oper} {draw : Bool} {sl : List SOper} {prs : List (Nat × Nat)} {am : Nat} (ham : ∀ (j : Nat) (o : Oper) (d : Nat), ops[j]? = some o → o.dst = some d → Nat.testBit am d = true)
    (hd : (ops.toList.all fun o => match o.dst with | some d => decide (d < nt) | none => true) = true) (hc : compOps P ops ops.toList = some sl) (hp : prsOf ops sl = some prs) {K : TS → Option R} {r : R} (hr : opsK con tyv sl s [] (fun s' fs => if prsOK fs prs then K s' else none) = some r) {Q : Exit → Act → World → Prop}
    (hQ : ∀ a' w' s' φ', K s' = some r → TCfg P E nt np φ' s' a' w' → Stp np φ φ' (erHF s.h) (erHF s'.h) w w' → Keeps am s.e s'.e → Q .normal a' w') : (Code.region id ops draw).wp P Q a w := by
  obtain ⟨s', fs', l, hK, L⟩ := opsK_sound hcon ham ops.toList sl s [] _ r (fun o ho => by
    obtain ⟨j, hj⟩ := List.getElem?_of_mem ho
    exact ⟨j, by simpa using hj⟩) hc hr c.invH c.invE
  have hK : (if prsOK fs' prs then K s' else none) = some r := hK
  by_cases hok : prsOK fs' prs = true
  · rw [if_pos hok] at hK
    refine region_rule (φ0 := φ) (E := E) hm L.ops_ L.chain (nip_ofT L hp hok) ?_ ?_ c.rep c.env ?_
    · intro n hn
      obtain ⟨p, hp', hn⟩ := List.mem_flatMap.1 hn
      obtain ⟨j, hj⟩ := List.getElem?_of_mem hp'
      have := L.names j p.1 p.2 hj n hn
      cases hx : φ n with
      | none => rfl
      | some k => have := c.dom n k hx; omega
    · intro j o ho d hd'
      have := List.all_eq_true.1 hd o (by have := Array.mem_of_getElem? ho; simpa using this)
      rw [hd'] at this
      rw [c.size]; simpa using this
    · rintro a' w' ⟨φ', m', d', r', en', df', sz'⟩
      have hnm : ∀ n k, φ' n = some k → φ n = some k ∨ (s.nx ≤ ow n ∧ ow n < s'.nx) := fun n k hik => by
        rcases d' n k hik with h | h
        · exact .inl h
        · obtain ⟨p, hp', hn⟩ := List.mem_flatMap.1 h
          obtain ⟨j, hj⟩ := List.getElem?_of_mem hp'
          exact .inr (L.names j p.1 p.2 hj n hn)
      have hg := L.grows
      have hlow := c.low
      refine hQ a' w' s' φ' hK ⟨r', en', fun n k hik => ?_, by omega, L.invH, L.invE, by rw [df']; exact c.inert, by rw [sz']; exact c.size⟩ ⟨m'.ext, m'.own_, fun i hi => ?_⟩ L.keeps
      · rcases hnm n k hik with h | h
        · have := c.dom n k h; omega
        · exact h.2
      · cases hx : φ (nm i) with
        | some k => exact m'.sub _ _ hx
        | none =>
          cases hy : φ' (nm i) with
          | none => rfl
          | some k =>
            rcases hnm (nm i) k hy with h | h
            · rw [hx] at h; cases h
            · rw [ow_nm] at h; omega
  · rw [if_neg hok] at hK; cases hK
end Go.Proofs.YtjjplipoacljoaaDoor.AI
namespace Go.Proofs.YtjjplipoacljoaaDoor.AI
open Go.RowKit

/-! assigned slots -/
theorem asgO_acc : ∀ (l : List SOper) (acc : Nat), asgO l acc = acc ||| asgO l 0
  | [], acc => by simp [asgO]
  | o :: r, acc => by
    simp only [asgO]
    cases o.dst with
    | none => exact asgO_acc r acc
    | some d => simp only []; rw [asgO_acc r (acc ||| bit d), asgO_acc r (0 ||| bit d), Nat.zero_or, Nat.or_assoc]
theorem ksB_acc : ∀ (l : List Nat) (acc : Nat), ksB l acc = acc ||| ksB l 0
  | [], acc => by simp [ksB]
  | k :: r, acc => by simp only [ksB]; rw [ksB_acc r (acc ||| bit k), ksB_acc r (0 ||| bit k), Nat.zero_or, Nat.or_assoc]
theorem adjB_acc : ∀ (l : List Adj) (acc : Nat), adjB l acc = acc ||| adjB l 0
  | [], acc => by simp [adjB]
  | .nil k _ _ :: r, acc => by simp only [adjB]; rw [adjB_acc r (acc ||| bit k), adjB_acc r (0 ||| bit k), Nat.zero_or, Nat.or_assoc]
  | .cel _ _ _ _ :: r, acc => by simp only [adjB]; exact adjB_acc r acc
  | .mpt _ _ _ :: r, acc => by simp only [adjB]; exact adjB_acc r acc
theorem asg_acc : ∀ (c : TC) (acc : Nat), c.asg acc = acc ||| c.asg 0
  | .reg ops _, acc => asgO_acc ops acc
  | .seq a b, acc => by simp only [TC.asg]; rw [asg_acc b (a.asg acc), asg_acc b (a.asg 0), asg_acc a acc, Nat.or_assoc]
  | .jseq A a b, acc => by simp only [TC.asg]; rw [asg_acc b (a.asg _), asg_acc b (a.asg (ksB A.ks 0)), asg_acc a (ksB A.ks acc), asg_acc a (ksB A.ks 0), ksB_acc A.ks acc, Nat.or_assoc, Nat.or_assoc, Nat.or_assoc]
  | .cond _ a b, acc => by simp only [TC.asg]; rw [asg_acc b (a.asg acc), asg_acc b (a.asg 0), asg_acc a acc, Nat.or_assoc]
  | .block _ b, acc => asg_acc b acc
  | .jblock A _ b, acc => by simp only [TC.asg]; rw [asg_acc b (ksB A.ks acc), asg_acc b (ksB A.ks 0), ksB_acc A.ks acc, Nat.or_assoc]
  | .loop A b, acc => by simp only [TC.asg]; rw [asg_acc b (ksB A.ks acc), asg_acc b (ksB A.ks 0), ksB_acc A.ks acc, Nat.or_assoc]
  | .defer _ _ t, acc => by simp [TC.asg]
  | .adj l c, acc => by simp only [TC.asg]; rw [asg_acc c (adjB l acc), asg_acc c (adjB l 0), adjB_acc l acc, Nat.or_assoc]
  | .skip, acc => by simp [TC.asg]
  | .exit _, acc => by simp [TC.asg]
  | .ret, acc => by simp [TC.asg]
  | .bad, acc => by simp [TC.asg]
theorem asg_sub {c : TC} {acc k : Nat} (h : Nat.testBit (c.asg 0) k = true) : Nat.testBit (c.asg acc) k = true := by rw [asg_acc, Nat.testBit_or, h]; simp
theorem asg_acc_sub {c : TC} {acc k : Nat} (h : Nat.testBit acc k = true) : Nat.testBit (c.asg acc) k = true := by rw [asg_acc, Nat.testBit_or, h]; rfl
theorem ksB_mem : ∀ {l : List Nat} {acc k : Nat}, k ∈ l → Nat.testBit (ksB l acc) k = true
  | [], _, _, h => by cases h
  | x :: r, acc, k, h => by
    simp only [ksB]
    rcases List.mem_cons.1 h with rfl | h
    · rw [ksB_acc, Nat.testBit_or, Nat.testBit_or, testBit_bit.2 rfl]; simp
    · exact ksB_mem h
theorem asgO_mem : ∀ {l : List SOper} {acc : Nat} {o : SOper} {d : Nat}, o ∈ l → o.dst = some d → Nat.testBit (asgO l acc) d = true
  | [], _, _, _, h, _ => by cases h
  | x :: r, acc, o, d, h, hd => by
    simp only [asgO]
    rcases List.mem_cons.1 h with rfl | h
    · rw [hd]; simp only []; rw [asgO_acc, Nat.testBit_or, Nat.testBit_or, testBit_bit.2 rfl]; simp
    · exact asgO_mem h hd

/-! slots -/
theorem gets_ok : ∀ {e : TEnv} {ks : List Nat} {vs : List TV}, gets e ks = some vs → vs.length = ks.length ∧ ∀ (j k : Nat), ks[j]? = some k → ∃ v, vs[j]? = some v ∧ e.get k = some v
  | e, [], vs, h => by simp only [gets, Option.some.injEq] at h; subst h; exact ⟨rfl, by simp⟩
  | e, k :: r, vs, h => by
    simp only [gets] at h
    split at h
    · rename_i v hv
      split at h
      · rename_i l hl
        simp only [Option.some.injEq] at h; subst h
        obtain ⟨h1, h2⟩ := gets_ok hl
        refine ⟨by simp [h1], fun j k' hj => ?_⟩
        cases j with
        | zero => simp at hj; subst hj; exact ⟨v, rfl, hv⟩
        | succ j => simpa using h2 j k' (by simpa using hj)
      · cases h
    · cases h
theorem okVs_slots {e : TEnv} {h : THeap} (hi : InvE e h) : ∀ {ks : List Nat} {vs : List TV}, gets e ks = some vs → okVs h vs = true
  | [], vs, hg => by simp only [gets, Option.some.injEq] at hg; subst hg; rfl
  | k :: r, vs, hg => by
    simp only [gets] at hg
    split at hg
    · rename_i v hv
      split at hg
      · rename_i l hl
        simp only [Option.some.injEq] at hg; subst hg
        simp only [okVs, Bool.and_eq_true]
        exact ⟨hi k v hv, okVs_slots hi hl⟩
      · cases hg
    · cases hg
theorem sets_get : ∀ {e : TEnv} {ks : List Nat} {vs : List TV}, vs.length = ks.length → ∀ t v, (sets e ks vs).get t = some v → (∃ j : Nat, ks[j]? = some t ∧ vs[j]? = some v) ∨ (t ∉ ks ∧ e.get t = some v)
  | e, [], [], _, t, v, h => .inr ⟨by simp, h⟩
  | e, [], _ :: _, hl, t, v, h => by simp at hl
  | e, _ :: _, [], hl, t, v, h => by simp at hl
  | e, k :: r, u :: l, hl, t, v, h => by
    simp only [sets, PT.get_set] at h
    split at h
    · rename_i ek; subst ek; cases h; exact .inl ⟨0, rfl, rfl⟩
    · rename_i ek
      rcases sets_get (by simpa using hl) t v h with ⟨j, h1, h2⟩ | ⟨h1, h2⟩
      · exact .inl ⟨j + 1, by simpa using h1, by simpa using h2⟩
      · exact .inr ⟨by simp [ek, h1], h2⟩
theorem keepE_get {am : Nat} {e : TEnv} : ∀ {ks : List Nat} {k : Nat} {v : TV}, (keepE am e ks).get k = some v → k ∈ ks ∧ e.get k = some v ∧ idFree v = true ∧ Nat.testBit am k = false
  | [], k, v, h => by simp [keepE, PT.get] at h
  | x :: r, k, v, h => by
    simp only [keepE] at h
    split at h
    · rename_i u hu
      split at h
      · rename_i hc
        simp only [Bool.and_eq_true, Bool.not_eq_true'] at hc
        rw [PT.get_set] at h
        split at h
        · rename_i ek; subst ek; cases h; exact ⟨by simp, hu, hc.1, hc.2⟩
        · obtain ⟨h1, h2⟩ := keepE_get h; exact ⟨by simp [h1], h2⟩
      · obtain ⟨h1, h2⟩ := keepE_get h; exact ⟨by simp [h1], h2⟩
    · obtain ⟨h1, h2⟩ := keepE_get h; exact ⟨by simp [h1], h2⟩
theorem keepE_has {am : Nat} {e : TEnv} : ∀ {ks : List Nat} {k : Nat} {v : TV}, k ∈ ks → e.get k = some v → idFree v = true → Nat.testBit am k = false → (keepE am e ks).get k = some v
  | [], k, v, h, _, _, _ => by cases h
  | x :: r, k, v, h, hv, hf, ha => by
    simp only [keepE]
    by_cases e2 : x = k
    · subst e2
      rw [hv]; simp only [hf, ha, Bool.not_false, Bool.and_self, if_true, PT.get_set]
    · have hr : k ∈ r := by rcases List.mem_cons.1 h with h | h; exact absurd h.symm e2; exact h
      have ih := keepE_has hr hv hf ha
      cases hx : e.get x with
      | none => exact ih
      | some u =>
        simp only []
        split
        · rw [PT.get_set, if_neg (fun e => e2 e.symm)]; exact ih
        · exact ih
theorem keepChk_ok {am : Nat} {e0 e : TEnv} : ∀ {ks : List Nat}, keepChk am e0 e ks = true → ∀ k v, k ∈ ks → e0.get k = some v → idFree v = true → Nat.testBit am k = false → ∃ v', e.get k = some v'
  | [], _, k, v, h, _, _, _ => by cases h
  | x :: r, hc, k, v, h, hv, hf, ha => by
    simp only [keepChk, Bool.and_eq_true] at hc
    rcases List.mem_cons.1 h with rfl | h
    · have h1 := hc.1
      rw [hv] at h1
      simp only [hf, ha, Bool.not_true, Bool.false_or] at h1
      cases hx : e.get k with
      | none => rw [hx] at h1; cases h1
      | some u => exact ⟨u, rfl⟩
    · exact keepChk_ok hc.2 k v h hv hf ha

section walk
variable {P : Program} {E : Nat → Prop} {nt np : Nat}

theorem erV_isNl {h : THeap} {v : TV} {y : AV} (hn : isNl v = true) (hy : erV h v = some y) : Le y .emp := by
  cases v with
  | nil => simp only [erV, Option.some.injEq] at hy; subst hy; exact Le.nilEmp
  | emp => simp only [erV, Option.some.injEq] at hy; subst hy; exact Le.refl _
  | _ => cases hn
theorem adj_row {φ : PM} {s : TS} {a : Act} {w : World} (c : TCfg P E nt np φ s a w) (ty : TypeId) (T : Ty) : TCfg P E nt np φ ⟨s.e, s.h.set s.nx (some (.rows ty true T [])), s.nx + 1⟩ a w ∧ erHF (s.h.set s.nx (some (.rows ty true T []))) = erHF s.h ∧ RowsLe s.h (s.h.set s.nx (some (.rows ty true T []))) := by
  have hfr := c.invH.fresh
  have hr : RowsLe s.h (s.h.set s.nx (some (.rows ty true T []))) := RowsLe.set fun r hr => by rw [rowOf_eq, hfr] at hr; cases hr
  have hH : erHF (s.h.set s.nx (some (.rows ty true T []))) = erHF s.h := by
    funext n
    by_cases hn : n = nm s.nx
    · subst hn; rw [erHF_nm, erHF_nm, PT.get_set, if_pos rfl, hfr]; rfl
    · refine erHF_eq c.invH hr fun i e => ?_
      subst e
      rw [PT.get_set, if_neg (fun e => hn (by rw [e]))]
  refine ⟨⟨by rw [hH]; exact c.rep, ?_, fun n k hk => Nat.lt_succ_of_lt (c.dom n k hk), Nat.le_succ_of_le c.low, c.invH.set hr (Nat.lt_succ_self _) (Nat.le_succ _) (fun _ _ he => by cases he), ?_, c.inert, c.size⟩, hH, hr⟩
  · intro t x hx
    rw [hH]
    simp only [erEF] at hx
    cases he : s.e.get t with
    | none => rw [he] at hx; cases hx
    | some q =>
      rw [he] at hx
      obtain ⟨z, hz⟩ := okV_er s.h q (c.invE t q he)
      simp only [Option.bind_some, erV_mono hr q z hz, Option.some.injEq] at hx
      subst hx
      exact c.env t _ (by simp only [erEF, he, Option.bind_some, hz])
  · intro t x hx
    exact okV_mono hr x (c.invE t x hx)
theorem okVs_append {h : THeap} : ∀ {a b : List TV}, okVs h a = true → okVs h b = true → okVs h (a ++ b) = true
  | [], _, _, hb => hb
  | x :: r, b, ha, hb => by
    simp only [okVs, Bool.and_eq_true] at ha
    simp only [List.cons_append, okVs, Bool.and_eq_true]
    exact ⟨ha.1, okVs_append ha.2 hb⟩
theorem okVs_take {h : THeap} : ∀ {a : List TV} (n : Nat), okVs h a = true → okVs h (a.take n) = true
  | [], n, _ => by simp [okVs]
  | x :: r, 0, _ => rfl
  | x :: r, n + 1, ha => by
    simp only [okVs, Bool.and_eq_true] at ha
    simp only [List.take_succ_cons, okVs, Bool.and_eq_true]
    exact ⟨ha.1, okVs_take n ha.2⟩
theorem okVs_drop {h : THeap} : ∀ {a : List TV} (n : Nat), okVs h a = true → okVs h (a.drop n) = true
  | [], n, _ => by simp [okVs]
  | x :: r, 0, ha => ha
  | x :: r, n + 1, ha => by
    simp only [okVs, Bool.and_eq_true] at ha
    simp only [List.drop_succ_cons]
    exact okVs_drop n ha.2
theorem splice_self {α : Type} {l : List α} {j : Nat} {x : α} (h : l[j]? = some x) : splice l j [x] = l := by
  have hl : j < l.length := by
    rcases Nat.lt_or_ge j l.length with h' | h'
    · exact h'
    · rw [List.getElem?_eq_none h'] at h; cases h
  rw [List.getElem?_eq_getElem hl, Option.some.injEq] at h
  unfold splice
  subst h
  simp
/-- a cell of a block seen as an empty row -/
theorem adj_cell {φ : PM} {s : TS} {a : Act} {w : World} (c : TCfg P E nt np φ s a w) {id cty j : Nat} {l : List TV} {v u : TV} (hb : s.h.get id = some (.cells cty l)) (hv : l[j]? = some v) (hn : isNl v = true) (hu : erV s.h u = some .emp) (huo : okV s.h u = true) :
    TCfg P E nt np φ ⟨s.e, s.h.set id (some (.cells cty (splice l j [u]))), s.nx⟩ a w ∧ Stp np φ φ (erHF s.h) (erHF (s.h.set id (some (.cells cty (splice l j [u]))))) w w := by
  have hr : RowsLe s.h (s.h.set id (some (.cells cty (splice l j [u])))) := RowsLe.set fun r hr => by rw [rowOf_eq, hb] at hr; cases hr
  have hlo := c.invH.cells id cty l hb
  obtain ⟨l', hl'⟩ := okVs_er s.h l hlo
  have hsp : erVs s.h (splice l j [u]) = some (splice l' j [.emp]) := erVs_splice j hl' (by simp only [erVs, hu])
  have hsp' : erVs (s.h.set id (some (.cells cty (splice l j [u])))) (splice l j [u]) = some (splice l' j [.emp]) := erVs_mono hr _ _ hsp
  obtain ⟨y, hy, hey⟩ := erVs_get hl' j v hv
  have hold : erHF s.h (nm id) = some ⟨cty, .mx l'⟩ := by rw [erHF_nm, hb]; simp only [Option.bind_some, erB, hl']
  have hnew : erHF (s.h.set id (some (.cells cty (splice l j [u])))) (nm id) = some ⟨cty, .mx (splice l' j [.emp])⟩ := by
    rw [erHF_nm, PT.get_set, if_pos rfl]; simp only [Option.bind_some, erB, hsp']
  have hoth : ∀ n, n ≠ nm id → erHF (s.h.set id (some (.cells cty (splice l j [u])))) n = erHF s.h n := fun n hn' => by
    refine erHF_eq c.invH hr fun i e => ?_
    subst e
    rw [PT.get_set, if_neg (fun e => hn' (by rw [e]))]
  have hdom : Dom (erHF s.h) (erHF (s.h.set id (some (.cells cty (splice l j [u]))))) := fun n b hb' => by
    by_cases e : n = nm id
    · subst e; exact ⟨_, hold⟩
    · rw [hoth n e] at hb'; exact ⟨b, hb'⟩
  have hcell : ∀ x ∈ l', x.isCell = true := fun x hx => by
    obtain ⟨k, hk⟩ := List.getElem?_of_mem hx
    obtain ⟨q, _, _, hat⟩ := c.rep.at_ _ _ hold
    unfold BlkAt at hat
    obtain ⟨ob, _, hob⟩ := hat
    rw [objAt_cells rfl] at hob
    obtain ⟨arr, _, hca⟩ := hob
    exact (hca.2 k x hk).1
  have hV : View (erHF s.h) (erHF (s.h.set id (some (.cells cty (splice l j [u]))))) := ⟨hdom, fun n b b' h1 h2 => by
    by_cases e : n = nm id
    · subst e
      rw [hold] at h1; cases h1
      rw [hnew] at h2; cases h2
      refine BLeH.cells rfl rfl ?_ fun x hx => ?_
      · show LeHL _ _ l' (splice l' j [.emp])
        have := LeHL.splice j (LeHL.refl hdom l') (b := [y]) (b' := [.emp]) ⟨(erV_isNl hn hey).toH hdom, trivial⟩
        rw [splice_self hy] at this
        exact this
      · have hx : x ∈ splice l' j [.emp] := hx
        unfold splice at hx
        rw [List.mem_append, List.mem_append, List.mem_singleton] at hx
        rcases hx with (hx | hx) | hx
        · exact hcell x (List.mem_of_mem_take hx)
        · subst hx; rfl
        · exact hcell x (List.mem_of_mem_drop hx)
    · rw [hoth n e, h1] at h2; cases h2; exact BLeH.refl hdom b⟩
  refine ⟨⟨hV.rep c.rep, ?_, c.dom, c.low, c.invH.set hr (c.invH.low id _ hb) (Nat.le_refl _) (fun ty l2 he => ?_), ?_, c.inert, c.size⟩, ⟨Ext.refl _ _, fun k _ ho => hdom.own ho, fun _ _ => rfl⟩⟩
  · intro t x hx
    simp only [erEF] at hx
    cases he : s.e.get t with
    | none => rw [he] at hx; cases hx
    | some q =>
      rw [he] at hx
      obtain ⟨z, hz⟩ := okV_er s.h q (c.invE t q he)
      simp only [Option.bind_some, erV_mono hr q z hz, Option.some.injEq] at hx
      subst hx
      exact (c.env t _ (by simp only [erEF, he, Option.bind_some, hz])).dom hdom
  · simp only [TBlk.cells.injEq] at he
    obtain ⟨_, rfl⟩ := he
    refine okVs_mono hr _ ?_
    unfold splice
    exact okVs_append (okVs_append (okVs_take _ hlo) (by simp only [okVs, huo, Bool.and_self])) (okVs_drop _ hlo)
  · intro t x hx
    exact okV_mono hr x (c.invE t x hx)
theorem adj1_T {φ : PM} {s : TS} {a : Act} {w : World} (c : TCfg P E nt np φ s a w) {ad : Adj} {s' : TS} (h : adj1 s ad = some s') : TCfg P E nt np φ s' a w ∧ Stp np φ φ (erHF s.h) (erHF s'.h) w w ∧ Keeps (adjB [ad] 0) s.e s'.e := by
  cases ad with
  | nil k ty T =>
    simp only [adj1] at h
    split at h
    · rename_i v hv
      split at h
      · rename_i hn
        simp only [Option.some.injEq] at h; subst h
        obtain ⟨c1, hH, hr⟩ := adj_row c ty T
        refine ⟨⟨c1.rep, ?_, c1.dom, c1.low, c1.invH, ?_, c1.inert, c1.size⟩, by rw [hH]; exact Stp.refl _ _ _ _, ?_⟩
        · intro t x hx
          simp only [erEF, PT.get_set] at hx
          split at hx
          · rename_i et; subst et
            simp only [Option.bind_some, erV, rowOf_eq, PT.get_set, if_true, rowB, rowAV, List.length_nil, beq_self_eq_true, Bool.and_self, Option.some.injEq] at hx
            subst hx
            obtain ⟨z, hz⟩ := okV_er s.h v (c.invE _ v hv)
            rw [hH]
            exact erV_isNl hn hz _ _ _ _ (c.env _ _ (by simp only [erEF, hv, Option.bind_some, hz]))
          · exact c1.env t x hx
        · intro t x hx
          simp only [PT.get_set] at hx
          split at hx
          · cases hx; simp only [okV, rowOf_eq, PT.get_set, if_true]; rfl
          · exact c1.invE t x hx
        · intro t ht v' hv'
          simp only [PT.get_set] at hv'
          split at hv'
          · rename_i et; subst et
            simp only [adjB] at ht
            rw [Nat.testBit_or, testBit_bit.2 rfl] at ht; simp at ht
          · exact ⟨v', hv', fun _ => rfl⟩
      · simp only [Option.some.injEq] at h; subst h
        exact ⟨c, Stp.refl _ _ _ _, Keeps.refl _ _⟩
    · cases h
  | cel k off ty T =>
    simp only [adj1] at h
    split at h
    · rename_i id o hk
      split at h
      · rename_i cty l hb
        split at h
        · rename_i v hv
          split at h
          · rename_i hn
            simp only [Option.some.injEq] at h; subst h
            obtain ⟨c1, hH, hr⟩ := adj_row c ty T
            have hid : id ≠ s.nx := fun e => by have := c.invH.low id _ hb; omega
            obtain ⟨c2, t2⟩ := adj_cell c1 (id := id) (cty := cty) (l := l) (v := v) (u := .row s.nx) (by show (s.h.set s.nx _).get id = _; rw [PT.get_set, if_neg hid]; exact hb) hv hn (by simp only [erV, rowOf_eq, PT.get_set, if_true, Option.bind_some, rowB, rowAV, List.length_nil, beq_self_eq_true, Bool.and_self]) (by simp only [okV, rowOf_eq, PT.get_set, if_true]; rfl)
            exact ⟨c2, by rw [← hH]; exact t2, Keeps.refl _ _⟩
          · simp only [Option.some.injEq] at h; subst h
            exact ⟨c, Stp.refl _ _ _ _, Keeps.refl _ _⟩
        · cases h
      · cases h
    · cases h
  | mpt k K V =>
    simp only [adj1] at h
    split at h
    · rename_i id hk
      split at h
      · rename_i K' V' es hb
        split at h
        · rename_i hE
          simp only [Option.some.injEq] at h; subst h
          have hr : RowsLe s.h (s.h.set id (some (.mp K V []))) := RowsLe.set fun r hr => by rw [rowOf_eq, hb] at hr; cases hr
          have hH : erHF (s.h.set id (some (.mp K V []))) = erHF s.h := by
            funext n
            by_cases hn : n = nm id
            · subst hn; rw [erHF_nm, erHF_nm, PT.get_set, if_pos rfl, hb]
              simp only [Option.bind_some, erB, mpE_ok hE, List.map_nil]
            · refine erHF_eq c.invH hr fun i e => ?_
              subst e
              rw [PT.get_set, if_neg (fun e => hn (by rw [e]))]
          refine ⟨⟨by rw [hH]; exact c.rep, ?_, c.dom, c.low, c.invH.set hr (c.invH.low id _ hb) (Nat.le_refl _) (fun _ _ he => by cases he), fun t x hx => okV_mono hr x (c.invE t x hx), c.inert, c.size⟩, by rw [hH]; exact Stp.refl _ _ _ _, Keeps.refl _ _⟩
          intro t x hx
          rw [hH]
          simp only [erEF] at hx
          cases he : s.e.get t with
          | none => rw [he] at hx; cases hx
          | some q =>
            rw [he] at hx
            obtain ⟨z, hz⟩ := okV_er s.h q (c.invE t q he)
            simp only [Option.bind_some, erV_mono hr q z hz, Option.some.injEq] at hx
            subst hx
            exact c.env t _ (by simp only [erEF, he, Option.bind_some, hz])
        · simp only [Option.some.injEq] at h; subst h
          exact ⟨c, Stp.refl _ _ _ _, Keeps.refl _ _⟩
      · cases h
    · cases h
theorem adjs_T {φ : PM} {a : Act} {w : World} : ∀ {l : List Adj} {s s' : TS}, TCfg P E nt np φ s a w → adjs s l = some s' → TCfg P E nt np φ s' a w ∧ Stp np φ φ (erHF s.h) (erHF s'.h) w w ∧ Keeps (adjB l 0) s.e s'.e
  | [], s, s', c, h => by simp only [adjs, Option.some.injEq] at h; subst h; exact ⟨c, Stp.refl _ _ _ _, Keeps.refl _ _⟩
  | ad :: r, s, s', c, h => by
    simp only [adjs] at h
    split at h
    · rename_i s1 h1
      obtain ⟨c1, t1, k1⟩ := adj1_T c h1
      obtain ⟨c2, t2, k2⟩ := adjs_T c1 h
      refine ⟨c2, t1.trans t2, (k1.mono ?_).trans (k2.mono ?_)⟩
      · intro k hk
        cases ad with
        | nil q ty T => simp only [adjB] at hk ⊢; rw [adjB_acc, Nat.testBit_or, hk]; rfl
        | cel q off ty T => simp [adjB] at hk
        | mpt q K V => simp [adjB] at hk
      · intro k hk
        cases ad with
        | nil q ty T => simp only [adjB]; rw [adjB_acc, Nat.testBit_or, hk]; simp
        | cel q off ty T => simp only [adjB]; exact hk
        | mpt q K V => simp only [adjB]; exact hk
    · cases h

mutual
theorem free_all {h : THeap} : ∀ (v : TV) (y : AV), idFree v = true → erV h v = some y → y.all (fun _ => false) = true
  | .f _ _, y, _, he => by simp only [erV, Option.some.injEq] at he; subst he; rfl
  | .fel _ _ _ _ _, y, _, he => by simp only [erV, Option.some.injEq] at he; subst he; rfl
  | .emp, y, _, he => by simp only [erV, Option.some.injEq] at he; subst he; rfl
  | .nil, y, _, he => by simp only [erV, Option.some.injEq] at he; subst he; rfl
  | .undef, y, _, he => by simp only [erV, Option.some.injEq] at he; subst he; rfl
  | .anyb, y, _, he => by simp only [erV, Option.some.injEq] at he; subst he; rfl
  | .agg l, y, hl, he => by
    simp only [erV] at he
    split at he
    · rename_i l' hl'; simp only [Option.some.injEq] at he; subst he; exact frees_all l l' hl hl'
    · cases he
  | .tup l, y, hl, he => by
    simp only [erV] at he
    split at he
    · rename_i l' hl'; simp only [Option.some.injEq] at he; subst he; exact frees_all l l' hl hl'
    · cases he
  | .pel _ _ _ _, _, h, _ => by cases h
  | .ptr _ _, _, h, _ => by cases h
  | .row _, _, h, _ => by cases h
  | .mp _, _, h, _ => by cases h
  | .clo _ _, _, h, _ => by cases h
theorem frees_all {h : THeap} : ∀ (l : List TV) (l' : List AV), idFrees l = true → erVs h l = some l' → AV.allL (fun _ => false) l' = true
  | [], l', _, he => by simp only [erVs, Option.some.injEq] at he; subst he; rfl
  | x :: r, l', hl, he => by
    obtain ⟨y, l2, rfl, e1, e2⟩ := erVs_cons he
    simp only [idFrees, Bool.and_eq_true] at hl
    simp only [AV.allL, Bool.and_eq_true]
    exact ⟨free_all x y hl.1 e1, frees_all r l2 hl.2 e2⟩
end
mutual
theorem free_ok (h : THeap) : ∀ (v : TV), idFree v = true → okV h v = true
  | .f _ _, _ => rfl
  | .fel _ _ _ _ _, _ => rfl
  | .emp, _ => rfl
  | .nil, _ => rfl
  | .undef, _ => rfl
  | .anyb, _ => rfl
  | .agg l, hl => frees_ok h l hl
  | .tup l, hl => frees_ok h l hl
  | .pel _ _ _ _, h => by cases h
  | .ptr _ _, h => by cases h
  | .row _, h => by cases h
  | .mp _, h => by cases h
  | .clo _ _, h => by cases h
theorem frees_ok (h : THeap) : ∀ (l : List TV), idFrees l = true → okVs h l = true
  | [], _ => rfl
  | x :: r, hl => by
    simp only [idFrees, Bool.and_eq_true] at hl
    simp only [okVs, Bool.and_eq_true]
    exact ⟨free_ok h x hl.1, frees_ok h r hl.2⟩
end

/-- the state seen through a pattern, under the pattern's own names -/
structure Seen (np : Nat) (t : Tm) (x : t.ty.den) (us : List TV) (h1 : THeap) (φ φ' : PM) (H : HF) (E : Nat → Prop) (w : World) (la lu : List AV) : Prop where
  rep : Rep φ' E (erHF h1) w
  val : ∀ (j : Nat) y v, lu[j]? = some y → ∃ z, la[j]? = some z ∧ (RelV φ (tot E φ H) w z v → RelV φ' (tot E φ' (erHF h1)) w y v)
  len : lu.length = la.length
  tot_ : ∀ k, tot E φ' (erHF h1) k → tot E φ H k
  own_ : ∀ k, own φ' (erHF h1) k → own φ H k
  dom : ∀ n k, φ' n = some k → ow n < t.bs.length
  par : ∀ i, i < np → i < t.bs.length → φ' (nm i) = φ (nm i)
theorem seen {t : Tm} {x : t.ty.den} {us : List TV} {h1 : THeap} {l1 : List (Option TBlk)} (I : InstOK t x us h1 l1) {h : THeap} {nx : Nat} (hinv : InvH h nx) {vs : List TV} {m : Nat} {σ : PT Nat} {sm : Nat} (M : MatchOK np t vs h x m σ sm) {la : List AV} (hla : erVs h vs = some la) {φ : PM} {w : World} (r : Rep φ E (erHF h) w) : ∃ φ' lu, erVs h1 us = some lu ∧ Seen np t x us h1 φ φ' (erHF h) E w la lu := by
  obtain ⟨x1, m1, x2, m2, hx, hmm, gv, gb⟩ := M.ex
  have hmr : RowsM h m := by rw [hmm]; exact (getVs_m _ _ _ _ gv).or (getBs_m _ _ _ _ gb)
  have pvg : putVs (gOf σ) t.vs x1 = some (renTs (gOf σ) us) := by
    have h3 := putVs_ren (gOf σ) t.vs x1
    have h4 := I.pv
    rw [hx, fsp_mkp] at h4
    rw [h3, h4]; rfl
  have pbg : putBl (gOf σ) t.bs x2 = some (l1.map (Option.map (renB (gOf σ)))) := by
    have h3 := putBl_ren (gOf σ) t.bs x2
    have h4 := I.pb
    rw [hx, snp_mkp] at h4
    rw [h3, h4]; rfl
  have hbm : ∀ i b, l1[i]? = some (some b) → ∃ b0, h.get (gOf σ i) = some b0 ∧ BM (gOf σ) h m b0 (renB (gOf σ) b) := fun i b hb => by
    obtain ⟨b0, q1, q2⟩ := getBs_ok t.bs 0 x2 m2 _ gb pbg i (renB (gOf σ) b) (by rw [List.getElem?_map, hb]; rfl)
    rw [Nat.zero_add] at q1
    exact ⟨b0, q1, q2.mono fun j hj => by rw [hmm, Nat.testBit_or, hj]; simp⟩
  let hv : THeap := layH (gOf σ) 0 (l1.map (Option.map (renB (gOf σ)))) PT.leaf
  have hv_at : ∀ i b, l1[i]? = some (some b) → hv.get (gOf σ i) = some (renB (gOf σ) b) := fun i b hb => by
    have := layH_at (gOf σ) (l1.map (Option.map (renB (gOf σ)))) 0 PT.leaf (fun a b ha hb => by
      simp only [List.length_map, I.len] at ha hb
      simp only [Nat.zero_add]; exact M.inj a b ha hb) i (some (renB (gOf σ) b)) (by rw [List.getElem?_map, hb]; rfl)
    rw [Nat.zero_add] at this
    exact this
  have hv_ex : ∀ j c, hv.get j = some c → ∃ i b, l1[i]? = some (some b) ∧ j = gOf σ i ∧ c = renB (gOf σ) b := fun j c hj => by
    by_cases hex : ∃ i, i < l1.length ∧ j = gOf σ i
    · obtain ⟨i, hi, rfl⟩ := hex
      have hcc := List.getElem?_eq_getElem hi
      cases hcv : l1[i] with
      | some b => rw [hcv] at hcc; rw [hv_at i b hcc] at hj; cases hj; exact ⟨i, b, hcc, rfl, rfl⟩
      | none =>
        rw [hcv] at hcc
        have := layH_at (gOf σ) (l1.map (Option.map (renB (gOf σ)))) 0 PT.leaf (fun a b ha hb => by
          simp only [List.length_map, I.len] at ha hb
          simp only [Nat.zero_add]; exact M.inj a b ha hb) i none (by rw [List.getElem?_map, hcc]; rfl)
        rw [Nat.zero_add] at this
        have hj' : (layH (gOf σ) 0 (l1.map (Option.map (renB (gOf σ)))) PT.leaf).get (gOf σ i) = some c := hj
        rw [this] at hj'; simp [PT.get] at hj'
    · have : hv.get j = (PT.leaf : THeap).get j := layH_ne (gOf σ) _ 0 _ j fun k hk => by
        simp only [List.length_map] at hk
        rw [Nat.zero_add]; exact fun e => hex ⟨k, hk, e⟩
      rw [this] at hj; simp [PT.get] at hj
  have rows_in : RowsIn hv h := fun j q hq => by
    rw [rowOf_eq] at hq ⊢
    cases hc : hv.get j with
    | none => rw [hc] at hq; cases hq
    | some c =>
      rw [hc] at hq
      obtain ⟨i, b, q1, rfl, rfl⟩ := hv_ex j c hc
      obtain ⟨b0, q2, q3⟩ := hbm i b q1
      rw [q2]; simp only [Option.bind_some] at hq ⊢
      rw [← q3.row]; exact hq
  have rows_h1 : ∀ i q, rowOf h1 i = some q → rowOf hv (gOf σ i) = some q := fun i q hq => by
    rw [rowOf_eq] at hq ⊢
    cases hb : h1.get i with
    | none => rw [hb] at hq; cases hq
    | some b =>
      rw [hb] at hq
      rw [hv_at i b ((I.at_ i b).1 hb)]
      simp only [Option.bind_some, rowB_ren] at hq ⊢; exact hq
  have hd : Dom (erHF h) (erHF hv) := fun n y hy => by
    obtain ⟨j, c, rfl, h3, h4⟩ := erHF_some hy
    obtain ⟨i, b, q1, rfl, rfl⟩ := hv_ex j c h3
    obtain ⟨b0, q2, q3⟩ := hbm i b q1
    obtain ⟨y0, hy0⟩ := BM.erB_some hinv q2 q3 h4
    exact ⟨y0, by rw [erHF_nm, q2]; exact hy0⟩
  have gvv : Giv h (erHF h) (erHF hv) m := fun i hi => ⟨rfl, by
    cases hc : erHF hv (nm i) with
    | none => rfl
    | some y =>
      obtain ⟨j, c, e, h3, h4⟩ := erHF_some hc
      have := nm_inj e; subst this
      obtain ⟨k, b, q1, rfl, rfl⟩ := hv_ex i c h3
      have hk : k < t.bs.length := by rw [← I.len]; exact (List.getElem?_eq_some_iff.1 q1).1
      have h5 := M.disj _ hi
      rw [(M.sig _).2 ⟨k, hk, rfl⟩] at h5; cases h5⟩
  have V : View (erHF h) (erHF hv) := ⟨hd, fun n b b' hb hb' => by
    obtain ⟨j, c, rfl, h3, h4⟩ := erHF_some hb'
    obtain ⟨i, bb, q1, rfl, rfl⟩ := hv_ex j c h3
    obtain ⟨b0, q2, q3⟩ := hbm i bb q1
    rw [erHF_nm, q2] at hb
    exact BM.view hd gvv rows_in q3 hb h4⟩
  have rv := V.rep r
  have T : ToId t x us h1 (gOf σ) φ E E (erHF hv) w := by
    refine Rep.toId I M.inj rv (fun i b yb hb hyb => ?_) (fun k hk => .inl hk) (fun i k b hi h3 h4 hE => ?_) rv.el
    · rw [erHF_nm, hv_at i b ((I.at_ i b).1 hb)]
      exact erB_ren rows_h1 hyb
    · obtain ⟨k', p1, p2, _⟩ := rv.at_ _ _ h3
      rw [h4] at p1; cases p1; exact p2 hE
  obtain ⟨lu, hlu⟩ := okVs_er h1 us I.ok
  have hlug : erVs hv (renTs (gOf σ) us) = some (AV.renL (gam (gOf σ)) lu) := ers_ren rows_h1 us lu hlu
  have hle := getVs_ok hd rows_in t.vs vs x1 m1 _ la _ gv pvg hla hlug (fun i hi => gvv i (by rw [hmm, Nat.testBit_or, hi]; rfl))
  have hall := lts_all us lu I.lt hlu
  refine ⟨_, lu, hlu, T.rep, fun j y v hy => ?_, ?_, fun k hk => hd.tot (T.tot_ k hk), fun k hk => hd.own (T.own_ k hk), fun n k hk => ?_, fun i hi hb => ?_⟩
  · rw [renL_map] at hle
    obtain ⟨z, hz, hlz⟩ := hle.get j (y.ren (gam (gOf σ))) (by rw [List.getElem?_map, hy]; rfl)
    exact ⟨z, hz, fun hr => T.val y v (allL_mem hall y (List.mem_of_getElem? hy)) (hlz _ _ _ _ r hr)⟩
  · have := hle.length
    rw [renL_map, List.length_map] at this; exact this
  · obtain ⟨i, hi, rfl, _⟩ := φ1_some hk
    rw [ow_nm]; exact hi
  · rw [φ1_nm hb, M.fix i hi]

theorem join_T {φ : PM} {s' : TS} {a : Act} {w : World} (c : TCfg P E nt np φ s' a w) {A : Ann} {am : Nat} {s0 s1 : TS} {x : A.D} (hx : extS np A am s0 s' = some x) (hs : rstS A am s0 x = some s1)
    (hk : ∀ k, k ∈ A.keep → k ∉ A.ks → ∀ v, s0.e.get k = some v → idFree v = true → Nat.testBit am k = false → ∀ v', s'.e.get k = some v' → v' = v) : ∃ φ', TCfg P E nt np φ' s1 a w ∧ Stp np φ φ' (erHF s'.h) (erHF s1.h) w w := by
  unfold extS at hx
  split at hx
  · rename_i hc
    simp only [Bool.and_eq_true] at hc
    have hnp := Nat.le_of_ble_eq_true hc.1
    split at hx
    · rename_i s2 h2
      obtain ⟨c2, t2, _⟩ := adjs_T c h2
      split at hx
      · rename_i vs hvs
        split at hx
        · rename_i z m σ sm hM
          simp only [Option.some.injEq] at hx; subst hx
          have M := matchT_ok hM
          unfold rstS at hs
          split at hs
          · rename_i us h1 hi
            obtain ⟨l1, I⟩ := instT_ok hi
            split at hs
            · rename_i hlen
              have hlen := Nat.eq_of_beq_eq_true hlen
              simp only [Option.some.injEq] at hs; subst hs
              obtain ⟨g1, g2⟩ := gets_ok hvs
              have hvok : okVs s2.h vs = true := okVs_slots c2.invE hvs
              obtain ⟨la, hla⟩ := okVs_er s2.h vs hvok
              obtain ⟨φ', lu, hlu, S⟩ := seen (E := E) I c2.invH M hla c2.rep
              refine ⟨φ', ⟨S.rep, ?_, S.dom, hnp, ⟨fun i ty l hl => (I.cells i ty l hl).1, fun i b hb => I.lt_len hb⟩, ?_, c.inert, c.size⟩, t2.trans ⟨Ext.refl _ _, fun k _ h => S.own_ k h, fun i hi => S.par i hi (by omega)⟩⟩
              · intro t y hy
                simp only [erEF] at hy
                cases ht : (sets (keepE am s0.e A.keep) A.ks us).get t with
                | none => rw [ht] at hy; cases hy
                | some v =>
                  rw [ht] at hy
                  simp only [Option.bind_some] at hy
                  rcases sets_get hlen t v ht with ⟨j, q1, q2⟩ | ⟨q1, q2⟩
                  · obtain ⟨y', p1, p2⟩ := erVs_get hlu j v q2
                    rw [hy] at p2; cases p2
                    obtain ⟨z, p3, p4⟩ := S.val j y (a.tmps.getD t undef) p1
                    refine p4 ?_
                    obtain ⟨v0, p5, p6⟩ := g2 j t q1
                    obtain ⟨z', p7, p8⟩ := erVs_get hla j v0 p5
                    rw [p3] at p7; cases p7
                    exact c2.env t _ (by simp only [erEF, p6, Option.bind_some, p8])
                  · obtain ⟨k1, k2, k3, k4⟩ := keepE_get q2
                    obtain ⟨v', k5⟩ := keepChk_ok hc.2 t v k1 k2 k3 k4
                    have := hk t k1 q1 v k2 k3 k4 v' k5
                    subst this
                    have h3 := c.env t y (by simp only [erEF, k5, Option.bind_some]; rw [erV_free s'.h h1 v' k3]; exact hy)
                    exact h3.restrict (p := fun _ => false) (fun i k hi _ => by cases hi) (fun k hk => by
                      have h4 := S.tot_ k hk
                      rcases h4 with h4 | h4
                      · exact .inl h4
                      · exact .inr (by
                          have hkl : k < w.heap.size := by
                            obtain ⟨n, b, e1, e2⟩ := h4
                            obtain ⟨k', p1, _, ob, p3, _⟩ := c2.rep.at_ n b e1
                            rw [e2] at p1; cases p1
                            exact (Array.getElem?_eq_some_iff.1 p3).1
                          exact t2.own_ k hkl h4)) (free_all v' y k3 hy)
              · intro t v hv
                rcases sets_get hlen t v hv with ⟨j, q1, q2⟩ | ⟨q1, q2⟩
                · obtain ⟨y', _, p2⟩ := erVs_get hlu j v q2
                  exact er_okV _ _ _ p2
                · exact free_ok _ v (keepE_get q2).2.2.1
            · cases hs
          · cases hs
        · cases hx
      · cases hx
    · cases hx
  · cases hx
theorem rst_keeps {A : Ann} {am : Nat} {s0 s1 : TS} {x : A.D} (hs : rstS A am s0 x = some s1) : Keeps (ksB A.ks 0) s0.e s1.e ∧ ∀ k, k ∉ A.ks → ∀ v, s1.e.get k = some v → s0.e.get k = some v := by
  unfold rstS at hs
  split at hs
  · rename_i us h1 hi
    split at hs
    · rename_i hlen
      have hlen := Nat.eq_of_beq_eq_true hlen
      simp only [Option.some.injEq] at hs; subst hs
      have key : ∀ k, k ∉ A.ks → ∀ v, (sets (keepE am s0.e A.keep) A.ks us).get k = some v → s0.e.get k = some v := fun k hk v hv => by
        rcases sets_get hlen k v hv with ⟨j, q1, _⟩ | ⟨_, q2⟩
        · exact absurd (List.mem_of_getElem? q1) hk
        · exact (keepE_get q2).2.1
      refine ⟨fun k hk v' hv => ?_, key⟩
      have hnk : k ∉ A.ks := fun hm => by rw [ksB_mem hm] at hk; cases hk
      exact ⟨v', key k hnk v' hv, fun _ => rfl⟩
    · cases hs
  · cases hs
end walk
end Go.Proofs.YtjjplipoacljoaaDoor.AI
