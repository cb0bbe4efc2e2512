/-
  Texts of the proof, part 4 of 6: what is used to prove the statement. No condition.
-/
import Derived.Test.YtjjplipoacljoaaDoorHBAnyQ2
import Derived.Deep.Slices
import Derived.OpenShut
import Derived.Below
import Derived.Test.YtjjplipoacljoaaDoorRows
import Derived.LaidMore
namespace Go.Proofs.YtjjplipoacljoaaDoor.AI
open Go.RowKit

inductive Er : TC → SC → Prop
  | skip : Er .skip .skip
  | reg (ops : List SOper) (prs : List (Nat × Nat)) : Er (.reg ops prs) (.reg ops prs)
  | seq {a b : TC} {a' b' : SC} : Er a a' → Er b b' → Er (.seq a b) (.seq a' b')
  | jseq (A : Ann) {a b : TC} {a' b' : SC} : Er a a' → Er b b' → Er (.jseq A a b) (.seq a' b')
  | cond (c : Nat) {a b : TC} {a' b' : SC} : Er a a' → Er b b' → Er (.cond c a b) (.cond c a' b')
  | block (id : Nat) {b : TC} {b' : SC} : Er b b' → Er (.block id b) (.block id b')
  | jblock (A : Ann) (id : Nat) {b : TC} {b' : SC} : Er b b' → Er (.jblock A id b) (.block id b')
  | loop (A : Ann) {b : TC} {b' : SC} : Er b b' → Er (.loop A b) (.loop b')
  | exit (id : Nat) : Er (.exit id) (.exit id)
  | ret : Er .ret .ret
  | defer (f : FuncId) (c : List Operand) (t : Nat) : Er (.defer f c t) (.defer f c t)
  | adj (l : List Adj) {c : TC} {c' : SC} : Er c c' → Er (.adj l c) c'
  | bad (c : SC) : Er .bad c
theorem wrap_Er {H : PT Hint} {n : Nat} {c : TC} {c' : SC} (h : Er c c') : Er (wrapH H n c) c' := by
  unfold wrapH
  split
  · exact .adj _ h
  · exact h
theorem deco_Er (H : PT Hint) : ∀ (c : SC) (n : Nat), Er (deco H c n).1 c
  | .skip, n => wrap_Er .skip
  | .reg o p, n => wrap_Er (.reg o p)
  | .seq a b, n => by
    have h1 := deco_Er H a (n + 1)
    have h2 := deco_Er H b (deco H a (n + 1)).2
    simp only [deco]
    split
    · exact .jseq _ h1 h2
    · exact .seq h1 h2
  | .cond c a b, n => by
    have h1 := deco_Er H a (n + 1)
    have h2 := deco_Er H b (deco H a (n + 1)).2
    simp only [deco]
    exact wrap_Er (.cond c h1 h2)
  | .block id b, n => by
    have h1 := deco_Er H b (n + 1)
    simp only [deco]
    split
    · exact .jblock _ id h1
    · exact .block id h1
  | .loop b, n => by
    have h1 := deco_Er H b (n + 1)
    simp only [deco]
    split
    · exact .loop _ h1
    · exact .bad _
  | .exit id, n => wrap_Er (.exit id)
  | .ret, n => wrap_Er .ret
  | .defer f c t, n => .defer f c t
  | .bad, n => .bad _

theorem iter_some {σ R : Type} {step : σ → Option (σ ⊕ R)} {x : σ} {r : R} (h : iter step x = some r) : ∃ n, iterN step n x = some r := by
  unfold iter at h
  split at h
  · exact ⟨_, h⟩
  · cases h
theorem jn_some {α R : Type} {o : Option (R ⊕ α)} {k : α → Option R} {r : R} (h : jn o k = some r) : (∃ x, o = some (.inr x) ∧ k x = some r) ∨ o = some (.inl r) := by
  unfold jn at h
  split at h
  · exact .inl ⟨_, rfl, h⟩
  · cases h; exact .inr rfl
  · cases h

section inv
variable {P : Program} {nt : Nat}
theorem comp_region (id : Nat) (ops : Array Oper) (dr : Bool) : compCode P nt (.region id ops dr) = .bad ∨
    ((ops.toList.all fun o => match o.dst with | some d => decide (d < nt) | none => true) = true ∧
      ((∃ f caps t, deferOf ops dr = some (f, caps, t) ∧ compCode P nt (.region id ops dr) = .defer f caps t) ∨
       ∃ l prs, compOps P ops ops.toList = some l ∧ prsOf ops l = some prs ∧ compCode P nt (.region id ops dr) = .reg l prs)) := by
  simp only [compCode]
  split
  · rename_i hd
    split
    · rename_i f caps t h; exact .inr ⟨hd, .inl ⟨f, caps, t, h, rfl⟩⟩
    · split
      · rename_i l hl
        split
        · rename_i prs hp; exact .inr ⟨hd, .inr ⟨l, prs, hl, hp, rfl⟩⟩
        · exact .inl rfl
      · exact .inl rfl
  · exact .inl rfl
theorem inv_reg {c : Code} {sl : List SOper} {prs : List (Nat × Nat)} (h : compCode P nt c = .reg sl prs) : ∃ id ops dr, c = .region id ops dr ∧ (ops.toList.all fun o => match o.dst with | some d => decide (d < nt) | none => true) = true ∧ compOps P ops ops.toList = some sl ∧ prsOf ops sl = some prs := by
  cases c with
  | region id ops dr =>
    rcases comp_region (P := P) (nt := nt) id ops dr with h1 | ⟨hd, ⟨f, caps, t, _, h1⟩ | ⟨l, p, h2, h3, h1⟩⟩
    · rw [h1] at h; cases h
    · rw [h1] at h; cases h
    · rw [h1] at h; cases h; exact ⟨id, ops, dr, rfl, hd, h2, h3⟩
  | cond o x y => cases o <;> simp [compCode] at h
  | _ => simp [compCode] at h
theorem inv_defer {c : Code} {f : FuncId} {caps : List Operand} {t : Nat} (h : compCode P nt c = .defer f caps t) : ∃ id ops dr, c = .region id ops dr ∧ (ops.toList.all fun o => match o.dst with | some d => decide (d < nt) | none => true) = true ∧ deferOf ops dr = some (f, caps, t) := by
  cases c with
  | region id ops dr =>
    rcases comp_region (P := P) (nt := nt) id ops dr with h1 | ⟨hd, ⟨f', caps', t', h2, h1⟩ | ⟨l, p, h2, h3, h1⟩⟩
    · rw [h1] at h; cases h
    · rw [h1] at h; cases h; exact ⟨id, ops, dr, rfl, hd, h2⟩
    · rw [h1] at h; cases h
  | cond o x y => cases o <;> simp [compCode] at h
  | _ => simp [compCode] at h
theorem not_region {c : Code} {sc : SC} (h : compCode P nt c = sc) (h1 : sc ≠ .bad) (h2 : ∀ a b, sc ≠ .reg a b) (h3 : ∀ a b t, sc ≠ .defer a b t) : ∀ id ops dr, c ≠ .region id ops dr := by
  rintro id ops dr rfl
  rcases comp_region (P := P) (nt := nt) id ops dr with h4 | ⟨_, ⟨f, caps, t, _, h4⟩ | ⟨l, p, _, _, h4⟩⟩ <;> rw [h4] at h
  · exact h1 h.symm
  · exact h3 _ _ _ h.symm
  · exact h2 _ _ h.symm
theorem inv_skip {c : Code} (h : compCode P nt c = .skip) : c = .skip := by
  have nr := not_region h (by simp) (by simp) (by simp)
  cases c with
  | skip => rfl
  | region id ops dr => exact absurd rfl (nr id ops dr)
  | cond o x y => cases o <;> simp [compCode] at h
  | _ => simp [compCode] at h
theorem inv_ret {c : Code} (h : compCode P nt c = .ret) : c = .ret := by
  have nr := not_region h (by simp) (by simp) (by simp)
  cases c with
  | ret => rfl
  | region id ops dr => exact absurd rfl (nr id ops dr)
  | cond o x y => cases o <;> simp [compCode] at h
  | _ => simp [compCode] at h
theorem inv_exit {c : Code} {i : Nat} (h : compCode P nt c = .exit i) : c = .exit i := by
  have nr := not_region h (by simp) (by simp) (by simp)
  cases c with
  | exit id => simp [compCode] at h; rw [h]
  | region id ops dr => exact absurd rfl (nr id ops dr)
  | cond o x y => cases o <;> simp [compCode] at h
  | _ => simp [compCode] at h
theorem inv_seq {c : Code} {a b : SC} (h : compCode P nt c = .seq a b) : ∃ x y, c = .seq x y ∧ compCode P nt x = a ∧ compCode P nt y = b := by
  have nr := not_region h (by simp) (by simp) (by simp)
  cases c with
  | seq x y => simp [compCode] at h; exact ⟨x, y, rfl, h.1, h.2⟩
  | region id ops dr => exact absurd rfl (nr id ops dr)
  | cond o x y => cases o <;> simp [compCode] at h
  | _ => simp [compCode] at h
theorem inv_cond {c : Code} {t : Nat} {a b : SC} (h : compCode P nt c = .cond t a b) : ∃ x y, c = .cond (.tmp t) x y ∧ compCode P nt x = a ∧ compCode P nt y = b := by
  have nr := not_region h (by simp) (by simp) (by simp)
  cases c with
  | cond o x y =>
    cases o with
    | tmp q => simp [compCode] at h; obtain ⟨rfl, h1, h2⟩ := h; exact ⟨x, y, rfl, h1, h2⟩
    | _ => simp [compCode] at h
  | region id ops dr => exact absurd rfl (nr id ops dr)
  | _ => simp [compCode] at h
theorem inv_block {c : Code} {id : Nat} {b : SC} (h : compCode P nt c = .block id b) : ∃ y, c = .block id y ∧ compCode P nt y = b := by
  have nr := not_region h (by simp) (by simp) (by simp)
  cases c with
  | block i y => simp [compCode] at h; obtain ⟨rfl, h1⟩ := h; exact ⟨y, rfl, h1⟩
  | region id ops dr => exact absurd rfl (nr id ops dr)
  | cond o x y => cases o <;> simp [compCode] at h
  | _ => simp [compCode] at h
theorem inv_loop {c : Code} {b : SC} (h : compCode P nt c = .loop b) : ∃ y, c = .loop y ∧ compCode P nt y = b := by
  have nr := not_region h (by simp) (by simp) (by simp)
  cases c with
  | loop y => simp [compCode] at h; exact ⟨y, rfl, h⟩
  | region id ops dr => exact absurd rfl (nr id ops dr)
  | cond o x y => cases o <;> simp [compCode] at h
  | _ => simp [compCode] at h
end inv

/-- what is known behind code -/
def TPost {R : Type} (P : Program) (E : Nat → Prop) (nt np : Nat) (φ : PM) (s : TS) (w : World) (am : Nat) (K : Ex → TS → Option R) (r : R) : Exit → Act → World → Prop :=
  fun e a' w' => ∃ ex s' φ', e = ex.to ∧ K ex s' = some r ∧ TCfg P E nt np φ' s' a' w' ∧ Stp np φ φ' (erHF s.h) (erHF s'.h) w w' ∧ Keeps am s.e s'.e

theorem TCfg.bool {P : Program} {E : Nat → Prop} {nt np : Nat} {φ : PM} {s : TS} {a : Act} {w : World} (c : TCfg P E nt np φ s a w) {t : Nat} {b : Bool} (ht : s.e.get t = some (.f .bool b)) : a.eval (.tmp t) = .bool b :=
  raw_eq (c.env t _ (by simp only [erEF, ht, Option.bind_some, erV]; rfl))

theorem TCfg.anyb {P : Program} {E : Nat → Prop} {nt np : Nat} {φ : PM} {s : TS} {a : Act} {w : World} (c : TCfg P E nt np φ s a w) {t : Nat} (ht : s.e.get t = some .anyb) : ∃ b, a.eval (.tmp t) = .bool b := by
  have := c.env t .anyb (by simp only [erEF, ht, Option.bind_some, erV])
  show ∃ b, a.tmps.getD t undef = .bool b
  generalize a.tmps.getD t undef = z at this
  cases this with
  | anyb => exact ⟨_, rfl⟩
theorem both_some {R : Type} {a b : Option R} {r : R} (h : both a b = some r) : a = some r ∧ b = some r := by
  unfold both at h
  split at h
  · rename_i e; exact ⟨h, by rw [← e]; exact h⟩
  · cases h
theorem trun_T {P : Program} {E : Nat → Prop} {nt np : Nat} {con : FuncId → Option Con} {tyv : TypeId → Option Ty} {inert : FuncId → Bool} (hm : P.follows .mixedOrders = true) (hcon : ConOK P con) (hin : InertF P inert) :
    ∀ {tc : TC} {sc : SC}, Er tc sc → ∀ (c : Code), compCode P nt c = sc → ∀ (R : Type) (s : TS) (K : Ex → TS → Option R) (r : R), trun np con tyv inert tc s K = some r → ∀ (φ : PM) (a : Act) (w : World), TCfg P E nt np φ s a w → c.wp P (TPost P E nt np φ s w (tc.asg 0) K r) a w := by
  intro tc sc hE
  induction hE with
  | skip =>
    intro c hc R s K r h φ a w g
    rw [inv_skip hc]
    exact wp_skip ⟨.normal, s, φ, rfl, h, g, Stp.refl _ _ _ _, Keeps.refl _ _⟩
  | reg ops prs =>
    intro c hc R s K r h φ a w g
    obtain ⟨id, os, dr, rfl, h1, h2, h3⟩ := inv_reg hc
    simp only [trun] at h
    refine region_T (K := fun s' => K .normal s') hm hcon g (am := asgO ops 0) (fun j o d ho hd => ?_) h1 h2 h3 h fun a' w' s' φ' q1 q2 q3 q4 => ⟨.normal, s', φ', rfl, q1, q2, q3, q4⟩
    have hmem : o ∈ os.toList := by have := Array.mem_of_getElem? ho; simpa using this
    have key : ∀ (rest : List Oper) (sl : List SOper), compOps P os rest = some sl → ∀ o ∈ rest, ∃ so ∈ sl, so.dst = o.dst := by
      intro rest
      induction rest with
      | nil => intro sl _ o ho; cases ho
      | cons x rest ih =>
        intro sl hsl o ho
        simp only [compOps] at hsl
        split at hsl
        · rename_i l hl
          have : ∃ so, sl = so :: l ∧ so.dst = x.dst := by
            split at hsl
            · simp only [Option.some.injEq] at hsl; exact ⟨_, hsl.symm, rfl⟩
            · split at hsl
              · simp only [Option.some.injEq] at hsl; exact ⟨_, hsl.symm, rfl⟩
              · cases hsl
          obtain ⟨so, rfl, hso⟩ := this
          rcases List.mem_cons.1 ho with rfl | ho
          · exact ⟨so, by simp, hso⟩
          · obtain ⟨q, hq, hq2⟩ := ih l hl o ho
            exact ⟨q, by simp [hq], hq2⟩
        · cases hsl
    obtain ⟨so, hso, hd2⟩ := key os.toList ops h2 o hmem
    exact asgO_mem hso (by rw [hd2]; exact hd)
  | @seq x y x' y' _ _ ihx ihy =>
    intro c hc R s K r h φ a w g
    obtain ⟨cx, cy, rfl, h1, h2⟩ := inv_seq hc
    simp only [trun] at h
    refine wp_seq (wp_mono (ihx cx h1 R s _ r h φ a w g) ?_)
    rintro e a' w' ⟨ex, s', φ', rfl, hk, g', st, kp⟩
    have kp' : Keeps ((TC.seq x y).asg 0) s.e s'.e := kp.mono fun k hk => by simp only [TC.asg]; exact asg_acc_sub hk
    cases ex with
    | normal =>
      refine wp_mono (ihy cy h2 R s' K r hk φ' a' w' g') ?_
      rintro e2 a2 w2 ⟨ex2, s2, φ2, rfl, hk2, g2, st2, kp2⟩
      exact ⟨ex2, s2, φ2, rfl, hk2, g2, st.trans st2, kp'.trans (kp2.mono fun k hk => by simp only [TC.asg]; exact asg_sub hk)⟩
    | exit id => exact ⟨.exit id, s', φ', rfl, hk, g', st, kp'⟩
    | ret => exact ⟨.ret, s', φ', rfl, hk, g', st, kp'⟩
  | @jseq A x y x' y' _ _ ihx ihy =>
    intro c hc R s K r h φ a w g
    obtain ⟨cx, cy, rfl, h1, h2⟩ := inv_seq hc
    simp only [trun] at h
    have sub1 : ∀ k, Nat.testBit (x.asg 0) k = true → Nat.testBit ((TC.jseq A x y).asg 0) k = true := fun k hk => by simp only [TC.asg]; exact asg_acc_sub (asg_sub hk)
    have sub2 : ∀ k, Nat.testBit (y.asg 0) k = true → Nat.testBit ((TC.jseq A x y).asg 0) k = true := fun k hk => by simp only [TC.asg]; exact asg_sub hk
    have sub3 : ∀ k, Nat.testBit (ksB A.ks 0) k = true → Nat.testBit ((TC.jseq A x y).asg 0) k = true := fun k hk => by simp only [TC.asg]; exact asg_acc_sub (asg_acc_sub hk)
    rcases jn_some h with ⟨d, h3, h4⟩ | h3
    · refine wp_seq (wp_mono (ihx cx h1 _ s _ _ h3 φ a w g) ?_)
      rintro e a' w' ⟨ex, s', φ', rfl, hk, g', st, kp⟩
      cases ex with
      | normal =>
        simp only [] at hk
        obtain ⟨d', q1, q2⟩ := obind_some hk
        simp only [Option.some.injEq, Sum.inr.injEq] at q2; subst q2
        split at h4
        · rename_i s1 hs1
          obtain ⟨φ1, g1, st1⟩ := join_T g' q1 hs1 fun k _ _ v hv hf ha v' hv' => by
            obtain ⟨v0, e1, e2⟩ := kp k ha v' hv'
            rw [hv] at e1; cases e1; exact e2 hf
          refine wp_mono (ihy cy h2 R s1 K r h4 φ1 a' w' g1) ?_
          rintro e2 a2 w2 ⟨ex2, s2, φ2, rfl, hk2, g2, st2, kp2⟩
          exact ⟨ex2, s2, φ2, rfl, hk2, g2, (st.trans st1).trans st2, ((rst_keeps hs1).1.mono sub3).trans (kp2.mono sub2)⟩
        · cases h4
      | exit id => simp only [] at hk; obtain ⟨_, _, q2⟩ := obind_some hk; simp at q2
      | ret => simp only [] at hk; obtain ⟨_, _, q2⟩ := obind_some hk; simp at q2
    · refine wp_seq (wp_mono (ihx cx h1 _ s _ _ h3 φ a w g) ?_)
      rintro e a' w' ⟨ex, s', φ', rfl, hk, g', st, kp⟩
      cases ex with
      | normal => simp only [] at hk; obtain ⟨_, _, q2⟩ := obind_some hk; simp at q2
      | exit id =>
        simp only [] at hk
        obtain ⟨r', q1, q2⟩ := obind_some hk
        simp only [Option.some.injEq, Sum.inl.injEq] at q2; subst q2
        exact ⟨.exit id, s', φ', rfl, q1, g', st, kp.mono sub1⟩
      | ret =>
        simp only [] at hk
        obtain ⟨r', q1, q2⟩ := obind_some hk
        simp only [Option.some.injEq, Sum.inl.injEq] at q2; subst q2
        exact ⟨.ret, s', φ', rfl, q1, g', st, kp.mono sub1⟩
  | @cond t x y x' y' _ _ ihx ihy =>
    intro c hc R s K r h φ a w g
    obtain ⟨cx, cy, rfl, h1, h2⟩ := inv_cond hc
    simp only [trun] at h
    split at h
    · rename_i b hb
      rcases bcase_some h with ⟨rfl, h⟩ | ⟨rfl, h⟩
      · refine wp_cond_true (g.bool hb) (wp_mono (ihx cx h1 R s K r h φ a w g) ?_)
        rintro e a' w' ⟨ex, s', φ', rfl, hk, g', st, kp⟩
        exact ⟨ex, s', φ', rfl, hk, g', st, kp.mono fun k hk => by simp only [TC.asg]; exact asg_acc_sub hk⟩
      · refine wp_cond_false (g.bool hb) (wp_mono (ihy cy h2 R s K r h φ a w g) ?_)
        rintro e a' w' ⟨ex, s', φ', rfl, hk, g', st, kp⟩
        exact ⟨ex, s', φ', rfl, hk, g', st, kp.mono fun k hk => by simp only [TC.asg]; exact asg_sub hk⟩
    · rename_i hb
      obtain ⟨ha, hbb⟩ := both_some h
      obtain ⟨bv, hbv⟩ := g.anyb hb
      cases bv with
      | true =>
        refine wp_cond_true hbv (wp_mono (ihx cx h1 R s K r ha φ a w g) ?_)
        rintro e a' w' ⟨ex, s', φ', rfl, hk, g', st, kp⟩
        exact ⟨ex, s', φ', rfl, hk, g', st, kp.mono fun k hk => by simp only [TC.asg]; exact asg_acc_sub hk⟩
      | false =>
        refine wp_cond_false hbv (wp_mono (ihy cy h2 R s K r hbb φ a w g) ?_)
        rintro e a' w' ⟨ex, s', φ', rfl, hk, g', st, kp⟩
        exact ⟨ex, s', φ', rfl, hk, g', st, kp.mono fun k hk => by simp only [TC.asg]; exact asg_sub hk⟩
    · cases h
  | @block id b b' _ ih =>
    intro c hc R s K r h φ a w g
    obtain ⟨cb, rfl, h1⟩ := inv_block hc
    simp only [trun] at h
    refine wp_block (wp_mono (ih cb h1 R s _ r h φ a w g) ?_)
    rintro e a' w' ⟨ex, s', φ', rfl, hk, g', st, kp⟩
    cases ex with
    | normal => exact ⟨.normal, s', φ', rfl, hk, g', st, kp⟩
    | ret => exact ⟨.ret, s', φ', rfl, hk, g', st, kp⟩
    | exit i =>
      simp only [Ex.to, Exit.inBlock]
      simp only [] at hk
      split at hk
      · rename_i hb
        rw [if_pos (Nat.eq_of_beq_eq_true hb)]
        exact ⟨.normal, s', φ', rfl, hk, g', st, kp⟩
      · rename_i hb
        rw [if_neg (fun e => hb (by rw [e]; exact Nat.beq_refl id))]
        exact ⟨.exit i, s', φ', rfl, hk, g', st, kp⟩
  | @jblock A id b b' _ ih =>
    intro c hc R s K r h φ a w g
    obtain ⟨cb, rfl, h1⟩ := inv_block hc
    simp only [trun] at h
    have sub1 : ∀ k, Nat.testBit (b.asg 0) k = true → Nat.testBit ((TC.jblock A id b).asg 0) k = true := fun k hk => by simp only [TC.asg]; exact asg_sub hk
    have sub3 : ∀ k, Nat.testBit (ksB A.ks 0) k = true → Nat.testBit ((TC.jblock A id b).asg 0) k = true := fun k hk => by simp only [TC.asg]; exact asg_acc_sub hk
    rcases jn_some h with ⟨d, h3, h4⟩ | h3
    · refine wp_block (wp_mono (ih cb h1 _ s _ _ h3 φ a w g) ?_)
      rintro e a' w' ⟨ex, s', φ', rfl, hk, g', st, kp⟩
      have fin : obind (extS np A (b.asg 0) s s') (fun x => some (Sum.inr (α := R) x)) = some (Sum.inr d) → TPost P E nt np φ s w ((TC.jblock A id b).asg 0) K r .normal a' w' := by
        intro hk
        obtain ⟨d', q1, q2⟩ := obind_some hk
        simp only [Option.some.injEq, Sum.inr.injEq] at q2; subst q2
        split at h4
        · rename_i s1 hs1
          obtain ⟨φ1, g1, st1⟩ := join_T g' q1 hs1 fun k _ _ v hv hf ha v' hv' => by
            obtain ⟨v0, e1, e2⟩ := kp k ha v' hv'
            rw [hv] at e1; cases e1; exact e2 hf
          exact ⟨.normal, s1, φ1, rfl, h4, g1, st.trans st1, (rst_keeps hs1).1.mono sub3⟩
        · cases h4
      cases ex with
      | normal => exact fin hk
      | ret => simp only [] at hk; obtain ⟨_, _, q2⟩ := obind_some hk; simp at q2
      | exit i =>
        simp only [Ex.to, Exit.inBlock]
        simp only [] at hk
        split at hk
        · rename_i hb
          rw [if_pos (Nat.eq_of_beq_eq_true hb)]
          exact fin hk
        · obtain ⟨_, _, q2⟩ := obind_some hk; simp at q2
    · refine wp_block (wp_mono (ih cb h1 _ s _ _ h3 φ a w g) ?_)
      rintro e a' w' ⟨ex, s', φ', rfl, hk, g', st, kp⟩
      cases ex with
      | normal => simp only [] at hk; obtain ⟨_, _, q2⟩ := obind_some hk; simp at q2
      | ret =>
        simp only [] at hk
        obtain ⟨r', q1, q2⟩ := obind_some hk
        simp only [Option.some.injEq, Sum.inl.injEq] at q2; subst q2
        exact ⟨.ret, s', φ', rfl, q1, g', st, kp.mono sub1⟩
      | exit i =>
        simp only [Ex.to, Exit.inBlock]
        simp only [] at hk
        split at hk
        · obtain ⟨_, _, q2⟩ := obind_some hk; simp at q2
        · rename_i hb
          rw [if_neg (fun e => hb (by rw [e]; exact Nat.beq_refl id))]
          obtain ⟨r', q1, q2⟩ := obind_some hk
          simp only [Option.some.injEq, Sum.inl.injEq] at q2; subst q2
          exact ⟨.exit i, s', φ', rfl, q1, g', st, kp.mono sub1⟩
  | @loop A b b' _ ih =>
    intro c hc R s K r h φ a w g
    obtain ⟨cb, rfl, h1⟩ := inv_loop hc
    simp only [trun] at h
    obtain ⟨x0, hx0, h⟩ := obind_some h
    obtain ⟨n, hn⟩ := iter_some h
    have sub1 : ∀ k, Nat.testBit (b.asg 0) k = true → Nat.testBit ((TC.loop A b).asg 0) k = true := fun k hk => by simp only [TC.asg]; exact asg_sub hk
    have sub3 : ∀ k, Nat.testBit (ksB A.ks 0) k = true → Nat.testBit ((TC.loop A b).asg 0) k = true := fun k hk => by simp only [TC.asg]; exact asg_acc_sub hk
    obtain ⟨step, hstep⟩ : ∃ step : A.D → Option (A.D ⊕ R), step = fun x => (match rstS A (b.asg 0) s x with
      | some s' => trun np con tyv inert b s' fun ex s' => (match ex with
        | .normal => obind (extS np A (b.asg 0) s s') fun y => some (Sum.inl y)
        | ex => obind (K ex s') fun r => some (Sum.inr r))
      | none => none) := ⟨_, rfl⟩
    have hn : iterN step n x0 = some r := by rw [hstep]; exact hn
    have stepEq : ∀ x, step x = (match rstS A (b.asg 0) s x with
      | some s' => trun np con tyv inert b s' fun ex s' => (match ex with
        | .normal => obind (extS np A (b.asg 0) s s') fun y => some (Sum.inl y)
        | ex => obind (K ex s') fun r => some (Sum.inr r))
      | none => none) := fun x => by rw [hstep]
    -- at the loop's head
    let Inv : Nat → Act → World → Prop := fun n a w' => ∃ x s1 φ1, iterN step n x = some r ∧ rstS A (b.asg 0) s x = some s1 ∧ TCfg P E nt np φ1 s1 a w' ∧ Stp np φ φ1 (erHF s.h) (erHF s1.h) w w'
    have head : ∀ (n : Nat) (x : A.D), iterN step n x = some r → ∃ s1, rstS A (b.asg 0) s x = some s1 := by
      intro n x hn
      cases n with
      | zero => cases hn
      | succ n =>
        simp only [iterN] at hn
        cases hr : rstS A (b.asg 0) s x with
        | some s1 => exact ⟨s1, rfl⟩
        | none => rw [stepEq, hr] at hn; cases hn
    refine wp_loop_rank Inv ?_ (n := n) ?_
    · rintro n a1 w1 ⟨x, s1, φ1, hi, hr, g1, st1⟩
      cases n with
      | zero => cases hi
      | succ n =>
        simp only [iterN] at hi
        have hse := stepEq x
        rw [hr] at hse
        simp only [] at hse
        obtain ⟨kp1, kp1'⟩ := rst_keeps hr
        split at hi
        · rename_i y hy
          rw [hy] at hse
          refine wp_mono (ih cb h1 _ s1 _ _ hse.symm φ1 a1 w1 g1) ?_
          rintro e a' w' ⟨ex, s', φ', rfl, hk, g', st, kp⟩
          cases ex with
          | normal =>
            simp only [] at hk
            obtain ⟨d', q1, q2⟩ := obind_some hk
            simp only [Option.some.injEq, Sum.inl.injEq] at q2; subst q2
            obtain ⟨s2, hs2⟩ := head n d' hi
            obtain ⟨φ2, g2, st2⟩ := join_T g' q1 hs2 fun k hkk hks v hv hf ha v' hv' => by
              obtain ⟨v0, e1, e2⟩ := kp k ha v' hv'
              have := kp1' k hks v0 e1
              rw [hv] at this; cases this; exact e2 hf
            exact ⟨n, by omega, d', s2, φ2, hi, hs2, g2, (st1.trans st).trans st2⟩
          | exit id => simp only [] at hk; obtain ⟨_, _, q2⟩ := obind_some hk; simp at q2
          | ret => simp only [] at hk; obtain ⟨_, _, q2⟩ := obind_some hk; simp at q2
        · rename_i r' hy
          cases hi
          rw [hy] at hse
          refine wp_mono (ih cb h1 _ s1 _ _ hse.symm φ1 a1 w1 g1) ?_
          rintro e a' w' ⟨ex, s', φ', rfl, hk, g', st, kp⟩
          cases ex with
          | normal => simp only [] at hk; obtain ⟨_, _, q2⟩ := obind_some hk; simp at q2
          | exit id =>
            simp only [] at hk
            obtain ⟨r', q1, q2⟩ := obind_some hk
            simp only [Option.some.injEq, Sum.inr.injEq] at q2; subst q2
            exact ⟨.exit id, s', φ', rfl, q1, g', st1.trans st, (kp1.mono sub3).trans (kp.mono sub1)⟩
          | ret =>
            simp only [] at hk
            obtain ⟨r', q1, q2⟩ := obind_some hk
            simp only [Option.some.injEq, Sum.inr.injEq] at q2; subst q2
            exact ⟨.ret, s', φ', rfl, q1, g', st1.trans st, (kp1.mono sub3).trans (kp.mono sub1)⟩
        · cases hi
    · obtain ⟨s1, hs1⟩ := head n x0 hn
      obtain ⟨φ1, g1, st1⟩ := join_T g hx0 hs1 fun k _ _ v hv _ _ v' hv' => by rw [hv] at hv'; cases hv'; rfl
      exact ⟨x0, s1, φ1, hn, hs1, g1, st1⟩
  | exit id =>
    intro c hc R s K r h φ a w g
    rw [inv_exit hc]
    exact wp_exit ⟨.exit id, s, φ, rfl, h, g, Stp.refl _ _ _ _, Keeps.refl _ _⟩
  | ret =>
    intro c hc R s K r h φ a w g
    rw [inv_ret hc]
    exact wp_ret ⟨.ret, s, φ, rfl, h, g, Stp.refl _ _ _ _, Keeps.refl _ _⟩
  | defer f caps t =>
    intro c hc R s K r h φ a w g
    obtain ⟨id, ops, dr, rfl, h1, h2⟩ := inv_defer hc
    simp only [trun] at h
    split at h
    · rename_i l hl
      split at h
      · rename_i hi
        obtain ⟨l', e1, e2⟩ := opnds_ev g.invE hl
        obtain ⟨H, hH⟩ := erH_ex s.h
        have lowN : ∀ n k, φ n = some k → n < 2 * s.nx + 2 := fun n k hk => by have := g.dom n k hk; unfold ow at this; omega
        have cfg : Cfg P ⟨2 * s.nx + 2, φ, E, erHF s.h, w⟩ nt ⟨erE s.e s.h, H, 2 * s.nx + 2, 0⟩ a w := by
          refine ⟨⟨φ, ?_, ?_, ?_, lowN, fun i k hk => .inl hk⟩, Nat.le_refl _, g.inert, g.size⟩
          · rw [hH]; exact Moves.refl _ _ _
          · rw [hH]; exact g.rep
          · rw [hH, erE_get]; exact g.env
        refine defer_sound hin cfg h1 h2 e1 hi fun a' w' c' => ?_
        obtain ⟨φ', m', r', en', dm', d0'⟩ := c'.ex
        have hφ : φ' = φ := by
          funext n
          cases hx : φ n with
          | some k => exact m'.sub n k hx
          | none =>
            cases hy : φ' n with
            | none => rfl
            | some k =>
              rcases d0' n k hy with h3 | h3
              · have h3 : φ n = some k := h3
                rw [hx] at h3; cases h3
              · have h4 : n < 2 * s.nx + 2 := dm' n k hy
                have h5 : 2 * s.nx + 2 ≤ n := h3
                omega
        subst hφ
        simp only [hH] at m' r' en'
        refine ⟨.normal, _, φ', rfl, h, ⟨r', ?_, g.dom, g.low, g.invH, ?_, c'.inert, c'.size⟩, ⟨m'.ext, m'.own_, fun _ _ => rfl⟩, ?_⟩
        · intro u x hx
          refine en' u x ?_
          simp only [erEF, PT.get_set] at hx
          simp only [Env.put, PT.get_set]
          split at hx
          · rename_i eu
            rw [if_pos eu]
            simp only [Option.bind_some, erV, e2, Option.some.injEq] at hx
            rw [hx]
          · rename_i eu
            rw [if_neg eu, erE_get]; exact hx
        · intro u x hx
          simp only [PT.get_set] at hx
          split at hx
          · cases hx; simp only [okV]; exact er_okVs _ _ _ e2
          · exact g.invE u x hx
        · intro k hk v' hv'
          simp only [PT.get_set] at hv'
          split at hv'
          · rename_i ek; subst ek
            simp only [TC.asg] at hk
            rw [Nat.testBit_or, testBit_bit.2 rfl] at hk; simp at hk
          · exact ⟨v', hv', fun _ => rfl⟩
      · cases h
    · cases h
  | @adj l tc' sc' _ ih =>
    intro c hc R s K r h φ a w g
    simp only [trun] at h
    split at h
    · rename_i s1 hs1
      obtain ⟨g1, st1, kp1⟩ := adjs_T g hs1
      refine wp_mono (ih c hc R s1 K r h φ a w g1) ?_
      rintro e a' w' ⟨ex, s', φ', rfl, hk, g', st, kp⟩
      exact ⟨ex, s', φ', rfl, hk, g', st1.trans st, (kp1.mono fun k hk => by simp only [TC.asg]; exact asg_acc_sub hk).trans (kp.mono fun k hk => by simp only [TC.asg]; exact asg_sub hk)⟩
    · cases h
  | bad sc' =>
    intro c hc R s K r h
    simp [trun] at h

/-! functions -/
theorem rvsT_ok {P : Program} {φ : PM} {E : Nat → Prop} {s : TS} {a : Act} {w : World} (hinv : InvH s.h s.nx) (hiE : InvE s.e s.h) (r : Rep φ E (erHF s.h) w) (en : EnvOK φ (tot E φ (erHF s.h)) w (erEF s.e s.h) a) : ∀ (rs : List ResultVar) (rvs : List RV) (l : List TV), compRes P rs = some rvs → rvsT s rvs = some l →
    ∃ la vs, erVs s.h l = some la ∧ (rs.mapM (resF a.tmps)).run P w = .ok vs w ∧ RelL φ (tot E φ (erHF s.h)) w la vs
  | [], rvs, l, hc, hr => by
    simp only [compRes, Option.some.injEq] at hc; subst hc
    simp only [rvsT, Option.some.injEq] at hr; subst hr
    exact ⟨[], [], rfl, by simp, trivial⟩
  | .tmp t :: rs, rvs, l, hc, hr => by
    simp only [compRes] at hc
    split at hc
    · rename_i rvs' hrs
      simp only [Option.some.injEq] at hc; subst hc
      simp only [rvsT] at hr
      split at hr
      · rename_i v hv
        split at hr
        · rename_i l' hl'
          simp only [Option.some.injEq] at hr; subst hr
          obtain ⟨la, vs, h0, h1, h2⟩ := rvsT_ok hinv hiE r en rs rvs' l' hrs hl'
          simp only [rvT] at hv
          obtain ⟨y, hy⟩ := okV_er s.h v (hiE t v hv)
          refine ⟨y :: la, a.tmps.getD t undef :: vs, erVs_mk hy h0, ?_, en t y (by simp only [erEF, hv, Option.bind_some, hy]), h2⟩
          simp only [List.mapM_cons, Sem.run_bind, resF, Sem.run_pure, Result.andThen_ok]
          show ((rs.mapM (resF a.tmps)).run P w).andThen _ = _
          rw [h1]; rfl
        · cases hr
      · cases hr
    · cases hc
  | .cell ad t :: rs, rvs, l, hc, hr => by
    simp only [compRes] at hc
    split at hc
    · rename_i rvs' sz ag hrs hsz hag
      simp only [Option.some.injEq] at hc; subst hc
      simp only [rvsT] at hr
      split at hr
      · rename_i v hv
        split at hr
        · rename_i l' hl'
          simp only [Option.some.injEq] at hr; subst hr
          obtain ⟨la, vs, h0, h1, h2⟩ := rvsT_ok hinv hiE r en rs rvs' l' hrs hl'
          simp only [rvT] at hv
          split at hv
          · rename_i id off hp
            split at hv
            · rename_i ty q hb
              obtain ⟨q', hq'⟩ := okVs_er s.h q (hinv.cells id ty q hb)
              obtain ⟨y, e1, e2⟩ := subMx hq' hv
              obtain ⟨H, hH⟩ := erH_ex s.h
              have hR : aload H sz ag (.ptr (nm id) off) = some ⟨y, [nm id], [], [], []⟩ := by
                have hg : H.get (nm id) = some ⟨ty, .mx q'⟩ := by rw [hH, erHF_nm, hb]; simp only [Option.bind_some, erB, hq']
                simp only [aload, hg, e2]
              obtain ⟨_, _, _, h3⟩ := aload_ok (P := P) hsz hag hR
              obtain ⟨qq, v', h4, h5, h6⟩ := h3 φ E (erHF s.h) w _ (fun i _ => by rw [hH]) r (en ad _ (by simp only [erEF, hp, Option.bind_some, erV]))
              refine ⟨y :: la, v' :: vs, erVs_mk e1 h0, ?_, h6, h2⟩
              have hone : (resF a.tmps (.cell ad t)).run P w = .ok v' w := by
                simp only [resF, Sem.run_bind, h4, asAddr, Sem.run_pure, Result.andThen_ok, h5]
              rw [List.mapM_cons]
              simp only [Sem.run_bind, hone, Result.andThen_ok, h1, Sem.run_pure]
            · cases hv
          · cases hv
        · cases hr
      · cases hr
    · cases hc
theorem argsT_get : ∀ (args : List TV) (k t : Nat) (x : TV), (argsT k args).get t = some x → k ≤ t ∧ args[t - k]? = some x
  | [], k, t, x, h => by simp [argsT, PT.get] at h
  | y :: args, k, t, x, h => by
    rw [argsT, PT.get_set] at h
    split at h
    · rename_i hk; subst hk; cases h; exact ⟨Nat.le_refl _, by simp⟩
    · obtain ⟨h1, h2⟩ := argsT_get args (k + 1) t x h
      refine ⟨by omega, ?_⟩
      rw [show t - k = t - (k + 1) + 1 from by omega]; simpa using h2
theorem okVs_get {h : THeap} {l : List TV} (ho : okVs h l = true) {j : Nat} {v : TV} (hj : l[j]? = some v) : okV h v = true := by
  obtain ⟨l', hl⟩ := okVs_er h l ho
  obtain ⟨y, _, hy⟩ := erVs_get hl j v hj
  exact er_okV _ _ _ hy

/-- a function keeps the contract that the walk of its code gives -/
theorem tfun_holds {P : Program} {con : FuncId → Option Con} {tyv : TypeId → Option Ty} {inert : FuncId → Bool} (hm : P.follows .mixedOrders = true) (hcon : ConOK P con) (hin : InertF P inert) {f : FuncId} {sf : SF} (hf : compF P f = some sf) (D : FT) (m : D.pre.ty.den → Option D.post.ty.den) (hmod : ∀ x y, m x = some y → tfun con tyv inert (some sf) D x = some y) : Holds P f ⟨D.pre, D.post, m⟩ := by
  obtain ⟨fn, c, hfn, hb, hnm, hcode, hres, hnt⟩ := compF_ok hf
  refine ⟨⟨fn, hfn, by rw [hb]; rfl, hnm⟩, fun x y hxy vs hp l1 rs hq l2 la lr I J hla hlr φ E w us hrep hrel hdom => ?_⟩
  have ht := hmod x y hxy
  unfold tfun at ht
  simp only [] at ht
  split at ht
  · rename_i args h hins
    obtain ⟨l1', I'⟩ := instT_ok hins
    -- the same values
    have e1 : args = vs := by have h1 := I.pv; have h2 := I'.pv; rw [h1] at h2; cases h2; rfl
    have e2 : l1' = l1 := by have h1 := I.pb; have h2 := I'.pb; rw [h1] at h2; cases h2; rfl
    subst e1; subst e2
    have hget : ∀ i, h.get i = hp.get i := fun i => by
      cases h3 : hp.get i with
      | some b => exact (I'.at_ i b).2 ((I.at_ i b).1 h3)
      | none =>
        cases h4 : h.get i with
        | none => rfl
        | some b => have := (I.at_ i b).2 ((I'.at_ i b).1 h4); rw [h3] at this; cases this
    have hrow : ∀ i, rowOf h i = rowOf hp i := fun i => by rw [rowOf_eq, rowOf_eq, hget]
    have herH : erHF h = erHF hp := by
      funext n
      by_cases hn : ∃ i, n = nm i
      · obtain ⟨i, rfl⟩ := hn
        rw [erHF_nm, erHF_nm, hget]
        cases h3 : hp.get i with
        | none => rfl
        | some b =>
          simp only [Option.bind_some]
          refine erB_mono (fun i r hr => by rw [hrow]; exact hr) fun ty l e => ?_
          exact (I.cells i ty l (by rw [h3, e])).1
      · rw [erHF_odd _ hn, erHF_odd _ hn]
    have hla' : erVs h args = some la := erVs_mono (fun i r hr => by rw [hrow]; exact hr) args la hla
    split at ht
    · rename_i hle
      simp only [Bool.and_eq_true] at hle
      have hle2 := Nat.le_of_ble_eq_true hle.2
      have hle := Nat.le_of_ble_eq_true hle.1
      have hlen := hrel.length
      have hargl : args.length = la.length := (erVs_length hla).symm
      refine calls_of_wp_defers hfn hb ?_
      have hcfg : TCfg P E fn.ntmps D.pre.bs.length φ ⟨argsT 0 args, h, D.pre.bs.length⟩ { tmps := us.toArray ++ Array.replicate (fn.ntmps - us.toArray.size) undef, defers := [] } w := by
        refine ⟨by rw [herH]; exact hrep, ?_, hdom, Nat.le_refl _, ⟨fun i ty l hl => (I'.cells i ty l hl).1, fun i b hbb => I'.lt_len hbb⟩, ?_, by simp, by simp; omega⟩
        · intro t z hz
          simp only [erEF] at hz
          cases hx : (argsT 0 args).get t with
          | none => rw [hx] at hz; cases hz
          | some v0 =>
            rw [hx] at hz
            obtain ⟨_, h2⟩ := argsT_get args 0 t v0 hx
            rw [Nat.sub_zero] at h2
            obtain ⟨y0, q1, q2⟩ := erVs_get hla' t v0 h2
            simp only [Option.bind_some] at hz
            rw [hz] at q2; cases q2
            obtain ⟨v, h3, h4⟩ := hrel.get t z q1
            have hlt : t < us.length := (List.getElem?_eq_some_iff.1 h3).1
            have : (us.toArray ++ Array.replicate (fn.ntmps - us.toArray.size) undef).getD t undef = v := by
              rw [Array.getD_eq_getD_getElem?, Array.getElem?_append]
              simp only [List.size_toArray, hlt, if_true, List.getElem?_toArray, h3, Option.getD_some]
            show RelV φ _ w z ((us.toArray ++ Array.replicate (fn.ntmps - us.toArray.size) undef).getD t undef)
            rw [this, herH]; exact h4
        · intro t v0 hv0
          obtain ⟨_, h2⟩ := argsT_get args 0 t v0 hv0
          exact okVs_get I'.ok h2
      refine wp_mono (trun_T (E := E) hm hcon hin (deco_Er D.hints sf.code 0) c hcode.symm _ _ _ _ ht φ _ w hcfg) ?_
      rintro e a' w' ⟨ex, s', φ', rfl, hk, g', st, _⟩
      have fin : (match rvsT s' sf.res with
          | some l => (match matchT D.pre.bs.length D.post l s'.h with
            | some ⟨y, _, _, _⟩ => (match instT D.post y with | some _ => some y | none => none)
            | none => none)
          | none => none) = some y → Leaves P fn a'.tmps (fun en w' => ∃ v φ', en = .returned v ∧ Ext (own φ (erHF hp)) w w' ∧ (∀ k, k < w.heap.size → own φ' (erHF hq) k → own φ (erHF hp) k) ∧ (∀ i, i < D.pre.bs.length → φ' (nm i) = φ (nm i)) ∧ Rep φ' E (erHF hq) w' ∧ RelV φ' (tot E φ' (erHF hq)) w' (tupA lr) v) a'.defers .returning w' := by
        intro hk
        split at hk
        · rename_i l hl
          split at hk
          · rename_i y' m' σ sm hM
            split at hk
            · simp only [Option.some.injEq] at hk; subst hk
              obtain ⟨lo, rvs, q0, q1, q2⟩ := rvsT_ok g'.invH g'.invE g'.rep g'.env fn.results.toList sf.res l hres hl
              have M := matchT_ok hM
              obtain ⟨φ2, lu, hlu, S⟩ := seen (np := D.pre.bs.length) (E := E) J g'.invH M q0 g'.rep
              rw [hlr] at hlu; cases hlu
              have hresults : (results fn a'.tmps).run P w' = .ok (if h : rvs.toArray.size = 1 then rvs.toArray[0] else .tuple rvs.toArray) w' := by
                rw [results_eq, Array.mapM_eq_mapM_toList]
                simp only [Sem.run_bind, Sem.run_map, q1, Result.andThen_ok, Sem.run_pure]
              have hrl : RelL φ2 (tot E φ2 (erHF hq)) w' lr rvs := by
                refine RelL.of (by rw [q2.length, S.len]) fun j z v hz hv => ?_
                obtain ⟨z0, p1, p2⟩ := S.val j z v hz
                obtain ⟨v', p3, p4⟩ := q2.get j z0 p1
                rw [hv] at p3; cases p3; exact p2 p4
              have hval : RelV φ2 (tot E φ2 (erHF hq)) w' (tupA lr) (if h : rvs.toArray.size = 1 then rvs.toArray[0] else .tuple rvs.toArray) := by
                have hll := hrl.length
                clear hlr S
                cases lr with
                | nil =>
                  cases rvs with
                  | nil => exact RelV.tup (vs := []) rfl (by intro j x v hx; simp at hx)
                  | cons _ _ => exact hrl.elim
                | cons z lr =>
                  cases rvs with
                  | nil => exact hrl.elim
                  | cons v rvs =>
                    cases lr with
                    | nil =>
                      cases rvs with
                      | nil => exact hrl.1
                      | cons _ _ => exact hrl.2.elim
                    | cons y l =>
                      cases rvs with
                      | nil => exact hrl.2.elim
                      | cons u rvs =>
                        rw [dif_neg (by simp)]
                        refine RelV.tup (vs := v :: u :: rvs) (by simpa using hll) fun j x' v' hx hv => ?_
                        obtain ⟨v'', q1, q2⟩ := hrl.get j x' hx
                        rw [hv] at q1; cases q1; exact q2
              have st' : Stp D.pre.bs.length φ φ' (erHF hp) (erHF s'.h) w w' := by rw [← herH]; exact st
              refine leaves_inert hresults ⟨_, φ2, rfl, st'.ext, fun k hk ho => st'.own_ k hk (S.own_ k ho), fun i hi => ?_, S.rep, hval⟩ a'.defers g'.inert
              rw [S.par i hi (Nat.lt_of_lt_of_le hi hle2), st'.par i hi]
            · cases hk
          · cases hk
        · cases hk
      cases ex with
      | normal => exact fin hk
      | ret => exact fin hk
      | exit id => cases hk
    · cases ht
  · cases ht
end Go.Proofs.YtjjplipoacljoaaDoor.AI
namespace Go.Proofs.YtjjplipoacljoaaDoor.AI
open Go.RowKit

def conL : List (FuncId × Con) → FuncId → Option Con
  | [], _ => none
  | (g, c) :: r, f => if Nat.beq g f then some c else conL r f
def AllH (P : Program) : List (FuncId × Con) → Prop
  | [] => True
  | p :: r => HoldsC P p.1 p.2 ∧ AllH P r
theorem conL_ok {P : Program} : ∀ {l : List (FuncId × Con)}, AllH P l → ConOK P (conL l)
  | [], _, f, c, h => by simp [conL] at h
  | (g, d) :: r, ha, f, c, h => by
    simp only [conL] at h
    split at h
    · rename_i hb
      have := Nat.eq_of_beq_eq_true hb
      subst this
      cases h; exact ha.1
    · exact conL_ok ha.2 f c h
theorem holds_of {P : Program} {inert : FuncId → Bool} (hm : P.follows .mixedOrders = true) (hin : InertF P inert) {l : List (FuncId × Con)} (ha : AllH P l) {tyv : TypeId → Option Ty} {f : FuncId} {D : FT} {m : D.pre.ty.den → Option D.post.ty.den} (hs : (compF P f).isSome = true) (he : ∀ x, tfun (conL l) tyv inert (compF P f) D x = m x) : Holds P f ⟨D.pre, D.post, m⟩ := by
  obtain ⟨sf, hf⟩ := Option.isSome_iff_exists.1 hs
  exact tfun_holds hm (conL_ok ha) hin hf D m fun x y hxy => by rw [← hf, he]; exact hxy
/-- a contract under a weaker model -/
theorem Holds.sub {P : Program} {f : FuncId} {pre post : Tm} {m m' : pre.ty.den → Option post.ty.den} (h : Holds P f ⟨pre, post, m⟩) (hs : ∀ x y, m' x = some y → m x = some y) : Holds P f ⟨pre, post, m'⟩ :=
  ⟨h.callable, fun x y hxy => h.calls x y (hs x y hxy)⟩
theorem HoldsC.sub {P : Program} {f : FuncId} {pre post : Tm} {m m' : pre.ty.den → Option post.ty.den} (h : HoldsC P f ⟨pre, post, m⟩) (hb : Nat.ble pre.bs.length post.bs.length = true) (hs : ∀ x y, m' x = some y → m x = some y) : HoldsC P f ⟨pre, post, m'⟩ :=
  ((h.holds hb).sub hs).toC hb
/-- slices.Clone, nil or not -/
theorem clone_sub {α : Type} {b : Nat} : ∀ (x y : List α), chk (roomy (List.length x) b) (fun _ => some x) = some y → bcase (Nat.beq (List.length x) 0) (both (some ([] : List α)) (chk (roomy (List.length ([] : List α) + List.length x) b) fun _ => (some (([] : List α) ++ x)))) (chk (roomy (List.length ([] : List α) + List.length x) b) fun _ => (some (([] : List α) ++ x))) = some y := by
  intro x y h
  rw [List.nil_append, List.length_nil, Nat.zero_add, h]
  cases x with
  | nil =>
    obtain ⟨_, h⟩ := chk_some h
    cases h
    show both (some []) (some []) = _
    unfold both; rw [if_pos rfl]
  | cons a r => rfl
/-- a closed function whose result was computed -/
theorem holds_closed {P : Program} {f : FuncId} {T : Ty} {v : T.den} (sp : Spec P f [] PT.leaf 0 ⟨.f (enc1 T v), PT.leaf, 0, 0⟩) (m : (Tm.ty ⟨[], []⟩).den → Option (Tm.ty ⟨[.d T], []⟩).den) (hm : ∀ x y, m x = some y → putVs idf [.d T] (fsp (PV.tyL [.d T]) (PB.tyL []) y) = some [.f T v]) : Holds P f ⟨⟨[], []⟩, ⟨[.d T], []⟩, m⟩ := by
  refine ⟨sp.callable, fun x y hxy vs hp l1 rs hq l2 la lr I J hla hlr φ E w us hrep hrel hdom => ?_⟩
  have hv : vs = [] := by have := I.pv; simp only [putVs, Option.some.injEq] at this; exact this.symm
  subst hv
  simp only [erVs, Option.some.injEq] at hla; subst hla
  have hrs : rs = [.f T v] := by
    have h1 := J.pv
    have h2 := hm x y hxy
    rw [show putVs idf [.d T] (fsp (PV.tyL [.d T]) (PB.tyL []) y) = some rs from h1] at h2
    cases h2; rfl
  subst hrs
  simp only [erVs, erV, Option.some.injEq] at hlr; subst hlr
  have noH : ∀ {h1 : THeap} {t : Tm} {z : t.ty.den} {us : List TV} {l : List (Option TBlk)}, InstOK t z us h1 l → t.bs.length = 0 → erHF h1 = (PT.leaf : Heap).get := by
    intro h1 t z us l I h0
    funext n
    cases hb : erHF h1 n with
    | none => rfl
    | some b =>
      obtain ⟨i, c, _, h3, _⟩ := erHF_some hb
      have := I.lt_len h3; omega
  have e1 := noH I rfl
  have e2 := noH J rfl
  rw [e1] at hrep hrel ⊢
  rw [e2]
  cases us with
  | cons _ _ => exact hrel.elim
  | nil =>
    have hφ : ∀ i k, φ i = some k → i < 0 := fun i k hk => by have := hdom i k hk; simp at this
    refine Calls.mono (sp.calls φ E w [] hrep trivial hφ) ?_
    rintro en w' ⟨u, φ', rfl, mv, rp, rv', nm'⟩
    refine ⟨u, φ', rfl, mv.ext, mv.own_, fun i hi => by simp at hi, rp, rv'⟩
end Go.Proofs.YtjjplipoacljoaaDoor.AI
namespace Go.Proofs.YtjjplipoacljoaaDoor.AI
open Go.RowKit

def tyFs (P : Program) (f : Ty → TypeId → Bool) : List Field → Nat → Ty → Bool
  | [], _, .un => true
  | [x], off, T => Nat.beq x.offset off && f T x.type && Nat.beq (P.cellsOf x.type) T.size
  | x :: y :: r, off, .pr a b => Nat.beq x.offset off && f a x.type && Nat.beq (P.cellsOf x.type) a.size && tyFs P f (y :: r) (off + a.size) b
  | _, _, _ => false
def tyAr (P : Program) (f : Ty → TypeId → Bool) (e : TypeId) : Nat → Ty → Bool
  | 1, T => f T e && Nat.beq (P.cellsOf e) T.size
  | m + 2, .pr a b => f a e && Nat.beq (P.cellsOf e) a.size && tyAr P f e (m + 1) b
  | _, _ => false
/-- a type of the program and a type of data go together -/
def tyOK (P : Program) : Nat → Ty → TypeId → Bool
  | 0, _, _ => false
  | n + 1, T, t => match T, P.underlying t with
    | .int k, some (.int k') => k == k'
    | .bool, some .bool => true
    | .str, some .string => true
    | .sl U, some (.slice e) => tyOK P n U e && Nat.beq (P.cellsOf e) U.size && Nat.blt 0 U.size
    | .st U, some (.struct fs) => tyFs P (tyOK P n) fs.toList 0 U && Nat.beq (P.cellsOf t) U.size
    | .st U, some (.array m e) => tyAr P (tyOK P n) e m U && Nat.beq (P.cellsOf t) U.size
    | _, _ => false
def wfT : (T : Ty) → T.den → Prop
  | .int k, n => (Lit.int k n).wf = true
  | .str, s => List.length s ≤ maxLen
  | .sl U, xs => List.length xs ≤ maxLen ∧ ∀ x ∈ (xs : List U.den), wfT U x
  | .st t, v => wfT t v
  | .pr a b, v => wfT a v.1 ∧ wfT b v.2
  | _, _ => True
/-- cells that read as data -/
def Reads (W : World) (T : Ty) (x : T.den) (cs : List Value) : Prop := cs.length = T.size ∧ ∀ (j : Nat) y v, (encC T x)[j]? = some y → cs[j]? = some v → RelF (fun _ => False) W y v

theorem choose_len {α : Type} (z : α) (P : Nat → α → Prop) : ∀ n : Nat, (∀ i, i < n → ∃ a, P i a) → ∃ l : List α, l.length = n ∧ ∀ i x, l[i]? = some x → P i x
  | 0, _ => ⟨[], rfl, fun i x h => by simp at h⟩
  | n + 1, h => by
    obtain ⟨l, hl, hp⟩ := choose_len z P n (fun i hi => h i (by omega))
    obtain ⟨a, ha⟩ := h n (by omega)
    refine ⟨l ++ [a], by simp [hl], fun i x hx => ?_⟩
    by_cases hi : i < l.length
    · rw [List.getElem?_append_left hi] at hx; exact hp i x hx
    · rw [List.getElem?_append_right (by omega)] at hx
      by_cases h0 : i - l.length = 0
      · rw [h0] at hx; simp at hx; subst hx; rw [show i = n from by omega]; exact ha
      · rw [List.getElem?_eq_none (by simp; omega)] at hx; cases hx
theorem Addr.add_plain {a : Addr} (h : a.spot = none) (n : Nat) : a.add n = ⟨a.block, a.off + n, none⟩ := by
  unfold Addr.add
  split
  · rename_i h0; subst h0; cases a; simp at h; subst h; rfl
  · rfl
theorem cell_spot {w : World} {a : Addr} {v : Value} (h : w.cell? a = some v) : a.spot = none := by
  unfold World.cell? at h
  split at h
  · split at h
    · cases h
    · rename_i hs; cases hh : a.spot with
      | none => rfl
      | some _ => simp [hh] at hs
  · cases h

theorem Reads.sub {W : World} {T : Ty} {x : T.den} {cs : List Value} {off n : Nat} (h : Reads W T x ((cs.drop off).take n)) (hn : n = T.size) (hl : off + n ≤ cs.length) : ∀ (j : Nat) y v, (encC T x)[j]? = some y → cs[off + j]? = some v → RelF (fun _ => False) W y v := fun j y v hy hv => by
  refine h.2 j y v hy ?_
  have hj : j < T.size := by have := (List.getElem?_eq_some_iff.1 hy).1; rwa [encC_length] at this
  rw [List.getElem?_take, if_pos (by omega), List.getElem?_drop]; exact hv

section
variable {H : Type} {enc : TypeId × Value → H} {P : Program} {W : World} {base : Nat} {sp : Nat → Bool} {hd : Bool}

theorem open_fs {f : Ty → TypeId → Bool} {m : Nat} (ih : ∀ (T : Ty) (t : TypeId) (cs : List Value) x, f T t = true → DataW.trod enc P W base sp hd m t cs = some x → ∃ v, Reads W T v cs ∧ wfT T v) (cs : List Value) (ts : List (DataW H × List MemPlace)) :
    ∀ (fs : List Field) (off k : Nat) (T : Ty), tyFs P f fs off T = true → off + T.size ≤ cs.length → (∀ (i : Nat) (fl : Field), fs[i]? = some fl → ∃ z, DataW.trod enc P W base sp hd m fl.type ((cs.drop fl.offset).take (P.cellsOf fl.type)) = some z) →
    ∃ v, (∀ (j : Nat) y u, (encC T v)[j]? = some y → cs[off + j]? = some u → RelF (fun _ => False) W y u) ∧ wfT T v
  | [], off, k, .un, _, _, _ => ⟨(), fun j y u hy => by simp [encC] at hy, trivial⟩
  | [x], off, k, T, h, hl, hg => by
    simp only [tyFs, Bool.and_eq_true] at h
    obtain ⟨⟨h1, h2⟩, h3⟩ := h
    have h1 := Nat.eq_of_beq_eq_true h1
    have h3 := Nat.eq_of_beq_eq_true h3
    obtain ⟨z, hz⟩ := hg 0 x rfl
    obtain ⟨v, hv, hw⟩ := ih T _ _ _ h2 hz
    rw [h1] at hv
    exact ⟨v, hv.sub h3 (by omega), hw⟩
  | x :: x' :: r, off, k, .pr a b, h, hl, hg => by
    simp only [tyFs, Bool.and_eq_true] at h
    obtain ⟨⟨⟨h1, h2⟩, h3⟩, h4⟩ := h
    have h1 := Nat.eq_of_beq_eq_true h1
    have h3 := Nat.eq_of_beq_eq_true h3
    simp only [Ty.size] at hl
    obtain ⟨z, hz⟩ := hg 0 x rfl
    obtain ⟨v, hv, hw⟩ := ih a _ _ _ h2 hz
    rw [h1] at hv
    have hv := hv.sub h3 (by omega)
    obtain ⟨v', hv', hw'⟩ := open_fs ih cs ts (x' :: r) (off + a.size) (k + 1) b h4 (by omega) (fun i fl hi => hg (i + 1) fl (by simpa using hi))
    refine ⟨(v, v'), fun j y u hy hu => ?_, hw, hw'⟩
    simp only [encC] at hy
    by_cases hj : j < a.size
    · rw [List.getElem?_append_left (by rw [encC_length]; exact hj)] at hy
      exact hv j y u hy hu
    · rw [List.getElem?_append_right (by rw [encC_length]; omega), encC_length] at hy
      exact hv' _ y u hy (by rw [show off + a.size + (j - a.size) = off + j from by omega]; exact hu)
theorem open_ar {f : Ty → TypeId → Bool} {m : Nat} {e : TypeId} (ih : ∀ (T : Ty) (t : TypeId) (cs : List Value) x, f T t = true → DataW.trod enc P W base sp hd m t cs = some x → ∃ v, Reads W T v cs ∧ wfT T v) (cs : List Value) :
    ∀ (n i : Nat) (T : Ty), tyAr P f e n T = true → i * P.cellsOf e + T.size ≤ cs.length → (∀ j, j < n → ∃ z, DataW.trod enc P W base sp hd m e ((cs.drop ((i + j) * P.cellsOf e)).take (P.cellsOf e)) = some z) →
    ∃ v, (∀ (j : Nat) y u, (encC T v)[j]? = some y → cs[i * P.cellsOf e + j]? = some u → RelF (fun _ => False) W y u) ∧ wfT T v
  | 0, i, T, h, _, _ => by unfold tyAr at h; cases h
  | 1, i, T, h, hl, hg => by
    simp only [tyAr, Bool.and_eq_true] at h
    have h3 := Nat.eq_of_beq_eq_true h.2
    obtain ⟨z, hz⟩ := hg 0 (by omega)
    obtain ⟨v, hv, hw⟩ := ih T _ _ _ h.1 hz
    rw [Nat.add_zero] at hv
    exact ⟨v, hv.sub h3 (by omega), hw⟩
  | n + 2, i, T, h, hl, hg => by
    cases T with
    | pr a b =>
      simp only [tyAr, Bool.and_eq_true] at h
      obtain ⟨⟨h1, h2⟩, h4⟩ := h
      have h3 := Nat.eq_of_beq_eq_true h2
      simp only [Ty.size] at hl
      obtain ⟨z, hz⟩ := hg 0 (by omega)
      obtain ⟨v, hv, hw⟩ := ih a _ _ _ h1 hz
      rw [Nat.add_zero] at hv
      have hv := hv.sub h3 (by omega)
      obtain ⟨v', hv', hw'⟩ := open_ar ih cs (n + 1) (i + 1) b h4 (by rw [Nat.add_mul, Nat.one_mul]; omega) (fun j hj => by have := hg (j + 1) (by omega); rwa [show i + (j + 1) = i + 1 + j from by omega] at this)
      refine ⟨(v, v'), fun j y u hy hu => ?_, hw, hw'⟩
      simp only [encC] at hy
      by_cases hj : j < a.size
      · rw [List.getElem?_append_left (by rw [encC_length]; exact hj)] at hy
        exact hv j y u hy hu
      · rw [List.getElem?_append_right (by rw [encC_length]; omega), encC_length] at hy
        exact hv' _ y u hy (by rw [Nat.add_mul, Nat.one_mul, show i * P.cellsOf e + P.cellsOf e + (j - a.size) = i * P.cellsOf e + j from by omega]; exact hu)
    | _ => unfold tyAr at h; cases h

theorem open_ty : ∀ (n : Nat) (T : Ty) (t : TypeId) (fuel : Nat) (cs : List Value) x, tyOK P n T t = true → (∀ b, sp b = true) → DataW.trod enc P W base sp hd fuel t cs = some x → ∃ v, Reads W T v cs ∧ wfT T v
  | 0, _, _, _, _, _, h, _, _ => by unfold tyOK at h; cases h
  | n + 1, T, t, fuel, cs, x, h, hsp, ht => by
    unfold tyOK at h
    split at h
    · rename_i k k' hu
      have hk := eq_of_beq h; subst hk
      obtain ⟨m, rfl, _, hw⟩ := DataW.trod_int hu ht
      refine ⟨m, ⟨rfl, fun j y v hy hv => ?_⟩, hw⟩
      cases j with
      | zero => simp [encC] at hy hv; subst hy hv; exact .raw _
      | succ j => simp [encC] at hy
    · rename_i hu
      obtain ⟨b, rfl, _⟩ := DataW.trod_bool hu ht
      refine ⟨b, ⟨rfl, fun j y v hy hv => ?_⟩, trivial⟩
      cases j with
      | zero => simp [encC] at hy hv; subst hy hv; exact .raw _
      | succ j => simp [encC] at hy
    · rename_i hu
      obtain ⟨s, rfl, _, hs⟩ := DataW.trod_string hu ht
      refine ⟨s.data.toList, ⟨rfl, fun j y v hy hv => ?_⟩, by simpa [wfT] using hs⟩
      cases j with
      | zero => simp [encC] at hy hv; subst hy hv; exact .raw _
      | succ j => simp [encC] at hy
    · rename_i U e hu
      simp only [Bool.and_eq_true] at h
      obtain ⟨⟨h1, h2⟩, h3⟩ := h
      have h2 := Nat.eq_of_beq_eq_true h2
      have h3 : 0 < U.size := Nat.le_of_ble_eq_true h3
      rcases Go.Deep.open_slice hu ht with ⟨rfl, _⟩ | ⟨a, len, cap, m, k, D, Pl, rfl, hb, hl, hm, hmm, _, hi⟩
      · refine ⟨[], ⟨rfl, fun j y v hy hv => ?_⟩, by simp [wfT]⟩
        cases j with
        | zero => simp [encC] at hy hv; subst hy hv; exact .nil _ _ (by unfold maxLen; omega)
        | succ j => simp [encC] at hy
      · rw [hsp, if_pos rfl] at hmm
        rw [h2] at hi
        obtain ⟨xs, hx1, hx2⟩ := choose_len U.zero (fun i (v : U.den) => ∃ cs', W.cells? base (a.add (i * U.size)) U.size = some cs' ∧ Reads W U v cs' ∧ wfT U v) len (fun i hil => by
          obtain ⟨cs', hc, htt⟩ := hi i (by omega)
          obtain ⟨v, hv, hw⟩ := open_ty n U e k cs' _ h1 hsp htt
          exact ⟨v, cs', hc, hv, hw⟩)
        refine ⟨xs, ⟨rfl, fun j y v hy hv => ?_⟩, by show List.length xs ≤ maxLen; omega, fun y hy => ?_⟩
        · cases j with
          | succ j => simp [encC] at hy
          | zero =>
            simp [encC] at hy hv; subst hy hv
            by_cases h0 : len = 0
            · have : xs = [] := List.length_eq_zero_iff.1 (by omega)
              subst this; subst h0; exact .nil _ _ hm
            · obtain ⟨x0, hx0⟩ : ∃ x0, xs[0]? = some x0 := ⟨xs[0]'(by omega), List.getElem?_eq_getElem (by omega)⟩
              obtain ⟨cs0, hc0, _⟩ := hx2 0 x0 hx0
              obtain ⟨_, hcl0, hat0⟩ := World.cells?_some hc0
              have hca := hat0 0 h3
              rw [List.getElem?_eq_getElem (by omega)] at hca
              have hspot : a.spot = none := by
                have := cell_spot hca
                simpa [Addr.add] using this
              have hblk := World.block_lt_of_cell? W _ hca
              rw [Nat.zero_mul, Addr.add_plain hspot, Addr.add_plain rfl] at hca hblk
              have hcell : ∀ (i j : Nat) x, xs[i]? = some x → j < U.size → ∃ cs', W.cell? ⟨a.block, a.off + (i * U.size + j), none⟩ = cs'[j]? ∧ j < cs'.length ∧ Reads W U x cs' := fun i j x hx hj => by
                obtain ⟨cs', hc, hr, _⟩ := hx2 i x hx
                obtain ⟨_, hcl, hat⟩ := World.cells?_some hc
                have := hat j hj
                rw [Addr.add_plain hspot, Addr.add_plain rfl, Nat.add_assoc] at this
                exact ⟨cs', this, by omega, hr⟩
              have hflat : ∀ j, j < xs.length * U.size → ∃ x, xs[j / U.size]? = some x ∧ j % U.size < U.size ∧ j = j / U.size * U.size + j % U.size := fun j hj => by
                have h5 : j / U.size < xs.length := Nat.div_lt_of_lt_mul (by rw [Nat.mul_comm]; exact hj)
                exact ⟨xs[j / U.size], List.getElem?_eq_getElem h5, Nat.mod_lt _ h3, by rw [Nat.mul_comm]; exact (Nat.div_add_mod j U.size).symm⟩
              have hlen : (List.flatMap (encC U) xs).length = xs.length * U.size := flat_length (encC_length U) xs
              obtain ⟨ab, ao, az⟩ := a
              cases hspot
              rw [← hx1]
              refine .sl (List.flatMap (encC U) xs) xs.length cap ab ao (fun j => (W.cell? ⟨ab, ao + j, none⟩).getD undef) (by omega) hm (fun h => h) hblk (flat_cell U xs) (fun j hj => ?_) (fun j y hy => ?_)
              · obtain ⟨x, hx, hjs, hje⟩ := hflat j (by omega)
                obtain ⟨cs', g1, g2, _⟩ := hcell _ _ x hx hjs
                rw [← hje] at g1
                simp only [g1, List.getElem?_eq_getElem g2, Option.getD_some]
              · have hj : j < xs.length * U.size := by rw [← hlen]; exact (List.getElem?_eq_some_iff.1 hy).1
                obtain ⟨x, hx, hjs, hje⟩ := hflat j hj
                obtain ⟨cs', g1, g2, g3⟩ := hcell _ _ x hx hjs
                rw [← hje] at g1
                simp only [g1]
                rw [List.getElem?_eq_getElem g2]
                refine g3.2 (j % U.size) y _ ?_ (List.getElem?_eq_getElem g2)
                obtain ⟨r, hr⟩ := flat_drop (encC_length U) xs (j / U.size) x hx
                have : ((List.flatMap (encC U) xs).drop (j / U.size * U.size))[j % U.size]? = some y := by rw [List.getElem?_drop, ← hje]; exact hy
                rw [hr, List.getElem?_append_left (by rw [encC_length]; exact hjs)] at this
                exact this
        · obtain ⟨i, hi'⟩ := List.getElem?_of_mem hy
          obtain ⟨_, _, _, hw⟩ := hx2 i y hi'
          exact hw
    · rename_i U fs hu
      simp only [Bool.and_eq_true] at h
      have h2 := Nat.eq_of_beq_eq_true h.2
      obtain ⟨xs, m, rfl, _, hl, hxl, hg⟩ := DataW.trod_struct hu ht
      obtain ⟨v, hv, hw⟩ := open_fs (f := tyOK P n) (m := m) (fun T t cs x h1 h2 => open_ty n T t m cs x h1 hsp h2) cs xs fs.toList 0 0 U h.1 (by omega) (fun i fl hi => by
        have hi' : fs[i]? = some fl := by simpa using hi
        have := hg i fl hi'
        have hlt : i < xs.length := by rw [hxl]; exact (Array.getElem?_eq_some_iff.1 hi').1
        rw [List.getElem?_eq_getElem hlt] at this
        exact ⟨_, this⟩)
      exact ⟨v, ⟨by rw [hl, h2]; rfl, fun j y u hy hu => hv j y u hy (by rw [Nat.zero_add]; exact hu)⟩, hw⟩
    · rename_i U m e hu
      simp only [Bool.and_eq_true] at h
      have h2 := Nat.eq_of_beq_eq_true h.2
      obtain ⟨xs, q, rfl, _, hl, hxl, hg⟩ := DataW.trod_array hu ht
      obtain ⟨v, hv, hw⟩ := open_ar (f := tyOK P n) (m := q) (fun T t cs x h1 h2 => open_ty n T t q cs x h1 hsp h2) cs m 0 U h.1 (by omega) (fun j hj => by
        have := hg j hj
        rw [List.getElem?_eq_getElem (by omega)] at this
        rw [Nat.zero_add]
        exact ⟨_, this⟩)
      exact ⟨v, ⟨by rw [hl, h2]; rfl, fun j y u hy hu => hv j y u hy (by rw [Nat.zero_mul, Nat.zero_add]; exact hu)⟩, hw⟩
    · cases h

theorem okWide_cell {n : Nat} {T : Ty} {t : TypeId} {v : Value} {r : Reach} {bs : Nat} (hT : tyOK P n T t = true) (h1 : T.one = true) (h : Value.okWide P W r bs t v) : v.cells.toList = [v] := by
  cases n with
  | zero => unfold tyOK at hT; cases hT
  | succ n =>
    unfold tyOK at hT
    unfold Value.okWide at h
    cases v with
    | agg cs =>
      exfalso
      split at hT <;> rename_i hu <;> first | (rw [hu] at h; simp only [] at h; unfold Cell.okWide at h; rw [hu] at h; unfold Cell.ok at h; rw [hu] at h; simp at h) | cases h1 | cases hT
    | _ => rfl
theorem okWide_agg {n : Nat} {T : Ty} {t : TypeId} {v : Value} {r : Reach} {bs : Nat} (hT : tyOK P n T t = true) (h1 : T.one = false) (h : Value.okWide P W r bs t v) : ∃ cs, v = .agg cs := by
  cases n with
  | zero => unfold tyOK at hT; cases hT
  | succ n =>
    unfold tyOK at hT
    unfold Value.okWide at h
    split at hT <;> rename_i hu <;> first | (rw [hu] at h; obtain ⟨cs, h, _⟩ := h; exact ⟨cs, h⟩) | cases h1 | cases hT
/-- an argument -/
theorem open_arg {n : Nat} {T : Ty} {t : TypeId} {v : Value} {d : DataW H} {ps : List MemPlace} {r : Reach} {bs : Nat} (hT : tyOK P n T t = true) (hsp : ∀ b, sp b = true) (hok : Value.okWide P W r bs t v) (h : DataW.Trod enc P W base sp hd t v d ps) : ∃ x, RelF (fun _ => False) W (enc1 T x) v ∧ wfT T x := by
  obtain ⟨fuel, hf⟩ := h
  obtain ⟨x, hx, hw⟩ := open_ty n T t fuel _ _ hT hsp hf
  refine ⟨x, ?_, hw⟩
  by_cases h1 : T.one = true
  · obtain ⟨e1, e2⟩ := encC_one T x h1
    exact hx.2 0 _ v (by rw [e1]; rfl) (by rw [okWide_cell hT h1 hok]; rfl)
  · obtain ⟨cs, rfl⟩ := okWide_agg hT (by simpa using h1) hok
    rw [enc1_agg T x (by simpa using h1)]
    have hl : cs.toList.length = (encC T x).length := by rw [encC_length]; exact hx.1
    have := RelF.agg (O := fun _ => False) (w := W) (encC T x) cs.toList hl (encC_cell T x) (fun j y u hy hu => hx.2 j y u hy hu)
    simpa using this
end
end Go.Proofs.YtjjplipoacljoaaDoor.AI
namespace Go.Proofs.YtjjplipoacljoaaDoor.AI
open Go.RowKit

theorem run_law {P : Program} {f : FuncId} {pre : Tm} {m : pre.ty.den → Option (Tm.ty ⟨[.d .bool], []⟩).den} (sp : Holds P f ⟨pre, ⟨[.d .bool], []⟩, m⟩) (h0 : pre.bs.length = 0) {x : pre.ty.den} (hx : m x = some true) {vs : List TV} {hp : THeap} (hi : instT pre x = some (vs, hp)) {la : List AV} (hla : erVs hp vs = some la)
    {W : World} {us : List Value} (hg : ∀ g cells, G g = some cells → RelF (fun _ => False) W (.ptr cells 0) (.pointer (some ⟨g, 0, none⟩))) (hrel : RelL (fun _ => none) (fun _ => False) W la us) :
    Calls P f us.toArray W fun e w' => e = .returned (.bool true) ∧ Below W.heap.size W w' := by
  obtain ⟨l1, I⟩ := instT_ok hi
  obtain ⟨l2, J⟩ := instT_ok (t := ⟨[.d .bool], []⟩) (x := true) (vs := [.f .bool true]) (h1 := PT.leaf) rfl
  have hn : erHF hp = fun _ => none := by
    funext n
    cases hb : erHF hp n with
    | none => rfl
    | some b =>
      obtain ⟨i, c, rfl, h1, _⟩ := erHF_some hb
      have := I.lt_len h1
      omega
  have own0 : ∀ (φ : PM) k, ¬ own φ (erHF hp) k := by rintro φ k ⟨i, b, h1, _⟩; rw [hn] at h1; cases h1
  have htot : tot (fun _ => False) (fun _ => none) (erHF hp) = fun _ => False := by
    funext k; exact propext ⟨fun h => h.elim id fun h => absurd h (own0 _ k), fun h => h.elim⟩
  refine Calls.mono (sp.calls x true hx vs hp l1 _ PT.leaf l2 la _ I J hla rfl (fun _ => none) (fun _ => False) W us ⟨(fun i j b b' k h1 => by rw [hn] at h1; cases h1), (fun i b h1 => by rw [hn] at h1; cases h1), (fun k h => h.elim), (fun g cells h => by rw [htot]; exact hg g cells h)⟩ (by rw [htot]; exact hrel) (fun n k h => by cases h)) ?_
  rintro en w' ⟨v, φ', rfl, he, _, _, _, hv⟩
  refine ⟨?_, ⟨he.os, he.tape, he.output, he.size, fun k hk => he.blk k hk (own0 _ k)⟩⟩
  have hv : RelV φ' _ w' (.f (.raw (.bool true))) v := hv
  cases hv with
  | f h => cases h; rfl

theorem gKw : Tryd.prog.globalNamed "interleave/token.keywords" = some 0 := by kernel_rfl
theorem tKw : (Tryd.prog.globals[0]?).map (·.type) = some 145 := by kernel_rfl
/-- what the row lists of token.keywords, as cells -/
theorem kw_of_laid {W : World} (h : laidMetH Tryd.prog [("interleave/token.keywords", Rows.laid_interleave_token_keywords)] W) : ∀ g cells, G g = some cells → RelF (fun _ => False) W (.ptr cells 0) (.pointer (some ⟨g, 0, none⟩)) := by
  intro g cells hG
  unfold G at hG
  split at hG
  · rename_i hg
    have hg := eq_of_beq hg
    subst hg
    cases hG
    rw [MakeChecks.laidMetH_plain _ _ _ (by kernel_rfl)] at h
    obtain ⟨ps, ⟨g0, t0, cs0, f0, p0, q0, hg0, ht0, hv0, hd0, _, _⟩, _, _⟩ := h
    obtain rfl := Option.some.inj (gKw.symm.trans hg0)
    obtain rfl := Option.some.inj (tKw.symm.trans ht0)
    obtain ⟨xs, m1, rfl, hx1, hlen, hn, hel⟩ := DataW.trod_array Tryd.underlying145 hd0
    have c1 : Tryd.prog.cellsOf 9 = 1 := by kernel_rfl
    have c22 : Tryd.prog.cellsOf 145 = 22 := by kernel_rfl
    rw [c22] at hlen
    simp only [Prod.mk.injEq, Rows.laid_interleave_token_keywords, DataW.agg.injEq] at hx1
    have hxs := hx1.1
    have hcell : ∀ j, j < 22 → ∃ l, (xs.map (·.1))[j]? = some (.lit (.string l)) ∧ W.cell? ⟨0, j, none⟩ = some (.string ⟨l.toArray⟩) := fun j hj => by
      have h1 := hel j hj
      rw [c1, Nat.mul_one] at h1
      rw [List.getElem?_eq_getElem (by omega)] at h1
      obtain ⟨s, e1, e2, _⟩ := DataW.trod_string Tryd.underlying9 h1
      refine ⟨s.data.toList, ?_, ?_⟩
      · rw [List.getElem?_map, List.getElem?_eq_getElem (by omega), Option.map_some, e2]
      · have := World.var?_cell hg0 hv0 j
        rw [this]
        have h2 : cs0.toList[j]? = some (.string s) := by
          have : ((cs0.toList.drop j).take 1)[0]? = some (.string s) := by rw [e1]; rfl
          rw [List.getElem?_take, if_pos (by omega), List.getElem?_drop] at this
          simpa using this
        rw [← Array.getElem?_toList, h2]
    have hb : 0 < W.heap.size := by
      obtain ⟨l, _, h2⟩ := hcell 0 (by omega)
      exact World.block_lt_of_cell? W _ h2
    refine .ptr kwCells 0 0 0 (fun j => (W.cell? ⟨0, j, none⟩).getD undef) (fun h => h) hb (fun x hx => ?_) (fun j hj => ?_) (fun j x hx => ?_)
    · simp only [kwCells, List.mem_cons, List.not_mem_nil, or_false] at hx
      rcases hx with rfl | rfl | rfl | rfl | rfl | rfl | rfl | rfl | rfl | rfl | rfl | rfl | rfl | rfl | rfl | rfl | rfl | rfl | rfl | rfl | rfl | rfl <;> rfl
    · obtain ⟨l, _, h2⟩ := hcell j hj
      rw [Nat.zero_add, h2]; rfl
    · have hj : j < 22 := (List.getElem?_eq_some_iff.1 hx).1
      obtain ⟨l, h1, h2⟩ := hcell j hj
      rw [← hxs] at h1
      have : x = .raw (.string ⟨l.toArray⟩) := by
        rcases j with _ | _ | _ | _ | _ | _ | _ | _ | _ | _ | _ | _ | _ | _ | _ | _ | _ | _ | _ | _ | _ | _ | j
        all_goals first | (simp only [List.getElem?_cons_zero, List.getElem?_cons_succ, Option.some.injEq, DataW.lit.injEq, Lit.string.injEq, kwCells] at h1 hx; subst h1; subst hx; rfl) | omega
      rw [this, h2]; exact .raw _
  · cases hG
end Go.Proofs.YtjjplipoacljoaaDoor.AI
namespace Go.Proofs.YtjjplipoacljoaaDoor.AI
set_option maxRecDepth 100000
set_option maxHeartbeats 4000000
/-- interleave/clock.At -/
noncomputable def mclock_At (x : (List Int) × Int) : Option (Int) :=
  (jn (α := Bool) (bcase (ilt x.2 0) (some (Sum.inr true)) (some (Sum.inr (ile (Int.ofNat (List.length x.1)) x.2)))) fun x1 => (bcase x1 (some 0) (chk (inB x.2 (List.length x.1)) fun _ => (some (geti (T := (.int .i64)) x.1 x.2)))))
/-- interleave/clock.Join -/
noncomputable def gclock_Join (it : Itr) (x : (List Int) × List Int) : Option (List Int) :=
  (chk (ile 0 (imax (Int.ofNat (List.length x.1)) (Int.ofNat (List.length x.2))) && ile (imax (Int.ofNat (List.length x.1)) (Int.ofNat (List.length x.2))) (imax (Int.ofNat (List.length x.1)) (Int.ofNat (List.length x.2))) && roomy (Int.toNat (imax (Int.ofNat (List.length x.1)) (Int.ofNat (List.length x.2)))) 8) fun _ => (it (Int × List Int) _ (fun x1 => (bcase (ilt x1.1 (Int.ofNat (List.length (List.replicate (Int.toNat (imax (Int.ofNat (List.length x.1)) (Int.ofNat (List.length x.2)))) (0 : Int))))) (obind (mclock_At (x.1, x1.1)) fun y2 => (obind (mclock_At (x.2, x1.1)) fun y3 => (chk (inB x1.1 (List.length x1.2)) fun _ => (chk (inB x1.1 (List.length x1.2)) fun _ => (some (Sum.inl ((wrapK .i64 (x1.1 + 1)), (seti x1.2 x1.1 (imax y2 y3))))))))) (some (Sum.inr x1.2)))) (0, (List.replicate (Int.toNat (imax (Int.ofNat (List.length x.1)) (Int.ofNat (List.length x.2)))) (0 : Int)))))
noncomputable def nclock_Join (x : (List Int) × List Int) : Option (List Int) := gclock_Join @iter x
noncomputable def mclock_Join (x : (List Int) × List Int) : Option (List Int) := gclock_Join @iterC x
/-- interleave/clock.Tick -/
noncomputable def mclock_Tick (x : (List Int) × Int) : Option (List Int) :=
  (jn (α := Bool) (bcase (ile 0 x.2) (some (Sum.inr (ilt x.2 4))) (some (Sum.inr false))) fun x1 => (jn (α := Int) (bcase x1 (some (Sum.inr (imax (Int.ofNat (List.length x.1)) (wrapK .i64 (x.2 + 1))))) (some (Sum.inr (Int.ofNat (List.length x.1))))) fun x2 => (chk (ile 0 x2 && ile x2 x2 && roomy (Int.toNat x2) 8) fun _ => (jn (α := List Int) (jn (α := Bool × List Int) (bcase x1 (chk (inB x.2 (List.length (cpy (List.replicate (Int.toNat x2) (0 : Int)) x.1))) fun _ => (chk (inB x.2 (List.length (cpy (List.replicate (Int.toNat x2) (0 : Int)) x.1))) fun _ => (some (Sum.inr ((ilt (geti (T := (.int .i64)) (cpy (List.replicate (Int.toNat x2) (0 : Int)) x.1) x.2) 9223372036854775807), (cpy (List.replicate (Int.toNat x2) (0 : Int)) x.1)))))) (some (Sum.inr (false, (cpy (List.replicate (Int.toNat x2) (0 : Int)) x.1))))) fun x4 => (bcase x4.1 (chk (inB x.2 (List.length x4.2)) fun _ => (chk (inB x.2 (List.length x4.2)) fun _ => (chk (inB x.2 (List.length x4.2)) fun _ => (chk (inB x.2 (List.length x4.2)) fun _ => (some (Sum.inr (seti x4.2 x.2 (wrapK .i64 ((geti (T := (.int .i64)) x4.2 x.2) + 1))))))))) (some (Sum.inr x4.2)))) fun x3 => (some x3)))))
/-- interleave/interleaveref22.At -/
noncomputable def mr22_At (x : (List Int) × Int) : Option (Int) :=
  (jn (α := Bool) (bcase (ilt x.2 0) (some (Sum.inr true)) (some (Sum.inr (ile (Int.ofNat (List.length x.1)) x.2)))) fun x1 => (bcase x1 (some 0) (chk (inB x.2 (List.length x.1)) fun _ => (some (geti (T := (.int .i64)) x.1 x.2)))))
/-- interleave/interleaveref22.Join -/
noncomputable def gr22_Join (it : Itr) (x : (List Int) × List Int) : Option (List Int) :=
  (chk (ile 0 (imax (Int.ofNat (List.length x.1)) (Int.ofNat (List.length x.2))) && ile (imax (Int.ofNat (List.length x.1)) (Int.ofNat (List.length x.2))) (imax (Int.ofNat (List.length x.1)) (Int.ofNat (List.length x.2))) && roomy (Int.toNat (imax (Int.ofNat (List.length x.1)) (Int.ofNat (List.length x.2)))) 8) fun _ => (it (Int × List Int) _ (fun x1 => (bcase (ilt x1.1 (Int.ofNat (List.length (List.replicate (Int.toNat (imax (Int.ofNat (List.length x.1)) (Int.ofNat (List.length x.2)))) (0 : Int))))) (obind (mr22_At (x.1, x1.1)) fun y2 => (obind (mr22_At (x.2, x1.1)) fun y3 => (chk (inB x1.1 (List.length x1.2)) fun _ => (chk (inB x1.1 (List.length x1.2)) fun _ => (some (Sum.inl ((wrapK .i64 (x1.1 + 1)), (seti x1.2 x1.1 (imax y2 y3))))))))) (some (Sum.inr x1.2)))) (0, (List.replicate (Int.toNat (imax (Int.ofNat (List.length x.1)) (Int.ofNat (List.length x.2)))) (0 : Int)))))
noncomputable def nr22_Join (x : (List Int) × List Int) : Option (List Int) := gr22_Join @iter x
noncomputable def mr22_Join (x : (List Int) × List Int) : Option (List Int) := gr22_Join @iterC x
/-- slices.Clone[[]int,int] -/
noncomputable def mClone0 (x : List Int) : Option (List Int) :=
  (bcase (Nat.beq (List.length x) 0) (both (some ([] : List Int)) (chk (roomy (List.length ([] : List Int) + List.length x) 8) fun _ => (some (([] : List Int) ++ x)))) (chk (roomy (List.length ([] : List Int) + List.length x) 8) fun _ => (some (([] : List Int) ++ x))))
def mClone (x : List Int) : Option (List Int) := chk (roomy (List.length x) 8) fun _ => some x
/-- interleave/hb.copies -/
noncomputable def ghb_copies (it : Itr) (x : List (List Int)) : Option (List (List Int)) :=
  (chk (ile 0 (Int.ofNat (List.length x)) && ile (Int.ofNat (List.length x)) (Int.ofNat (List.length x)) && roomy (Int.toNat (Int.ofNat (List.length x))) 24) fun _ => (it (Int × List (List Int)) _ (fun x1 => (bcase (ilt x1.1 (Int.ofNat (List.length x))) (chk (inB x1.1 (List.length x)) fun _ => (obind (mClone (geti (T := (.sl (.int .i64))) x x1.1)) fun y2 => (chk (inB x1.1 (List.length x1.2)) fun _ => (chk (inB x1.1 (List.length x1.2)) fun _ => (some (Sum.inl ((wrapK .i64 (x1.1 + 1)), (seti x1.2 x1.1 y2)))))))) (some (Sum.inr x1.2)))) (0, (List.replicate (Int.toNat (Int.ofNat (List.length x))) ([] : List Int)))))
noncomputable def nhb_copies (x : List (List Int)) : Option (List (List Int)) := ghb_copies @iter x
noncomputable def mhb_copies (x : List (List Int)) : Option (List (List Int)) := ghb_copies @iterC x
/-- slices.Clone[[]int,int] -/
noncomputable def mCloneO0 (x : List Int) : Option (List Int) :=
  (bcase (Nat.beq (List.length x) 0) (both (some ([] : List Int)) (chk (roomy (List.length ([] : List Int) + List.length x) 8) fun _ => (some (([] : List Int) ++ x)))) (chk (roomy (List.length ([] : List Int) + List.length x) 8) fun _ => (some (([] : List Int) ++ x))))
def mCloneO (x : List Int) : Option (List Int) := chk (roomy (List.length x) 8) fun _ => some x
/-- interleave/hb.copied -/
noncomputable def mhb_copied (x : (List (List Int)) × (List (List Int)) × (List (List Int)) × (List (List Int)) × (List (List Int)) × (List (List Int)) × (List Int) × (List (List Int)) × List Int) : Option ((List Int) × (List (List Int)) × (List (List Int)) × (List (List Int)) × (List (List Int)) × (List (List Int)) × (List (List Int)) × (List (List Int)) × List Int) :=
  (obind (mhb_copies x.1) fun y1 => (obind (mhb_copies x.2.1) fun y2 => (obind (mhb_copies x.2.2.1) fun y3 => (obind (mhb_copies x.2.2.2.1) fun y4 => (obind (mhb_copies x.2.2.2.2.1) fun y5 => (obind (mhb_copies x.2.2.2.2.2.1) fun y6 => (obind (mCloneO x.2.2.2.2.2.2.1) fun y7 => (obind (mhb_copies x.2.2.2.2.2.2.2.1) fun y8 => (obind (mCloneO x.2.2.2.2.2.2.2.2) fun y9 => (some (y7, y1, y2, y3, y4, y5, y6, y8, y9)))))))))))
/-- interleave/hb.entry -/
noncomputable def mhb_entry (x : Int × List (List Int)) : Option ((List Int) × List (List Int)) :=
  (jn (α := Bool × List (List Int)) (bcase (ilt x.1 0) (some (Sum.inr (true, x.2))) (some (Sum.inr ((ile (Int.ofNat (List.length x.2)) x.1), x.2)))) fun x1 => (bcase x1.1 (some (([] : List Int), x1.2)) (chk (inB x.1 (List.length x1.2)) fun _ => (chk (inB x.1 (List.length x1.2)) fun _ => (some ((geti (T := (.sl (.int .i64))) x1.2 x.1), x1.2))))))
/-- interleave/hb.joinAt -/
noncomputable def mhb_joinAt (x : (Int × List Int) × List (List Int)) : Option (List (List Int)) :=
  (jn (α := Bool × List (List Int)) (bcase (ile 0 x.1.1) (some (Sum.inr ((ilt x.1.1 (Int.ofNat (List.length x.2))), x.2))) (some (Sum.inr (false, x.2)))) fun x1 => (bcase x1.1 (chk (inB x.1.1 (List.length x1.2)) fun _ => (chk (inB x.1.1 (List.length x1.2)) fun _ => (obind (mclock_Join ((geti (T := (.sl (.int .i64))) x1.2 x.1.1), x.1.2)) fun y2 => (chk (inB x.1.1 (List.length x1.2)) fun _ => (chk (inB x.1.1 (List.length x1.2)) fun _ => (some (seti x1.2 x.1.1 y2))))))) (some x1.2)))
/-- interleave/hb.wake -/
noncomputable def mhb_wake (x : (Int × List Int) × (List Int) × (List (List Int)) × (List (List Int)) × (List (List Int)) × (List (List Int)) × (List (List Int)) × (List (List Int)) × (List (List Int)) × List Int) : Option ((List Int) × (List (List Int)) × (List (List Int)) × (List (List Int)) × (List (List Int)) × (List (List Int)) × (List (List Int)) × (List (List Int)) × List Int) :=
  (obind (mClone x.1.2) fun y1 => (chk (inB x.1.1 (List.length x.2.2.2.2.2.2.2.2.1)) fun _ => (chk (inB x.1.1 (List.length x.2.2.2.2.2.2.2.2.1)) fun _ => (chk (inB x.1.1 (List.length x.2.2.2.2.2.2.2.2.2)) fun _ => (chk (inB x.1.1 (List.length x.2.2.2.2.2.2.2.2.2)) fun _ => (some (x.2.1, x.2.2.1, x.2.2.2.1, x.2.2.2.2.1, x.2.2.2.2.2.1, x.2.2.2.2.2.2.1, x.2.2.2.2.2.2.2.1, (seti x.2.2.2.2.2.2.2.2.1 x.1.1 y1), (seti x.2.2.2.2.2.2.2.2.2 x.1.1 (-1)))))))))
/-- interleave/hb.enter -/
noncomputable def ghb_enter (it : Itr) (x : (((List ((List UInt8) × Int × Int × Bool × Int)) × (List ((List UInt8) × Bool)) × (List ((List UInt8) × Int)) × (List (List UInt8)) × (List (List UInt8)) × List (Int × Int × Int)) × (Int × Int × Int × Int × Int × (List Int) × List Int) × List Int) × (List Int) × (List (List Int)) × (List (List Int)) × (List (List Int)) × (List (List Int)) × (List (List Int)) × (List (List Int)) × (List (List Int)) × List Int) : Option ((List Int) × (List (List Int)) × (List (List Int)) × (List (List Int)) × (List (List Int)) × (List (List Int)) × (List (List Int)) × (List (List Int)) × List Int) :=
  (obind (mClone x.1.2.2) fun y1 => (chk (inB x.1.2.1.1 (List.length x.2.2.1)) fun _ => (chk (inB x.1.2.1.1 (List.length x.2.2.1)) fun _ => (jn (α := (List Int) × (List (List Int)) × (List (List Int)) × (List (List Int)) × (List (List Int)) × (List (List Int)) × (List (List Int)) × (List (List Int)) × List Int) (bcase (decide ((x.1.2.1.2.1 : Int) = 20)) (obind (mClone x.1.2.2) fun y3 => (chk (inB x.1.2.1.2.2.1 (List.length x.2.2.2.1)) fun _ => (chk (inB x.1.2.1.2.2.1 (List.length x.2.2.2.1)) fun _ => (some (Sum.inr (x.2.1, (seti x.2.2.1 x.1.2.1.1 y1), (seti x.2.2.2.1 x.1.2.1.2.2.1 y3), x.2.2.2.2.1, x.2.2.2.2.2.1, x.2.2.2.2.2.2.1, x.2.2.2.2.2.2.2.1, x.2.2.2.2.2.2.2.2.1, x.2.2.2.2.2.2.2.2.2)))))) (jn (α := Bool × (List Int) × (List (List Int)) × (List (List Int)) × (List (List Int)) × (List (List Int)) × (List (List Int)) × (List (List Int)) × (List (List Int)) × (List Int) × ((List ((List UInt8) × Int × Int × Bool × Int)) × (List ((List UInt8) × Bool)) × (List ((List UInt8) × Int)) × (List (List UInt8)) × (List (List UInt8)) × List (Int × Int × Int)) × Int × Int × Int × Int × Int × (List Int) × List Int) (bcase (decide ((x.1.2.1.2.1 : Int) = 7)) (some (Sum.inr ((decide ((x.1.2.1.2.1 : Int) = 7)), x.2.1, (seti x.2.2.1 x.1.2.1.1 y1), x.2.2.2.1, x.2.2.2.2.1, x.2.2.2.2.2.1, x.2.2.2.2.2.2.1, x.2.2.2.2.2.2.2.1, x.2.2.2.2.2.2.2.2.1, x.2.2.2.2.2.2.2.2.2, (x.1.1.1, x.1.1.2.1, x.1.1.2.2.1, x.1.1.2.2.2.1, x.1.1.2.2.2.2.1, x.1.1.2.2.2.2.2), x.1.2.1.1, x.1.2.1.2.1, x.1.2.1.2.2.1, x.1.2.1.2.2.2.1, x.1.2.1.2.2.2.2.1, x.1.2.1.2.2.2.2.2.1, x.1.2.1.2.2.2.2.2.2))) (some (Sum.inr ((decide ((x.1.2.1.2.1 : Int) = 11)), x.2.1, (seti x.2.2.1 x.1.2.1.1 y1), x.2.2.2.1, x.2.2.2.2.1, x.2.2.2.2.2.1, x.2.2.2.2.2.2.1, x.2.2.2.2.2.2.2.1, x.2.2.2.2.2.2.2.2.1, x.2.2.2.2.2.2.2.2.2, (x.1.1.1, x.1.1.2.1, x.1.1.2.2.1, x.1.1.2.2.2.1, x.1.1.2.2.2.2.1, x.1.1.2.2.2.2.2), x.1.2.1.1, x.1.2.1.2.1, x.1.2.1.2.2.1, x.1.2.1.2.2.2.1, x.1.2.1.2.2.2.2.1, x.1.2.1.2.2.2.2.2.1, x.1.2.1.2.2.2.2.2.2)))) fun x4 => (bcase x4.1 (obind (mhb_joinAt ((x4.2.2.2.2.2.2.2.2.2.2.2.2.2.1, x.1.2.2), x4.2.2.2.2.1)) fun y5 => (chk (Nat.beq (List.length x4.2.2.2.2.1) (List.length y5) && true) fun _ => (some (Sum.inr (x4.2.1, x4.2.2.1, x4.2.2.2.1, y5, x4.2.2.2.2.2.1, x4.2.2.2.2.2.2.1, x4.2.2.2.2.2.2.2.1, x4.2.2.2.2.2.2.2.2.1, x4.2.2.2.2.2.2.2.2.2.1))))) (bcase (decide ((x.1.2.1.2.1 : Int) = 9)) (obind (mhb_joinAt ((x4.2.2.2.2.2.2.2.2.2.2.2.2.2.1, x.1.2.2), x4.2.2.2.2.2.1)) fun y6 => (chk (Nat.beq (List.length x4.2.2.2.2.2.1) (List.length y6) && true) fun _ => (some (Sum.inr (x4.2.1, x4.2.2.1, x4.2.2.2.1, x4.2.2.2.2.1, y6, x4.2.2.2.2.2.2.1, x4.2.2.2.2.2.2.2.1, x4.2.2.2.2.2.2.2.2.1, x4.2.2.2.2.2.2.2.2.2.1))))) (bcase (decide ((x.1.2.1.2.1 : Int) = 16)) (chk (inB x4.2.2.2.2.2.2.2.2.2.2.2.1 (List.length x4.2.2.2.2.2.2.2.2.2.1)) fun _ => (chk (inB x4.2.2.2.2.2.2.2.2.2.2.2.1 (List.length x4.2.2.2.2.2.2.2.2.2.1)) fun _ => (chk (inB x4.2.2.2.2.2.2.2.2.2.2.2.2.2.1 (List.length x4.2.2.2.2.2.2.2.2.2.2.1.2.2.1)) fun _ => (obind (mhb_joinAt (((geti (T := (.st (.pr .str (.int .i64)))) x4.2.2.2.2.2.2.2.2.2.2.1.2.2.1 x4.2.2.2.2.2.2.2.2.2.2.2.2.2.1).2, x.1.2.2), x4.2.2.2.2.1)) fun y7 => (chk (Nat.beq (List.length x4.2.2.2.2.1) (List.length y7) && true) fun _ => (some (Sum.inr (x4.2.1, x4.2.2.1, x4.2.2.2.1, y7, x4.2.2.2.2.2.1, x4.2.2.2.2.2.2.1, x4.2.2.2.2.2.2.2.1, x4.2.2.2.2.2.2.2.2.1, (seti x4.2.2.2.2.2.2.2.2.2.1 x4.2.2.2.2.2.2.2.2.2.2.2.1 x4.2.2.2.2.2.2.2.2.2.2.2.2.2.1))))))))) (bcase (decide ((x.1.2.1.2.1 : Int) = 4)) (chk (inB x4.2.2.2.2.2.2.2.2.2.2.2.2.2.1 (List.length x4.2.2.2.2.2.2.2.2.2.2.1.1)) fun _ => (bcase (((((geti (T := (.st (.pr .str (.pr (.int .i64) (.pr (.int .i64) (.pr .bool (.int .i64))))))) x4.2.2.2.2.2.2.2.2.2.2.1.1 x4.2.2.2.2.2.2.2.2.2.2.2.2.2.1).2).2).2).1) (obind (mhb_joinAt ((x4.2.2.2.2.2.2.2.2.2.2.2.2.2.1, x.1.2.2), x4.2.2.2.2.2.2.1)) fun y8 => (chk (Nat.beq (List.length x4.2.2.2.2.2.2.1) (List.length y8) && true) fun _ => (some (Sum.inr (x4.2.1, x4.2.2.1, x4.2.2.2.1, x4.2.2.2.2.1, x4.2.2.2.2.2.1, y8, x4.2.2.2.2.2.2.2.1, x4.2.2.2.2.2.2.2.2.1, x4.2.2.2.2.2.2.2.2.2.1))))) (some (Sum.inr (x4.2.1, x4.2.2.1, x4.2.2.2.1, x4.2.2.2.2.1, x4.2.2.2.2.2.1, x4.2.2.2.2.2.2.1, x4.2.2.2.2.2.2.2.1, x4.2.2.2.2.2.2.2.2.1, x4.2.2.2.2.2.2.2.2.2.1))))) (bcase (decide ((x.1.2.1.2.1 : Int) = 22)) (obind (mhb_joinAt ((x4.2.2.2.2.2.2.2.2.2.2.2.2.2.1, x.1.2.2), x4.2.2.2.2.2.2.2.1)) fun y9 => (chk (Nat.beq (List.length x4.2.2.2.2.2.2.2.1) (List.length y9) && true) fun _ => (some (Sum.inr (x4.2.1, x4.2.2.1, x4.2.2.2.1, x4.2.2.2.2.1, x4.2.2.2.2.2.1, x4.2.2.2.2.2.2.1, y9, x4.2.2.2.2.2.2.2.2.1, x4.2.2.2.2.2.2.2.2.2.1))))) (bcase (decide ((x.1.2.1.2.1 : Int) = 13)) (obind (mclock_Join (x4.2.1, x.1.2.2)) fun y10 => (some (Sum.inr (y10, x4.2.2.1, x4.2.2.2.1, x4.2.2.2.2.1, x4.2.2.2.2.2.1, x4.2.2.2.2.2.2.1, x4.2.2.2.2.2.2.2.1, x4.2.2.2.2.2.2.2.2.1, x4.2.2.2.2.2.2.2.2.2.1)))) (bcase (decide ((x.1.2.1.2.1 : Int) = 18)) (jn (α := Bool × (List Int) × (List (List Int)) × (List (List Int)) × (List (List Int)) × (List (List Int)) × (List (List Int)) × (List (List Int)) × (List (List Int)) × (List Int) × Int × Int × Int × Int × Int × (List Int) × List Int) (bcase (ile 0 x4.2.2.2.2.2.2.2.2.2.2.2.2.2.2.1) (some (Sum.inr ((ilt x4.2.2.2.2.2.2.2.2.2.2.2.2.2.2.1 (Int.ofNat (List.length x4.2.2.2.2.2.2.2.2.1))), x4.2.1, x4.2.2.1, x4.2.2.2.1, x4.2.2.2.2.1, x4.2.2.2.2.2.1, x4.2.2.2.2.2.2.1, x4.2.2.2.2.2.2.2.1, x4.2.2.2.2.2.2.2.2.1, x4.2.2.2.2.2.2.2.2.2.1, x4.2.2.2.2.2.2.2.2.2.2.2.1, x4.2.2.2.2.2.2.2.2.2.2.2.2.1, x4.2.2.2.2.2.2.2.2.2.2.2.2.2.1, x4.2.2.2.2.2.2.2.2.2.2.2.2.2.2.1, x4.2.2.2.2.2.2.2.2.2.2.2.2.2.2.2.1, x4.2.2.2.2.2.2.2.2.2.2.2.2.2.2.2.2.1, x4.2.2.2.2.2.2.2.2.2.2.2.2.2.2.2.2.2))) (some (Sum.inr (false, x4.2.1, x4.2.2.1, x4.2.2.2.1, x4.2.2.2.2.1, x4.2.2.2.2.2.1, x4.2.2.2.2.2.2.1, x4.2.2.2.2.2.2.2.1, x4.2.2.2.2.2.2.2.2.1, x4.2.2.2.2.2.2.2.2.2.1, x4.2.2.2.2.2.2.2.2.2.2.2.1, x4.2.2.2.2.2.2.2.2.2.2.2.2.1, x4.2.2.2.2.2.2.2.2.2.2.2.2.2.1, x4.2.2.2.2.2.2.2.2.2.2.2.2.2.2.1, x4.2.2.2.2.2.2.2.2.2.2.2.2.2.2.2.1, x4.2.2.2.2.2.2.2.2.2.2.2.2.2.2.2.2.1, x4.2.2.2.2.2.2.2.2.2.2.2.2.2.2.2.2.2)))) fun x11 => (bcase x11.1 (obind (mhb_wake ((x11.2.2.2.2.2.2.2.2.2.2.2.2.2.1, x.1.2.2), x11.2.1, x11.2.2.1, x11.2.2.2.1, x11.2.2.2.2.1, x11.2.2.2.2.2.1, x11.2.2.2.2.2.2.1, x11.2.2.2.2.2.2.2.1, x11.2.2.2.2.2.2.2.2.1, x11.2.2.2.2.2.2.2.2.2.1)) fun y12 => (chk (Nat.beq (List.length x11.2.2.2.2.2.2.2.2.2.1) (List.length y12.2.2.2.2.2.2.2.2) && (Nat.beq (List.length x11.2.2.2.2.2.2.2.2.1) (List.length y12.2.2.2.2.2.2.2.1) && (Nat.beq (List.length x11.2.2.2.2.2.2.2.1) (List.length y12.2.2.2.2.2.2.1) && (Nat.beq (List.length x11.2.2.2.2.2.2.1) (List.length y12.2.2.2.2.2.1) && (Nat.beq (List.length x11.2.2.2.2.2.1) (List.length y12.2.2.2.2.1) && (Nat.beq (List.length x11.2.2.2.2.1) (List.length y12.2.2.2.1) && (Nat.beq (List.length x11.2.2.2.1) (List.length y12.2.2.1) && (Nat.beq (List.length x11.2.2.1) (List.length y12.2.1) && true)))))))) fun _ => (some (Sum.inr (y12.1, y12.2.1, y12.2.2.1, y12.2.2.2.1, y12.2.2.2.2.1, y12.2.2.2.2.2.1, y12.2.2.2.2.2.2.1, y12.2.2.2.2.2.2.2.1, y12.2.2.2.2.2.2.2.2))))) (some (Sum.inr (x11.2.1, x11.2.2.1, x11.2.2.2.1, x11.2.2.2.2.1, x11.2.2.2.2.2.1, x11.2.2.2.2.2.2.1, x11.2.2.2.2.2.2.2.1, x11.2.2.2.2.2.2.2.2.1, x11.2.2.2.2.2.2.2.2.2.1))))) (bcase (decide ((x.1.2.1.2.1 : Int) = 19)) (it (Int × (List Int) × (List (List Int)) × (List (List Int)) × (List (List Int)) × (List (List Int)) × (List (List Int)) × (List (List Int)) × (List (List Int)) × (List Int) × Int × Int × Int × Int × Int × (List Int) × List Int) _ (fun x13 => (bcase (ilt x13.1 (Int.ofNat (List.length x4.2.2.2.2.2.2.2.2.2.1))) (jn (α := (List Int) × (List (List Int)) × (List (List Int)) × (List (List Int)) × (List (List Int)) × (List (List Int)) × (List (List Int)) × (List (List Int)) × (List Int) × Int × Int × Int × Int × Int × (List Int) × List Int) (chk (inB x13.1 (List.length x13.2.2.2.2.2.2.2.2.2.1)) fun _ => (chk (inB x13.1 (List.length x13.2.2.2.2.2.2.2.2.2.1)) fun _ => (bcase (decide (((geti (T := (.int .i64)) x13.2.2.2.2.2.2.2.2.2.1 x13.1) : Int) = x13.2.2.2.2.2.2.2.2.2.2.2.2.1)) (obind (mhb_wake ((x13.1, x.1.2.2), x13.2.1, x13.2.2.1, x13.2.2.2.1, x13.2.2.2.2.1, x13.2.2.2.2.2.1, x13.2.2.2.2.2.2.1, x13.2.2.2.2.2.2.2.1, x13.2.2.2.2.2.2.2.2.1, x13.2.2.2.2.2.2.2.2.2.1)) fun y15 => (chk (Nat.beq (List.length x13.2.2.2.2.2.2.2.2.2.1) (List.length y15.2.2.2.2.2.2.2.2) && (Nat.beq (List.length x13.2.2.2.2.2.2.2.2.1) (List.length y15.2.2.2.2.2.2.2.1) && (Nat.beq (List.length x13.2.2.2.2.2.2.2.1) (List.length y15.2.2.2.2.2.2.1) && (Nat.beq (List.length x13.2.2.2.2.2.2.1) (List.length y15.2.2.2.2.2.1) && (Nat.beq (List.length x13.2.2.2.2.2.1) (List.length y15.2.2.2.2.1) && (Nat.beq (List.length x13.2.2.2.2.1) (List.length y15.2.2.2.1) && (Nat.beq (List.length x13.2.2.2.1) (List.length y15.2.2.1) && (Nat.beq (List.length x13.2.2.1) (List.length y15.2.1) && true)))))))) fun _ => (some (Sum.inr (y15.1, y15.2.1, y15.2.2.1, y15.2.2.2.1, y15.2.2.2.2.1, y15.2.2.2.2.2.1, y15.2.2.2.2.2.2.1, y15.2.2.2.2.2.2.2.1, y15.2.2.2.2.2.2.2.2, x13.2.2.2.2.2.2.2.2.2.2.1, x13.2.2.2.2.2.2.2.2.2.2.2.1, x13.2.2.2.2.2.2.2.2.2.2.2.2.1, x13.2.2.2.2.2.2.2.2.2.2.2.2.2.1, x13.2.2.2.2.2.2.2.2.2.2.2.2.2.2.1, x13.2.2.2.2.2.2.2.2.2.2.2.2.2.2.2.1, x13.2.2.2.2.2.2.2.2.2.2.2.2.2.2.2.2))))) (some (Sum.inr (x13.2.1, x13.2.2.1, x13.2.2.2.1, x13.2.2.2.2.1, x13.2.2.2.2.2.1, x13.2.2.2.2.2.2.1, x13.2.2.2.2.2.2.2.1, x13.2.2.2.2.2.2.2.2.1, x13.2.2.2.2.2.2.2.2.2.1, x13.2.2.2.2.2.2.2.2.2.2.1, x13.2.2.2.2.2.2.2.2.2.2.2.1, x13.2.2.2.2.2.2.2.2.2.2.2.2.1, x13.2.2.2.2.2.2.2.2.2.2.2.2.2.1, x13.2.2.2.2.2.2.2.2.2.2.2.2.2.2.1, x13.2.2.2.2.2.2.2.2.2.2.2.2.2.2.2.1, x13.2.2.2.2.2.2.2.2.2.2.2.2.2.2.2.2)))))) fun x14 => (some (Sum.inl ((wrapK .i64 (x13.1 + 1)), x14.1, x14.2.1, x14.2.2.1, x14.2.2.2.1, x14.2.2.2.2.1, x14.2.2.2.2.2.1, x14.2.2.2.2.2.2.1, x14.2.2.2.2.2.2.2.1, x14.2.2.2.2.2.2.2.2.1, x14.2.2.2.2.2.2.2.2.2.1, x14.2.2.2.2.2.2.2.2.2.2.1, x14.2.2.2.2.2.2.2.2.2.2.2.1, x14.2.2.2.2.2.2.2.2.2.2.2.2.1, x14.2.2.2.2.2.2.2.2.2.2.2.2.2.1, x14.2.2.2.2.2.2.2.2.2.2.2.2.2.2.1, x14.2.2.2.2.2.2.2.2.2.2.2.2.2.2.2)))) (some (Sum.inr (Sum.inr (x13.2.1, x13.2.2.1, x13.2.2.2.1, x13.2.2.2.2.1, x13.2.2.2.2.2.1, x13.2.2.2.2.2.2.1, x13.2.2.2.2.2.2.2.1, x13.2.2.2.2.2.2.2.2.1, x13.2.2.2.2.2.2.2.2.2.1)))))) (0, x4.2.1, x4.2.2.1, x4.2.2.2.1, x4.2.2.2.2.1, x4.2.2.2.2.2.1, x4.2.2.2.2.2.2.1, x4.2.2.2.2.2.2.2.1, x4.2.2.2.2.2.2.2.2.1, x4.2.2.2.2.2.2.2.2.2.1, x4.2.2.2.2.2.2.2.2.2.2.2.1, x4.2.2.2.2.2.2.2.2.2.2.2.2.1, x4.2.2.2.2.2.2.2.2.2.2.2.2.2.1, x4.2.2.2.2.2.2.2.2.2.2.2.2.2.2.1, x4.2.2.2.2.2.2.2.2.2.2.2.2.2.2.2.1, x4.2.2.2.2.2.2.2.2.2.2.2.2.2.2.2.2.1, x4.2.2.2.2.2.2.2.2.2.2.2.2.2.2.2.2.2)) (some (Sum.inr (x4.2.1, x4.2.2.1, x4.2.2.2.1, x4.2.2.2.2.1, x4.2.2.2.2.2.1, x4.2.2.2.2.2.2.1, x4.2.2.2.2.2.2.2.1, x4.2.2.2.2.2.2.2.2.1, x4.2.2.2.2.2.2.2.2.2.1))))))))))))) fun x2 => (some (x2.1, x2.2.1, x2.2.2.1, x2.2.2.2.1, x2.2.2.2.2.1, x2.2.2.2.2.2.1, x2.2.2.2.2.2.2.1, x2.2.2.2.2.2.2.2.1, x2.2.2.2.2.2.2.2.2))))))
noncomputable def nhb_enter (x : (((List ((List UInt8) × Int × Int × Bool × Int)) × (List ((List UInt8) × Bool)) × (List ((List UInt8) × Int)) × (List (List UInt8)) × (List (List UInt8)) × List (Int × Int × Int)) × (Int × Int × Int × Int × Int × (List Int) × List Int) × List Int) × (List Int) × (List (List Int)) × (List (List Int)) × (List (List Int)) × (List (List Int)) × (List (List Int)) × (List (List Int)) × (List (List Int)) × List Int) : Option ((List Int) × (List (List Int)) × (List (List Int)) × (List (List Int)) × (List (List Int)) × (List (List Int)) × (List (List Int)) × (List (List Int)) × List Int) := ghb_enter @iter x
noncomputable def mhb_enter (x : (((List ((List UInt8) × Int × Int × Bool × Int)) × (List ((List UInt8) × Bool)) × (List ((List UInt8) × Int)) × (List (List UInt8)) × (List (List UInt8)) × List (Int × Int × Int)) × (Int × Int × Int × Int × Int × (List Int) × List Int) × List Int) × (List Int) × (List (List Int)) × (List (List Int)) × (List (List Int)) × (List (List Int)) × (List (List Int)) × (List (List Int)) × (List (List Int)) × List Int) : Option ((List Int) × (List (List Int)) × (List (List Int)) × (List (List Int)) × (List (List Int)) × (List (List Int)) × (List (List Int)) × (List (List Int)) × List Int) := ghb_enter @iterC x
/-- interleave/hb.Step$2 -/
noncomputable def mhb_Step_2 (x : (Int × Int × Int × Int × Int × (List Int) × List Int) × (List Int) × ((List ((List UInt8) × Int × Int × Bool × Int)) × (List ((List UInt8) × Bool)) × (List ((List UInt8) × Int)) × (List (List UInt8)) × (List (List UInt8)) × List (Int × Int × Int)) × (List (List Int)) × (List (List Int)) × (List (List Int)) × (List (List Int)) × (List (List Int)) × (List (List Int)) × (List (List Int)) × List Int) : Option ((List (List Int)) × (Int × Int × Int × Int × Int × (List Int) × List Int) × (List Int) × ((List ((List UInt8) × Int × Int × Bool × Int)) × (List ((List UInt8) × Bool)) × (List ((List UInt8) × Int)) × (List (List UInt8)) × (List (List UInt8)) × List (Int × Int × Int)) × (List (List Int)) × (List (List Int)) × (List (List Int)) × (List (List Int)) × (List (List Int)) × (List (List Int)) × (List (List Int)) × List Int) :=
  (bcase (decide ((x.1.2.1 : Int) = 1)) (chk (inB x.1.1 (List.length x.2.2.2.2.1)) fun _ => (chk (inB x.1.1 (List.length x.2.2.2.2.1)) fun _ => (some ([(geti (T := (.sl (.int .i64))) x.2.2.2.2.1 x.1.1)], (x.1.1, x.1.2.1, x.1.2.2.1, x.1.2.2.2.1, x.1.2.2.2.2.1, x.1.2.2.2.2.2.1, x.1.2.2.2.2.2.2), x.2.1, (x.2.2.1.1, x.2.2.1.2.1, x.2.2.1.2.2.1, x.2.2.1.2.2.2.1, x.2.2.1.2.2.2.2.1, x.2.2.1.2.2.2.2.2), x.2.2.2.1, x.2.2.2.2.1, x.2.2.2.2.2.1, x.2.2.2.2.2.2.1, x.2.2.2.2.2.2.2.1, x.2.2.2.2.2.2.2.2.1, x.2.2.2.2.2.2.2.2.2.1, x.2.2.2.2.2.2.2.2.2.2)))) (bcase (decide ((x.1.2.1 : Int) = 21)) (chk (inB x.1.2.2.1 (List.length x.2.2.2.1)) fun _ => (chk (inB x.1.2.2.1 (List.length x.2.2.2.1)) fun _ => (some ([(geti (T := (.sl (.int .i64))) x.2.2.2.1 x.1.2.2.1)], (x.1.1, x.1.2.1, x.1.2.2.1, x.1.2.2.2.1, x.1.2.2.2.2.1, x.1.2.2.2.2.2.1, x.1.2.2.2.2.2.2), x.2.1, (x.2.2.1.1, x.2.2.1.2.1, x.2.2.1.2.2.1, x.2.2.1.2.2.2.1, x.2.2.1.2.2.2.2.1, x.2.2.1.2.2.2.2.2), x.2.2.2.1, x.2.2.2.2.1, x.2.2.2.2.2.1, x.2.2.2.2.2.2.1, x.2.2.2.2.2.2.2.1, x.2.2.2.2.2.2.2.2.1, x.2.2.2.2.2.2.2.2.2.1, x.2.2.2.2.2.2.2.2.2.2)))) (jn (α := Bool × (Int × Int × Int × Int × Int × (List Int) × List Int) × (List Int) × ((List ((List UInt8) × Int × Int × Bool × Int)) × (List ((List UInt8) × Bool)) × (List ((List UInt8) × Int)) × (List (List UInt8)) × (List (List UInt8)) × List (Int × Int × Int)) × (List (List Int)) × (List (List Int)) × (List (List Int)) × (List (List Int)) × (List (List Int)) × (List (List Int)) × (List (List Int)) × List Int) (bcase (decide ((x.1.2.1 : Int) = 6)) (some (Sum.inr ((decide ((x.1.2.1 : Int) = 6)), (x.1.1, x.1.2.1, x.1.2.2.1, x.1.2.2.2.1, x.1.2.2.2.2.1, x.1.2.2.2.2.2.1, x.1.2.2.2.2.2.2), x.2.1, (x.2.2.1.1, x.2.2.1.2.1, x.2.2.1.2.2.1, x.2.2.1.2.2.2.1, x.2.2.1.2.2.2.2.1, x.2.2.1.2.2.2.2.2), x.2.2.2.1, x.2.2.2.2.1, x.2.2.2.2.2.1, x.2.2.2.2.2.2.1, x.2.2.2.2.2.2.2.1, x.2.2.2.2.2.2.2.2.1, x.2.2.2.2.2.2.2.2.2.1, x.2.2.2.2.2.2.2.2.2.2))) (some (Sum.inr ((decide ((x.1.2.1 : Int) = 10)), (x.1.1, x.1.2.1, x.1.2.2.1, x.1.2.2.2.1, x.1.2.2.2.2.1, x.1.2.2.2.2.2.1, x.1.2.2.2.2.2.2), x.2.1, (x.2.2.1.1, x.2.2.1.2.1, x.2.2.1.2.2.1, x.2.2.1.2.2.2.1, x.2.2.1.2.2.2.2.1, x.2.2.1.2.2.2.2.2), x.2.2.2.1, x.2.2.2.2.1, x.2.2.2.2.2.1, x.2.2.2.2.2.2.1, x.2.2.2.2.2.2.2.1, x.2.2.2.2.2.2.2.2.1, x.2.2.2.2.2.2.2.2.2.1, x.2.2.2.2.2.2.2.2.2.2)))) fun x1 => (bcase x1.1 (chk (inB x1.2.1.2.2.1 (List.length x1.2.2.2.2.2.2.1)) fun _ => (chk (inB x1.2.1.2.2.1 (List.length x1.2.2.2.2.2.2.1)) fun _ => (chk (inB x1.2.1.2.2.1 (List.length x1.2.2.2.2.2.2.2.1)) fun _ => (chk (inB x1.2.1.2.2.1 (List.length x1.2.2.2.2.2.2.2.1)) fun _ => (some ([(geti (T := (.sl (.int .i64))) x1.2.2.2.2.2.2.1 x1.2.1.2.2.1), (geti (T := (.sl (.int .i64))) x1.2.2.2.2.2.2.2.1 x1.2.1.2.2.1)], (x1.2.1.1, x1.2.1.2.1, x1.2.1.2.2.1, x1.2.1.2.2.2.1, x1.2.1.2.2.2.2.1, x1.2.1.2.2.2.2.2.1, x1.2.1.2.2.2.2.2.2), x1.2.2.1, (x1.2.2.2.1.1, x1.2.2.2.1.2.1, x1.2.2.2.1.2.2.1, x1.2.2.2.1.2.2.2.1, x1.2.2.2.1.2.2.2.2.1, x1.2.2.2.1.2.2.2.2.2), x1.2.2.2.2.1, x1.2.2.2.2.2.1, x1.2.2.2.2.2.2.1, x1.2.2.2.2.2.2.2.1, x1.2.2.2.2.2.2.2.2.1, x1.2.2.2.2.2.2.2.2.2.1, x1.2.2.2.2.2.2.2.2.2.2.1, x1.2.2.2.2.2.2.2.2.2.2.2)))))) (bcase (decide ((x.1.2.1 : Int) = 8)) (chk (inB x1.2.1.2.2.1 (List.length x1.2.2.2.2.2.2.1)) fun _ => (chk (inB x1.2.1.2.2.1 (List.length x1.2.2.2.2.2.2.1)) fun _ => (some ([(geti (T := (.sl (.int .i64))) x1.2.2.2.2.2.2.1 x1.2.1.2.2.1)], (x1.2.1.1, x1.2.1.2.1, x1.2.1.2.2.1, x1.2.1.2.2.2.1, x1.2.1.2.2.2.2.1, x1.2.1.2.2.2.2.2.1, x1.2.1.2.2.2.2.2.2), x1.2.2.1, (x1.2.2.2.1.1, x1.2.2.2.1.2.1, x1.2.2.2.1.2.2.1, x1.2.2.2.1.2.2.2.1, x1.2.2.2.1.2.2.2.2.1, x1.2.2.2.1.2.2.2.2.2), x1.2.2.2.2.1, x1.2.2.2.2.2.1, x1.2.2.2.2.2.2.1, x1.2.2.2.2.2.2.2.1, x1.2.2.2.2.2.2.2.2.1, x1.2.2.2.2.2.2.2.2.2.1, x1.2.2.2.2.2.2.2.2.2.2.1, x1.2.2.2.2.2.2.2.2.2.2.2)))) (bcase (decide ((x.1.2.1 : Int) = 17)) (chk (inB x1.2.1.2.2.1 (List.length x1.2.2.2.1.2.2.1)) fun _ => (obind (mhb_entry ((geti (T := (.st (.pr .str (.int .i64)))) x1.2.2.2.1.2.2.1 x1.2.1.2.2.1).2, x1.2.2.2.2.2.2.1)) fun y2 => (chk (Nat.beq (List.length x1.2.2.2.2.2.2.1) (List.length y2.2) && true) fun _ => (obind (mhb_entry ((geti (T := (.st (.pr .str (.int .i64)))) x1.2.2.2.1.2.2.1 x1.2.1.2.2.1).2, x1.2.2.2.2.2.2.2.1)) fun y3 => (chk (Nat.beq (List.length x1.2.2.2.2.2.2.2.1) (List.length y3.2) && true) fun _ => (chk (inB x1.2.1.1 (List.length x1.2.2.2.2.2.2.2.2.2.2.1)) fun _ => (chk (inB x1.2.1.1 (List.length x1.2.2.2.2.2.2.2.2.2.2.1)) fun _ => (some ([y2.1, y3.1, (geti (T := (.sl (.int .i64))) x1.2.2.2.2.2.2.2.2.2.2.1 x1.2.1.1)], (x1.2.1.1, x1.2.1.2.1, x1.2.1.2.2.1, x1.2.1.2.2.2.1, x1.2.1.2.2.2.2.1, x1.2.1.2.2.2.2.2.1, x1.2.1.2.2.2.2.2.2), x1.2.2.1, (x1.2.2.2.1.1, x1.2.2.2.1.2.1, x1.2.2.2.1.2.2.1, x1.2.2.2.1.2.2.2.1, x1.2.2.2.1.2.2.2.2.1, x1.2.2.2.1.2.2.2.2.2), x1.2.2.2.2.1, x1.2.2.2.2.2.1, y2.2, y3.2, x1.2.2.2.2.2.2.2.2.1, x1.2.2.2.2.2.2.2.2.2.1, x1.2.2.2.2.2.2.2.2.2.2.1, x1.2.2.2.2.2.2.2.2.2.2.2))))))))) (bcase (decide ((x.1.2.1 : Int) = 3)) (chk (inB x1.2.1.2.2.1 (List.length x1.2.2.2.2.2.2.2.2.1)) fun _ => (chk (inB x1.2.1.2.2.1 (List.length x1.2.2.2.2.2.2.2.2.1)) fun _ => (some ([(geti (T := (.sl (.int .i64))) x1.2.2.2.2.2.2.2.2.1 x1.2.1.2.2.1)], (x1.2.1.1, x1.2.1.2.1, x1.2.1.2.2.1, x1.2.1.2.2.2.1, x1.2.1.2.2.2.2.1, x1.2.1.2.2.2.2.2.1, x1.2.1.2.2.2.2.2.2), x1.2.2.1, (x1.2.2.2.1.1, x1.2.2.2.1.2.1, x1.2.2.2.1.2.2.1, x1.2.2.2.1.2.2.2.1, x1.2.2.2.1.2.2.2.2.1, x1.2.2.2.1.2.2.2.2.2), x1.2.2.2.2.1, x1.2.2.2.2.2.1, x1.2.2.2.2.2.2.1, x1.2.2.2.2.2.2.2.1, x1.2.2.2.2.2.2.2.2.1, x1.2.2.2.2.2.2.2.2.2.1, x1.2.2.2.2.2.2.2.2.2.2.1, x1.2.2.2.2.2.2.2.2.2.2.2)))) (bcase (decide ((x.1.2.1 : Int) = 23)) (chk (inB x1.2.1.2.2.1 (List.length x1.2.2.2.2.2.2.2.2.2.1)) fun _ => (chk (inB x1.2.1.2.2.1 (List.length x1.2.2.2.2.2.2.2.2.2.1)) fun _ => (some ([(geti (T := (.sl (.int .i64))) x1.2.2.2.2.2.2.2.2.2.1 x1.2.1.2.2.1)], (x1.2.1.1, x1.2.1.2.1, x1.2.1.2.2.1, x1.2.1.2.2.2.1, x1.2.1.2.2.2.2.1, x1.2.1.2.2.2.2.2.1, x1.2.1.2.2.2.2.2.2), x1.2.2.1, (x1.2.2.2.1.1, x1.2.2.2.1.2.1, x1.2.2.2.1.2.2.1, x1.2.2.2.1.2.2.2.1, x1.2.2.2.1.2.2.2.2.1, x1.2.2.2.1.2.2.2.2.2), x1.2.2.2.2.1, x1.2.2.2.2.2.1, x1.2.2.2.2.2.2.1, x1.2.2.2.2.2.2.2.1, x1.2.2.2.2.2.2.2.2.1, x1.2.2.2.2.2.2.2.2.2.1, x1.2.2.2.2.2.2.2.2.2.2.1, x1.2.2.2.2.2.2.2.2.2.2.2)))) (bcase (decide ((x.1.2.1 : Int) = 12)) (some ([x1.2.2.1], (x1.2.1.1, x1.2.1.2.1, x1.2.1.2.2.1, x1.2.1.2.2.2.1, x1.2.1.2.2.2.2.1, x1.2.1.2.2.2.2.2.1, x1.2.1.2.2.2.2.2.2), x1.2.2.1, (x1.2.2.2.1.1, x1.2.2.2.1.2.1, x1.2.2.2.1.2.2.1, x1.2.2.2.1.2.2.2.1, x1.2.2.2.1.2.2.2.2.1, x1.2.2.2.1.2.2.2.2.2), x1.2.2.2.2.1, x1.2.2.2.2.2.1, x1.2.2.2.2.2.2.1, x1.2.2.2.2.2.2.2.1, x1.2.2.2.2.2.2.2.2.1, x1.2.2.2.2.2.2.2.2.2.1, x1.2.2.2.2.2.2.2.2.2.2.1, x1.2.2.2.2.2.2.2.2.2.2.2)) (some (([] : List (List Int)), (x1.2.1.1, x1.2.1.2.1, x1.2.1.2.2.1, x1.2.1.2.2.2.1, x1.2.1.2.2.2.2.1, x1.2.1.2.2.2.2.2.1, x1.2.1.2.2.2.2.2.2), x1.2.2.1, (x1.2.2.2.1.1, x1.2.2.2.1.2.1, x1.2.2.2.1.2.2.1, x1.2.2.2.1.2.2.2.1, x1.2.2.2.1.2.2.2.2.1, x1.2.2.2.1.2.2.2.2.2), x1.2.2.2.2.1, x1.2.2.2.2.2.1, x1.2.2.2.2.2.2.1, x1.2.2.2.2.2.2.2.1, x1.2.2.2.2.2.2.2.2.1, x1.2.2.2.2.2.2.2.2.2.1, x1.2.2.2.2.2.2.2.2.2.2.1, x1.2.2.2.2.2.2.2.2.2.2.2)))))))))))
/-- interleave/hb.Step -/
noncomputable def ghb_Step (it : Itr) (x : ((List ((List UInt8) × Int × Int × Bool × Int)) × (List ((List UInt8) × Bool)) × (List ((List UInt8) × Int)) × (List (List UInt8)) × (List (List UInt8)) × List (Int × Int × Int)) × ((List (List Int)) × (List (List Int)) × (List (List Int)) × (List (List Int)) × (List (List Int)) × (List (List Int)) × (List Int) × (List (List Int)) × List Int) × Int × Int × Int × Int × Int × (List Int) × List Int) : Option (((List (List Int)) × (List (List Int)) × (List (List Int)) × (List (List Int)) × (List (List Int)) × (List (List Int)) × (List Int) × (List (List Int)) × List Int) × List Int) :=
  (obind (mhb_copied (x.2.1.1, x.2.1.2.1, x.2.1.2.2.1, x.2.1.2.2.2.1, x.2.1.2.2.2.2.1, x.2.1.2.2.2.2.2.1, x.2.1.2.2.2.2.2.2.1, x.2.1.2.2.2.2.2.2.2.1, x.2.1.2.2.2.2.2.2.2.2)) fun y1 => (chk (inB x.2.2.1 (List.length y1.2.1)) fun _ => (chk (inB x.2.2.1 (List.length y1.2.1)) fun _ => (obind (mhb_Step_2 ((x.2.2.1, x.2.2.2.1, x.2.2.2.2.1, x.2.2.2.2.2.1, x.2.2.2.2.2.2.1, x.2.2.2.2.2.2.2.1, x.2.2.2.2.2.2.2.2), y1.1, (x.1.1, x.1.2.1, x.1.2.2.1, x.1.2.2.2.1, x.1.2.2.2.2.1, x.1.2.2.2.2.2), y1.2.1, y1.2.2.1, y1.2.2.2.1, y1.2.2.2.2.1, y1.2.2.2.2.2.1, y1.2.2.2.2.2.2.1, y1.2.2.2.2.2.2.2.1, y1.2.2.2.2.2.2.2.2)) fun y2 => (chk (Nat.beq (List.length y1.2.2.2.2.2.2.2.2) (List.length y2.2.2.2.2.2.2.2.2.2.2.2) && (Nat.beq (List.length y1.2.2.2.2.2.2.2.1) (List.length y2.2.2.2.2.2.2.2.2.2.2.1) && (Nat.beq (List.length y1.2.2.2.2.2.2.1) (List.length y2.2.2.2.2.2.2.2.2.2.1) && (Nat.beq (List.length y1.2.2.2.2.2.1) (List.length y2.2.2.2.2.2.2.2.2.1) && (Nat.beq (List.length y1.2.2.2.2.1) (List.length y2.2.2.2.2.2.2.2.1) && (Nat.beq (List.length y1.2.2.2.1) (List.length y2.2.2.2.2.2.2.1) && (Nat.beq (List.length y1.2.2.1) (List.length y2.2.2.2.2.2.1) && (Nat.beq (List.length y1.2.1) (List.length y2.2.2.2.2.1) && true)))))))) fun _ => (it (Int × ((List ((List UInt8) × Int × Int × Bool × Int)) × (List ((List UInt8) × Bool)) × (List ((List UInt8) × Int)) × (List (List UInt8)) × (List (List UInt8)) × List (Int × Int × Int)) × (Int × Int × Int × Int × Int × (List Int) × List Int) × (List Int) × (List Int) × (List (List Int)) × (List (List Int)) × (List (List Int)) × (List (List Int)) × (List (List Int)) × (List (List Int)) × (List (List Int)) × List Int) _ (fun x3 => (bcase (ilt x3.1 (Int.ofNat (List.length y2.1))) (chk (inB x3.1 (List.length y2.1)) fun _ => (obind (mclock_Join (x3.2.2.2.2.1, (geti (T := (.sl (.int .i64))) y2.1 x3.1))) fun y4 => (some (Sum.inl ((wrapK .i64 (x3.1 + 1)), (x3.2.1.1, x3.2.1.2.1, x3.2.1.2.2.1, x3.2.1.2.2.2.1, x3.2.1.2.2.2.2.1, x3.2.1.2.2.2.2.2), (x3.2.2.1.1, x3.2.2.1.2.1, x3.2.2.1.2.2.1, x3.2.2.1.2.2.2.1, x3.2.2.1.2.2.2.2.1, x3.2.2.1.2.2.2.2.2.1, x3.2.2.1.2.2.2.2.2.2), x3.2.2.2.1, y4, x3.2.2.2.2.2.1, x3.2.2.2.2.2.2.1, x3.2.2.2.2.2.2.2.1, x3.2.2.2.2.2.2.2.2.1, x3.2.2.2.2.2.2.2.2.2.1, x3.2.2.2.2.2.2.2.2.2.2.1, x3.2.2.2.2.2.2.2.2.2.2.2.1, x3.2.2.2.2.2.2.2.2.2.2.2.2))))) (obind (obind (mclock_Tick (x3.2.2.2.2.1, x3.2.2.1.1)) fun y5 => (obind (mhb_enter (((x3.2.1.1, x3.2.1.2.1, x3.2.1.2.2.1, x3.2.1.2.2.2.1, x3.2.1.2.2.2.2.1, x3.2.1.2.2.2.2.2), (x3.2.2.1.1, x3.2.2.1.2.1, x3.2.2.1.2.2.1, x3.2.2.1.2.2.2.1, x3.2.2.1.2.2.2.2.1, x3.2.2.1.2.2.2.2.2.1, x3.2.2.1.2.2.2.2.2.2), y5), x3.2.2.2.1, x3.2.2.2.2.2.1, x3.2.2.2.2.2.2.1, x3.2.2.2.2.2.2.2.1, x3.2.2.2.2.2.2.2.2.1, x3.2.2.2.2.2.2.2.2.2.1, x3.2.2.2.2.2.2.2.2.2.2.1, x3.2.2.2.2.2.2.2.2.2.2.2.1, x3.2.2.2.2.2.2.2.2.2.2.2.2)) fun y6 => (chk (Nat.beq (List.length x3.2.2.2.2.2.2.2.2.2.2.2.2) (List.length y6.2.2.2.2.2.2.2.2) && (Nat.beq (List.length x3.2.2.2.2.2.2.2.2.2.2.2.1) (List.length y6.2.2.2.2.2.2.2.1) && (Nat.beq (List.length x3.2.2.2.2.2.2.2.2.2.2.1) (List.length y6.2.2.2.2.2.2.1) && (Nat.beq (List.length x3.2.2.2.2.2.2.2.2.2.1) (List.length y6.2.2.2.2.2.1) && (Nat.beq (List.length x3.2.2.2.2.2.2.2.2.1) (List.length y6.2.2.2.2.1) && (Nat.beq (List.length x3.2.2.2.2.2.2.2.1) (List.length y6.2.2.2.1) && (Nat.beq (List.length x3.2.2.2.2.2.2.1) (List.length y6.2.2.1) && (Nat.beq (List.length x3.2.2.2.2.2.1) (List.length y6.2.1) && true)))))))) fun _ => (some ((y6.2.1, y6.2.2.1, y6.2.2.2.1, y6.2.2.2.2.1, y6.2.2.2.2.2.1, y6.2.2.2.2.2.2.1, y6.1, y6.2.2.2.2.2.2.2.1, y6.2.2.2.2.2.2.2.2), y5))))) fun r => some (Sum.inr r)))) (0, (y2.2.2.2.1.1, y2.2.2.2.1.2.1, y2.2.2.2.1.2.2.1, y2.2.2.2.1.2.2.2.1, y2.2.2.2.1.2.2.2.2.1, y2.2.2.2.1.2.2.2.2.2), (y2.2.1.1, y2.2.1.2.1, y2.2.1.2.2.1, y2.2.1.2.2.2.1, y2.2.1.2.2.2.2.1, y2.2.1.2.2.2.2.2.1, y2.2.1.2.2.2.2.2.2), y2.2.2.1, (geti (T := (.sl (.int .i64))) y1.2.1 x.2.2.1), y2.2.2.2.2.1, y2.2.2.2.2.2.1, y2.2.2.2.2.2.2.1, y2.2.2.2.2.2.2.2.1, y2.2.2.2.2.2.2.2.2.1, y2.2.2.2.2.2.2.2.2.2.1, y2.2.2.2.2.2.2.2.2.2.2.1, y2.2.2.2.2.2.2.2.2.2.2.2)))))))
noncomputable def nhb_Step (x : ((List ((List UInt8) × Int × Int × Bool × Int)) × (List ((List UInt8) × Bool)) × (List ((List UInt8) × Int)) × (List (List UInt8)) × (List (List UInt8)) × List (Int × Int × Int)) × ((List (List Int)) × (List (List Int)) × (List (List Int)) × (List (List Int)) × (List (List Int)) × (List (List Int)) × (List Int) × (List (List Int)) × List Int) × Int × Int × Int × Int × Int × (List Int) × List Int) : Option (((List (List Int)) × (List (List Int)) × (List (List Int)) × (List (List Int)) × (List (List Int)) × (List (List Int)) × (List Int) × (List (List Int)) × List Int) × List Int) := ghb_Step @iter x
noncomputable def mhb_Step (x : ((List ((List UInt8) × Int × Int × Bool × Int)) × (List ((List UInt8) × Bool)) × (List ((List UInt8) × Int)) × (List (List UInt8)) × (List (List UInt8)) × List (Int × Int × Int)) × ((List (List Int)) × (List (List Int)) × (List (List Int)) × (List (List Int)) × (List (List Int)) × (List (List Int)) × (List Int) × (List (List Int)) × List Int) × Int × Int × Int × Int × Int × (List Int) × List Int) : Option (((List (List Int)) × (List (List Int)) × (List (List Int)) × (List (List Int)) × (List (List Int)) × (List (List Int)) × (List Int) × (List (List Int)) × List Int) × List Int) := ghb_Step @iterC x
/-- interleave/hb.Start -/
noncomputable def ghb_Start (it : Itr) (x : (List ((List UInt8) × Int × Int × Bool × Int)) × (List ((List UInt8) × Bool)) × (List ((List UInt8) × Int)) × (List (List UInt8)) × (List (List UInt8)) × List (Int × Int × Int)) : Option ((List (List Int)) × (List (List Int)) × (List (List Int)) × (List (List Int)) × (List (List Int)) × (List (List Int)) × (List Int) × (List (List Int)) × List Int) :=
  (chk (ile 0 (Int.ofNat (List.length x.2.2.2.2.1)) && ile (Int.ofNat (List.length x.2.2.2.2.1)) (Int.ofNat (List.length x.2.2.2.2.1)) && roomy (Int.toNat (Int.ofNat (List.length x.2.2.2.2.1))) 24) fun _ => (chk (ile 0 (Int.ofNat (List.length x.2.2.2.2.1)) && ile (Int.ofNat (List.length x.2.2.2.2.1)) (Int.ofNat (List.length x.2.2.2.2.1)) && roomy (Int.toNat (Int.ofNat (List.length x.2.2.2.2.1))) 24) fun _ => (chk (ile 0 (Int.ofNat (List.length x.2.1)) && ile (Int.ofNat (List.length x.2.1)) (Int.ofNat (List.length x.2.1)) && roomy (Int.toNat (Int.ofNat (List.length x.2.1))) 24) fun _ => (chk (ile 0 (Int.ofNat (List.length x.2.1)) && ile (Int.ofNat (List.length x.2.1)) (Int.ofNat (List.length x.2.1)) && roomy (Int.toNat (Int.ofNat (List.length x.2.1))) 24) fun _ => (chk (ile 0 (Int.ofNat (List.length x.1)) && ile (Int.ofNat (List.length x.1)) (Int.ofNat (List.length x.1)) && roomy (Int.toNat (Int.ofNat (List.length x.1))) 24) fun _ => (chk (ile 0 (Int.ofNat (List.length x.2.2.2.1)) && ile (Int.ofNat (List.length x.2.2.2.1)) (Int.ofNat (List.length x.2.2.2.1)) && roomy (Int.toNat (Int.ofNat (List.length x.2.2.2.1))) 24) fun _ => (chk (ile 0 (Int.ofNat (List.length x.2.2.2.2.1)) && ile (Int.ofNat (List.length x.2.2.2.2.1)) (Int.ofNat (List.length x.2.2.2.2.1)) && roomy (Int.toNat (Int.ofNat (List.length x.2.2.2.2.1))) 24) fun _ => (chk (ile 0 (Int.ofNat (List.length x.2.2.2.2.1)) && ile (Int.ofNat (List.length x.2.2.2.2.1)) (Int.ofNat (List.length x.2.2.2.2.1)) && roomy (Int.toNat (Int.ofNat (List.length x.2.2.2.2.1))) 8) fun _ => (it (Int × (List (List Int)) × (List (List Int)) × (List (List Int)) × (List (List Int)) × (List (List Int)) × (List (List Int)) × (List (List Int)) × List Int) _ (fun x1 => (bcase (ilt x1.1 (Int.ofNat (List.length (List.replicate (Int.toNat (Int.ofNat (List.length x.2.2.2.2.1))) (0 : Int))))) (chk (inB x1.1 (List.length x1.2.2.2.2.2.2.2.2)) fun _ => (chk (inB x1.1 (List.length x1.2.2.2.2.2.2.2.2)) fun _ => (some (Sum.inl ((wrapK .i64 (x1.1 + 1)), x1.2.1, x1.2.2.1, x1.2.2.2.1, x1.2.2.2.2.1, x1.2.2.2.2.2.1, x1.2.2.2.2.2.2.1, x1.2.2.2.2.2.2.2.1, (seti x1.2.2.2.2.2.2.2.2 x1.1 (-1))))))) (some (Sum.inr (x1.2.1, x1.2.2.1, x1.2.2.2.1, x1.2.2.2.2.1, x1.2.2.2.2.2.1, x1.2.2.2.2.2.2.1, ([] : List Int), x1.2.2.2.2.2.2.2.1, x1.2.2.2.2.2.2.2.2))))) (0, (List.replicate (Int.toNat (Int.ofNat (List.length x.2.2.2.2.1))) ([] : List Int)), (List.replicate (Int.toNat (Int.ofNat (List.length x.2.2.2.2.1))) ([] : List Int)), (List.replicate (Int.toNat (Int.ofNat (List.length x.2.1))) ([] : List Int)), (List.replicate (Int.toNat (Int.ofNat (List.length x.2.1))) ([] : List Int)), (List.replicate (Int.toNat (Int.ofNat (List.length x.1))) ([] : List Int)), (List.replicate (Int.toNat (Int.ofNat (List.length x.2.2.2.1))) ([] : List Int)), (List.replicate (Int.toNat (Int.ofNat (List.length x.2.2.2.2.1))) ([] : List Int)), (List.replicate (Int.toNat (Int.ofNat (List.length x.2.2.2.2.1))) (0 : Int))))))))))))
noncomputable def nhb_Start (x : (List ((List UInt8) × Int × Int × Bool × Int)) × (List ((List UInt8) × Bool)) × (List ((List UInt8) × Int)) × (List (List UInt8)) × (List (List UInt8)) × List (Int × Int × Int)) : Option ((List (List Int)) × (List (List Int)) × (List (List Int)) × (List (List Int)) × (List (List Int)) × (List (List Int)) × (List Int) × (List (List Int)) × List Int) := ghb_Start @iter x
noncomputable def mhb_Start (x : (List ((List UInt8) × Int × Int × Bool × Int)) × (List ((List UInt8) × Bool)) × (List ((List UInt8) × Int)) × (List (List UInt8)) × (List (List UInt8)) × List (Int × Int × Int)) : Option ((List (List Int)) × (List (List Int)) × (List (List Int)) × (List (List Int)) × (List (List Int)) × (List (List Int)) × (List Int) × (List (List Int)) × List Int) := ghb_Start @iterC x
/-- interleave/interleaveref22.Copy -/
noncomputable def mr22_Copy (x : List Int) : Option (List Int) :=
  (chk (roomy (List.length (x : List Int)) 8) fun _ => (some x))
/-- interleave/interleaveref22.CopyAll -/
noncomputable def gr22_CopyAll (it : Itr) (x : List (List Int)) : Option (List (List Int)) :=
  (chk (ile 0 (Int.ofNat (List.length x)) && ile (Int.ofNat (List.length x)) (Int.ofNat (List.length x)) && roomy (Int.toNat (Int.ofNat (List.length x))) 24) fun _ => (it (Int × List (List Int)) _ (fun x1 => (bcase (ilt x1.1 (Int.ofNat (List.length x))) (chk (inB x1.1 (List.length x)) fun _ => (obind (mr22_Copy (geti (T := (.sl (.int .i64))) x x1.1)) fun y2 => (chk (inB x1.1 (List.length x1.2)) fun _ => (chk (inB x1.1 (List.length x1.2)) fun _ => (some (Sum.inl ((wrapK .i64 (x1.1 + 1)), (seti x1.2 x1.1 y2)))))))) (some (Sum.inr x1.2)))) (0, (List.replicate (Int.toNat (Int.ofNat (List.length x))) ([] : List Int)))))
noncomputable def nr22_CopyAll (x : List (List Int)) : Option (List (List Int)) := gr22_CopyAll @iter x
noncomputable def mr22_CopyAll (x : List (List Int)) : Option (List (List Int)) := gr22_CopyAll @iterC x
/-- interleave/interleaveref22.Copy -/
noncomputable def mr22_CopyO (x : List Int) : Option (List Int) :=
  (chk (roomy (List.length (x : List Int)) 8) fun _ => (some x))
/-- interleave/interleaveref22.copied -/
noncomputable def mr22_copied (x : (List (List Int)) × (List (List Int)) × (List (List Int)) × (List (List Int)) × (List (List Int)) × (List (List Int)) × (List Int) × (List (List Int)) × List Int) : Option ((List Int) × (List (List Int)) × (List (List Int)) × (List (List Int)) × (List (List Int)) × (List (List Int)) × (List (List Int)) × (List (List Int)) × List Int) :=
  (obind (mr22_CopyAll x.1) fun y1 => (obind (mr22_CopyAll x.2.1) fun y2 => (obind (mr22_CopyAll x.2.2.1) fun y3 => (obind (mr22_CopyAll x.2.2.2.1) fun y4 => (obind (mr22_CopyAll x.2.2.2.2.1) fun y5 => (obind (mr22_CopyAll x.2.2.2.2.2.1) fun y6 => (obind (mr22_CopyO x.2.2.2.2.2.2.1) fun y7 => (obind (mr22_CopyAll x.2.2.2.2.2.2.2.1) fun y8 => (obind (mr22_CopyO x.2.2.2.2.2.2.2.2) fun y9 => (some (y7, y1, y2, y3, y4, y5, y6, y8, y9)))))))))))
/-- interleave/interleaveref22.Tick -/
noncomputable def gr22_Tick (it : Itr) (x : (List Int) × Int) : Option (List Int) :=
  (obind (mr22_CopyO x.1) fun y1 => (jn (α := Bool × List Int) (bcase (ilt x.2 0) (some (Sum.inr (true, y1))) (some (Sum.inr ((ile 4 x.2), y1)))) fun x2 => (bcase x2.1 (some x2.2) (it (List Int) _ (fun x3 => (bcase (ile (Int.ofNat (List.length x3)) x.2) (chk (roomy (List.length x3 + List.length ([0])) 8) fun _ => (some (Sum.inl (x3 ++ ([0]))))) (obind (jn (α := List Int) (chk (inB x.2 (List.length x3)) fun _ => (chk (inB x.2 (List.length x3)) fun _ => (bcase (ilt (geti (T := (.int .i64)) x3 x.2) 9223372036854775807) (chk (inB x.2 (List.length x3)) fun _ => (chk (inB x.2 (List.length x3)) fun _ => (chk (inB x.2 (List.length x3)) fun _ => (chk (inB x.2 (List.length x3)) fun _ => (some (Sum.inr (seti x3 x.2 (wrapK .i64 ((geti (T := (.int .i64)) x3 x.2) + 1))))))))) (some (Sum.inr x3))))) fun x4 => (some x4)) fun r => some (Sum.inr r)))) x2.2))))
noncomputable def nr22_Tick (x : (List Int) × Int) : Option (List Int) := gr22_Tick @iter x
noncomputable def mr22_Tick (x : (List Int) × Int) : Option (List Int) := gr22_Tick @iterC x
/-- interleave/interleaveref22.Equal -/
noncomputable def gr22_Equal (it : Itr) (x : (List Int) × List Int) : Option (Bool) :=
  (bcase (!decide (((Int.ofNat (List.length x.1)) : Int) = (Int.ofNat (List.length x.2)))) (some false) (it (Int) _ (fun x1 => (bcase (ilt x1 (Int.ofNat (List.length x.1))) (chk (inB x1 (List.length x.1)) fun _ => (chk (inB x1 (List.length x.2)) fun _ => (bcase (!decide (((geti (T := (.int .i64)) x.1 x1) : Int) = (geti (T := (.int .i64)) x.2 x1))) (some (Sum.inr false)) (some (Sum.inl (wrapK .i64 (x1 + 1))))))) (some (Sum.inr true)))) 0))
noncomputable def nr22_Equal (x : (List Int) × List Int) : Option (Bool) := gr22_Equal @iter x
noncomputable def mr22_Equal (x : (List Int) × List Int) : Option (Bool) := gr22_Equal @iterC x
/-- interleave/interleaveref22.Leq -/
noncomputable def gr22_Leq (it : Itr) (x : (List Int) × List Int) : Option (Bool) :=
  (it (Int) _ (fun x1 => (bcase (ilt x1 (imax (Int.ofNat (List.length x.1)) (Int.ofNat (List.length x.2)))) (obind (mr22_At (x.1, x1)) fun y2 => (obind (mr22_At (x.2, x1)) fun y3 => (bcase (ilt y3 y2) (some (Sum.inr false)) (some (Sum.inl (wrapK .i64 (x1 + 1))))))) (some (Sum.inr true)))) 0)
noncomputable def nr22_Leq (x : (List Int) × List Int) : Option (Bool) := gr22_Leq @iter x
noncomputable def mr22_Leq (x : (List Int) × List Int) : Option (Bool) := gr22_Leq @iterC x
/-- interleave/interleaveref22.Same -/
noncomputable def mr22_Same (x : (List Int) × List Int) : Option (Bool) :=
  (jn (α := Bool) (obind (mr22_Leq (x.1, x.2)) fun y2 => (bcase y2 (obind (mr22_Leq (x.2, x.1)) fun y3 => (some (Sum.inr y3))) (some (Sum.inr false)))) fun x1 => (some x1))
/-- interleave/interleaveref22.SameAll -/
noncomputable def gr22_SameAll (it : Itr) (x : (List (List Int)) × List (List Int)) : Option (Bool) :=
  (bcase (!decide (((Int.ofNat (List.length x.1)) : Int) = (Int.ofNat (List.length x.2)))) (some false) (it (Int) _ (fun x1 => (bcase (ilt x1 (Int.ofNat (List.length x.1))) (chk (inB x1 (List.length x.1)) fun _ => (chk (inB x1 (List.length x.2)) fun _ => (obind (mr22_Same ((geti (T := (.sl (.int .i64))) x.1 x1), (geti (T := (.sl (.int .i64))) x.2 x1))) fun y2 => (bcase (!y2) (some (Sum.inr false)) (some (Sum.inl (wrapK .i64 (x1 + 1)))))))) (some (Sum.inr true)))) 0))
noncomputable def nr22_SameAll (x : (List (List Int)) × List (List Int)) : Option (Bool) := gr22_SameAll @iter x
noncomputable def mr22_SameAll (x : (List (List Int)) × List (List Int)) : Option (Bool) := gr22_SameAll @iterC x
/-- interleave/interleaveref22.SameHB -/
noncomputable def mr22_SameHB (x : ((List (List Int)) × (List (List Int)) × (List (List Int)) × (List (List Int)) × (List (List Int)) × (List (List Int)) × (List Int) × (List (List Int)) × List Int) × (List (List Int)) × (List (List Int)) × (List (List Int)) × (List (List Int)) × (List (List Int)) × (List (List Int)) × (List Int) × (List (List Int)) × List Int) : Option (Bool) :=
  (jn (α := Bool) (obind (mr22_SameAll (x.1.1, x.2.1)) fun y2 => (bcase y2 (obind (mr22_SameAll (x.1.2.1, x.2.2.1)) fun y3 => (bcase y3 (obind (mr22_SameAll (x.1.2.2.1, x.2.2.2.1)) fun y4 => (bcase y4 (obind (mr22_SameAll (x.1.2.2.2.1, x.2.2.2.2.1)) fun y5 => (bcase y5 (obind (mr22_SameAll (x.1.2.2.2.2.1, x.2.2.2.2.2.1)) fun y6 => (bcase y6 (obind (mr22_SameAll (x.1.2.2.2.2.2.1, x.2.2.2.2.2.2.1)) fun y7 => (bcase y7 (obind (mr22_Same (x.1.2.2.2.2.2.2.1, x.2.2.2.2.2.2.2.1)) fun y8 => (bcase y8 (obind (mr22_SameAll (x.1.2.2.2.2.2.2.2.1, x.2.2.2.2.2.2.2.2.1)) fun y9 => (bcase y9 (obind (mr22_Equal (x.1.2.2.2.2.2.2.2.2, x.2.2.2.2.2.2.2.2.2)) fun y10 => (some (Sum.inr y10))) (some (Sum.inr false)))) (some (Sum.inr false)))) (some (Sum.inr false)))) (some (Sum.inr false)))) (some (Sum.inr false)))) (some (Sum.inr false)))) (some (Sum.inr false)))) (some (Sum.inr false)))) fun x1 => (some x1))
/-- interleave/interleaveref22.Mutex -/
noncomputable def mr22_Mutex (x : ((List ((List UInt8) × Int × Int × Bool × Int)) × (List ((List UInt8) × Bool)) × (List ((List UInt8) × Int)) × (List (List UInt8)) × (List (List UInt8)) × List (Int × Int × Int)) × Int) : Option (Int) :=
  (jn (α := Bool × (List ((List UInt8) × Int × Int × Bool × Int)) × (List ((List UInt8) × Bool)) × (List ((List UInt8) × Int)) × (List (List UInt8)) × (List (List UInt8)) × List (Int × Int × Int)) (bcase (ilt x.2 0) (some (Sum.inr (true, x.1.1, x.1.2.1, x.1.2.2.1, x.1.2.2.2.1, x.1.2.2.2.2.1, x.1.2.2.2.2.2))) (some (Sum.inr ((ile (Int.ofNat (List.length x.1.2.2.1)) x.2), x.1.1, x.1.2.1, x.1.2.2.1, x.1.2.2.2.1, x.1.2.2.2.2.1, x.1.2.2.2.2.2)))) fun x1 => (bcase x1.1 (some (-1)) (chk (inB x.2 (List.length x1.2.2.2.1)) fun _ => (some ((geti (T := (.st (.pr .str (.int .i64)))) x1.2.2.2.1 x.2).2)))))
/-- interleave/interleaveref22.Acquires -/
noncomputable def mr22_Acquires (x : ((List ((List UInt8) × Int × Int × Bool × Int)) × (List ((List UInt8) × Bool)) × (List ((List UInt8) × Int)) × (List (List UInt8)) × (List (List UInt8)) × List (Int × Int × Int)) × Int × Int × Int × Int × Int × (List Int) × List Int) : Option (Int × Bool) :=
  (jn (α := Bool × ((List ((List UInt8) × Int × Int × Bool × Int)) × (List ((List UInt8) × Bool)) × (List ((List UInt8) × Int)) × (List (List UInt8)) × (List (List UInt8)) × List (Int × Int × Int)) × Int × Int × Int × Int × Int × (List Int) × List Int) (bcase (decide ((x.2.2.1 : Int) = 6)) (some (Sum.inr ((decide ((x.2.2.1 : Int) = 6)), (x.1.1, x.1.2.1, x.1.2.2.1, x.1.2.2.2.1, x.1.2.2.2.2.1, x.1.2.2.2.2.2), x.2.1, x.2.2.1, x.2.2.2.1, x.2.2.2.2.1, x.2.2.2.2.2.1, x.2.2.2.2.2.2.1, x.2.2.2.2.2.2.2))) (some (Sum.inr ((decide ((x.2.2.1 : Int) = 10)), (x.1.1, x.1.2.1, x.1.2.2.1, x.1.2.2.2.1, x.1.2.2.2.2.1, x.1.2.2.2.2.2), x.2.1, x.2.2.1, x.2.2.2.1, x.2.2.2.2.1, x.2.2.2.2.2.1, x.2.2.2.2.2.2.1, x.2.2.2.2.2.2.2)))) fun x1 => (bcase x1.1 (some (x1.2.2.2.2.1, false)) (bcase (decide ((x.2.2.1 : Int) = 8)) (some (x1.2.2.2.2.1, true)) (bcase (decide ((x.2.2.1 : Int) = 17)) (obind (mr22_Mutex ((x1.2.1.1, x1.2.1.2.1, x1.2.1.2.2.1, x1.2.1.2.2.2.1, x1.2.1.2.2.2.2.1, x1.2.1.2.2.2.2.2), x1.2.2.2.2.1)) fun y2 => (some (y2, false))) (some ((-1), false))))))
/-- interleave/interleaveref22.Releases -/
noncomputable def mr22_Releases (x : ((List ((List UInt8) × Int × Int × Bool × Int)) × (List ((List UInt8) × Bool)) × (List ((List UInt8) × Int)) × (List (List UInt8)) × (List (List UInt8)) × List (Int × Int × Int)) × Int × Int × Int × Int × Int × (List Int) × List Int) : Option (Int × Bool) :=
  (jn (α := Bool × ((List ((List UInt8) × Int × Int × Bool × Int)) × (List ((List UInt8) × Bool)) × (List ((List UInt8) × Int)) × (List (List UInt8)) × (List (List UInt8)) × List (Int × Int × Int)) × Int × Int × Int × Int × Int × (List Int) × List Int) (bcase (decide ((x.2.2.1 : Int) = 7)) (some (Sum.inr ((decide ((x.2.2.1 : Int) = 7)), (x.1.1, x.1.2.1, x.1.2.2.1, x.1.2.2.2.1, x.1.2.2.2.2.1, x.1.2.2.2.2.2), x.2.1, x.2.2.1, x.2.2.2.1, x.2.2.2.2.1, x.2.2.2.2.2.1, x.2.2.2.2.2.2.1, x.2.2.2.2.2.2.2))) (some (Sum.inr ((decide ((x.2.2.1 : Int) = 11)), (x.1.1, x.1.2.1, x.1.2.2.1, x.1.2.2.2.1, x.1.2.2.2.2.1, x.1.2.2.2.2.2), x.2.1, x.2.2.1, x.2.2.2.1, x.2.2.2.2.1, x.2.2.2.2.2.1, x.2.2.2.2.2.2.1, x.2.2.2.2.2.2.2)))) fun x1 => (bcase x1.1 (some (x1.2.2.2.2.1, false)) (bcase (decide ((x.2.2.1 : Int) = 9)) (some (x1.2.2.2.2.1, true)) (bcase (decide ((x.2.2.1 : Int) = 16)) (obind (mr22_Mutex ((x1.2.1.1, x1.2.1.2.1, x1.2.1.2.2.1, x1.2.1.2.2.2.1, x1.2.1.2.2.2.2.1, x1.2.1.2.2.2.2.2), x1.2.2.2.2.1)) fun y2 => (some (y2, false))) (some ((-1), false))))))
/-- interleave/interleaveref22.arriving -/
noncomputable def mr22_arriving (x : (((List ((List UInt8) × Int × Int × Bool × Int)) × (List ((List UInt8) × Bool)) × (List ((List UInt8) × Int)) × (List (List UInt8)) × (List (List UInt8)) × List (Int × Int × Int)) × (List Int) × Int × Int × Int × Int × Int × (List Int) × List Int) × (List (List Int)) × (List (List Int)) × (List (List Int)) × (List (List Int)) × (List (List Int)) × (List (List Int)) × (List (List Int)) × List Int) : Option ((List Int) × (List (List Int)) × (List (List Int)) × (List (List Int)) × (List (List Int)) × (List (List Int)) × (List (List Int)) × (List (List Int)) × List Int) :=
  (obind (mr22_Acquires ((x.1.1.1, x.1.1.2.1, x.1.1.2.2.1, x.1.1.2.2.2.1, x.1.1.2.2.2.2.1, x.1.1.2.2.2.2.2), x.1.2.2.1, x.1.2.2.2.1, x.1.2.2.2.2.1, x.1.2.2.2.2.2.1, x.1.2.2.2.2.2.2.1, x.1.2.2.2.2.2.2.2.1, x.1.2.2.2.2.2.2.2.2)) fun y1 => (jn (α := (List Int) × (List (List Int)) × (List (List Int)) × (List (List Int)) × (List (List Int)) × (List (List Int)) × (List (List Int)) × (List (List Int)) × (List Int) × (List Int) × Int × Int × Int × Int × Int × (List Int) × List Int) (jn (α := Bool × (List (List Int)) × (List (List Int)) × (List (List Int)) × (List (List Int)) × (List (List Int)) × (List (List Int)) × (List (List Int)) × (List Int) × (List Int) × Int × Int × Int × Int × Int × (List Int) × List Int) (bcase (ile 0 y1.1) (some (Sum.inr ((ilt y1.1 (Int.ofNat (List.length x.2.2.2.1))), x.2.1, x.2.2.1, x.2.2.2.1, x.2.2.2.2.1, x.2.2.2.2.2.1, x.2.2.2.2.2.2.1, x.2.2.2.2.2.2.2.1, x.2.2.2.2.2.2.2.2, x.1.2.1, x.1.2.2.1, x.1.2.2.2.1, x.1.2.2.2.2.1, x.1.2.2.2.2.2.1, x.1.2.2.2.2.2.2.1, x.1.2.2.2.2.2.2.2.1, x.1.2.2.2.2.2.2.2.2))) (some (Sum.inr (false, x.2.1, x.2.2.1, x.2.2.2.1, x.2.2.2.2.1, x.2.2.2.2.2.1, x.2.2.2.2.2.2.1, x.2.2.2.2.2.2.2.1, x.2.2.2.2.2.2.2.2, x.1.2.1, x.1.2.2.1, x.1.2.2.2.1, x.1.2.2.2.2.1, x.1.2.2.2.2.2.1, x.1.2.2.2.2.2.2.1, x.1.2.2.2.2.2.2.2.1, x.1.2.2.2.2.2.2.2.2)))) fun x3 => (bcase x3.1 (chk (inB y1.1 (List.length x3.2.2.2.1)) fun _ => (chk (inB y1.1 (List.length x3.2.2.2.1)) fun _ => (bcase (!y1.2) (chk (inB y1.1 (List.length x3.2.2.2.2.1)) fun _ => (chk (inB y1.1 (List.length x3.2.2.2.2.1)) fun _ => (obind (mr22_Join ((geti (T := (.sl (.int .i64))) x3.2.2.2.1 y1.1), (geti (T := (.sl (.int .i64))) x3.2.2.2.2.1 y1.1))) fun y4 => (some (Sum.inr (y4, x3.2.1, x3.2.2.1, x3.2.2.2.1, x3.2.2.2.2.1, x3.2.2.2.2.2.1, x3.2.2.2.2.2.2.1, x3.2.2.2.2.2.2.2.1, x3.2.2.2.2.2.2.2.2.1, x3.2.2.2.2.2.2.2.2.2.1, x3.2.2.2.2.2.2.2.2.2.2.1, x3.2.2.2.2.2.2.2.2.2.2.2.1, x3.2.2.2.2.2.2.2.2.2.2.2.2.1, x3.2.2.2.2.2.2.2.2.2.2.2.2.2.1, x3.2.2.2.2.2.2.2.2.2.2.2.2.2.2.1, x3.2.2.2.2.2.2.2.2.2.2.2.2.2.2.2.1, x3.2.2.2.2.2.2.2.2.2.2.2.2.2.2.2.2)))))) (some (Sum.inr ((geti (T := (.sl (.int .i64))) x3.2.2.2.1 y1.1), x3.2.1, x3.2.2.1, x3.2.2.2.1, x3.2.2.2.2.1, x3.2.2.2.2.2.1, x3.2.2.2.2.2.2.1, x3.2.2.2.2.2.2.2.1, x3.2.2.2.2.2.2.2.2.1, x3.2.2.2.2.2.2.2.2.2.1, x3.2.2.2.2.2.2.2.2.2.2.1, x3.2.2.2.2.2.2.2.2.2.2.2.1, x3.2.2.2.2.2.2.2.2.2.2.2.2.1, x3.2.2.2.2.2.2.2.2.2.2.2.2.2.1, x3.2.2.2.2.2.2.2.2.2.2.2.2.2.2.1, x3.2.2.2.2.2.2.2.2.2.2.2.2.2.2.2.1, x3.2.2.2.2.2.2.2.2.2.2.2.2.2.2.2.2)))))) (some (Sum.inr (([] : List Int), x3.2.1, x3.2.2.1, x3.2.2.2.1, x3.2.2.2.2.1, x3.2.2.2.2.2.1, x3.2.2.2.2.2.2.1, x3.2.2.2.2.2.2.2.1, x3.2.2.2.2.2.2.2.2.1, x3.2.2.2.2.2.2.2.2.2.1, x3.2.2.2.2.2.2.2.2.2.2.1, x3.2.2.2.2.2.2.2.2.2.2.2.1, x3.2.2.2.2.2.2.2.2.2.2.2.2.1, x3.2.2.2.2.2.2.2.2.2.2.2.2.2.1, x3.2.2.2.2.2.2.2.2.2.2.2.2.2.2.1, x3.2.2.2.2.2.2.2.2.2.2.2.2.2.2.2.1, x3.2.2.2.2.2.2.2.2.2.2.2.2.2.2.2.2))))) fun x2 => (jn (α := (List Int) × (List (List Int)) × (List (List Int)) × (List (List Int)) × (List (List Int)) × (List (List Int)) × (List (List Int)) × (List (List Int)) × List Int) (bcase (decide ((x2.2.2.2.2.2.2.2.2.2.2.2.1 : Int) = 1)) (chk (inB x2.2.2.2.2.2.2.2.2.2.2.1 (List.length x2.2.2.1)) fun _ => (chk (inB x2.2.2.2.2.2.2.2.2.2.2.1 (List.length x2.2.2.1)) fun _ => (obind (mr22_Join (x2.1, (geti (T := (.sl (.int .i64))) x2.2.2.1 x2.2.2.2.2.2.2.2.2.2.2.1))) fun y6 => (some (Sum.inr (y6, x2.2.1, x2.2.2.1, x2.2.2.2.1, x2.2.2.2.2.1, x2.2.2.2.2.2.1, x2.2.2.2.2.2.2.1, x2.2.2.2.2.2.2.2.1, x2.2.2.2.2.2.2.2.2.1)))))) (bcase (decide ((x2.2.2.2.2.2.2.2.2.2.2.2.1 : Int) = 21)) (chk (inB x2.2.2.2.2.2.2.2.2.2.2.2.2.1 (List.length x2.2.1)) fun _ => (chk (inB x2.2.2.2.2.2.2.2.2.2.2.2.2.1 (List.length x2.2.1)) fun _ => (obind (mr22_Join (x2.1, (geti (T := (.sl (.int .i64))) x2.2.1 x2.2.2.2.2.2.2.2.2.2.2.2.2.1))) fun y7 => (some (Sum.inr (y7, x2.2.1, x2.2.2.1, x2.2.2.2.1, x2.2.2.2.2.1, x2.2.2.2.2.2.1, x2.2.2.2.2.2.2.1, x2.2.2.2.2.2.2.2.1, x2.2.2.2.2.2.2.2.2.1)))))) (bcase (decide ((x2.2.2.2.2.2.2.2.2.2.2.2.1 : Int) = 17)) (chk (inB x2.2.2.2.2.2.2.2.2.2.2.1 (List.length x2.2.2.2.2.2.2.2.1)) fun _ => (chk (inB x2.2.2.2.2.2.2.2.2.2.2.1 (List.length x2.2.2.2.2.2.2.2.1)) fun _ => (obind (mr22_Join (x2.1, (geti (T := (.sl (.int .i64))) x2.2.2.2.2.2.2.2.1 x2.2.2.2.2.2.2.2.2.2.2.1))) fun y8 => (some (Sum.inr (y8, x2.2.1, x2.2.2.1, x2.2.2.2.1, x2.2.2.2.2.1, x2.2.2.2.2.2.1, x2.2.2.2.2.2.2.1, x2.2.2.2.2.2.2.2.1, x2.2.2.2.2.2.2.2.2.1)))))) (bcase (decide ((x2.2.2.2.2.2.2.2.2.2.2.2.1 : Int) = 3)) (chk (inB x2.2.2.2.2.2.2.2.2.2.2.2.2.1 (List.length x2.2.2.2.2.2.1)) fun _ => (chk (inB x2.2.2.2.2.2.2.2.2.2.2.2.2.1 (List.length x2.2.2.2.2.2.1)) fun _ => (obind (mr22_Join (x2.1, (geti (T := (.sl (.int .i64))) x2.2.2.2.2.2.1 x2.2.2.2.2.2.2.2.2.2.2.2.2.1))) fun y9 => (some (Sum.inr (y9, x2.2.1, x2.2.2.1, x2.2.2.2.1, x2.2.2.2.2.1, x2.2.2.2.2.2.1, x2.2.2.2.2.2.2.1, x2.2.2.2.2.2.2.2.1, x2.2.2.2.2.2.2.2.2.1)))))) (bcase (decide ((x2.2.2.2.2.2.2.2.2.2.2.2.1 : Int) = 23)) (chk (inB x2.2.2.2.2.2.2.2.2.2.2.2.2.1 (List.length x2.2.2.2.2.2.2.1)) fun _ => (chk (inB x2.2.2.2.2.2.2.2.2.2.2.2.2.1 (List.length x2.2.2.2.2.2.2.1)) fun _ => (obind (mr22_Join (x2.1, (geti (T := (.sl (.int .i64))) x2.2.2.2.2.2.2.1 x2.2.2.2.2.2.2.2.2.2.2.2.2.1))) fun y10 => (some (Sum.inr (y10, x2.2.1, x2.2.2.1, x2.2.2.2.1, x2.2.2.2.2.1, x2.2.2.2.2.2.1, x2.2.2.2.2.2.2.1, x2.2.2.2.2.2.2.2.1, x2.2.2.2.2.2.2.2.2.1)))))) (bcase (decide ((x2.2.2.2.2.2.2.2.2.2.2.2.1 : Int) = 12)) (obind (mr22_Join (x2.1, x2.2.2.2.2.2.2.2.2.2.1)) fun y11 => (some (Sum.inr (y11, x2.2.1, x2.2.2.1, x2.2.2.2.1, x2.2.2.2.2.1, x2.2.2.2.2.2.1, x2.2.2.2.2.2.2.1, x2.2.2.2.2.2.2.2.1, x2.2.2.2.2.2.2.2.2.1)))) (some (Sum.inr (x2.1, x2.2.1, x2.2.2.1, x2.2.2.2.1, x2.2.2.2.2.1, x2.2.2.2.2.2.1, x2.2.2.2.2.2.2.1, x2.2.2.2.2.2.2.2.1, x2.2.2.2.2.2.2.2.2.1))))))))) fun x5 => (some (x5.1, x5.2.1, x5.2.2.1, x5.2.2.2.1, x5.2.2.2.2.1, x5.2.2.2.2.2.1, x5.2.2.2.2.2.2.1, x5.2.2.2.2.2.2.2.1, x5.2.2.2.2.2.2.2.2)))))
noncomputable def mr22_arrivingR (x : (((List ((List UInt8) × Int × Int × Bool × Int)) × (List ((List UInt8) × Bool)) × (List ((List UInt8) × Int)) × (List (List UInt8)) × (List (List UInt8)) × List (Int × Int × Int)) × (List Int) × Int × Int × Int × Int × Int × (List Int) × List Int) × (List (List Int)) × (List (List Int)) × (List (List Int)) × (List (List Int)) × (List (List Int)) × (List (List Int)) × (List (List Int)) × List Int) : Option (List Int) := obind (mr22_arriving x) fun y => same y.2 x.2 (some y.1)
/-- interleave/interleaveref22.Step -/
noncomputable def gr22_Step (it : Itr) (x : ((List ((List UInt8) × Int × Int × Bool × Int)) × (List ((List UInt8) × Bool)) × (List ((List UInt8) × Int)) × (List (List UInt8)) × (List (List UInt8)) × List (Int × Int × Int)) × ((List (List Int)) × (List (List Int)) × (List (List Int)) × (List (List Int)) × (List (List Int)) × (List (List Int)) × (List Int) × (List (List Int)) × List Int) × Int × Int × Int × Int × Int × (List Int) × List Int) : Option (((List (List Int)) × (List (List Int)) × (List (List Int)) × (List (List Int)) × (List (List Int)) × (List (List Int)) × (List Int) × (List (List Int)) × List Int) × List Int) :=
  (obind (mr22_copied (x.2.1.1, x.2.1.2.1, x.2.1.2.2.1, x.2.1.2.2.2.1, x.2.1.2.2.2.2.1, x.2.1.2.2.2.2.2.1, x.2.1.2.2.2.2.2.2.1, x.2.1.2.2.2.2.2.2.2.1, x.2.1.2.2.2.2.2.2.2.2)) fun y1 => (chk (inB x.2.2.1 (List.length y1.2.1)) fun _ => (chk (inB x.2.2.1 (List.length y1.2.1)) fun _ => (obind (mr22_arrivingR (((x.1.1, x.1.2.1, x.1.2.2.1, x.1.2.2.2.1, x.1.2.2.2.2.1, x.1.2.2.2.2.2), y1.1, x.2.2.1, x.2.2.2.1, x.2.2.2.2.1, x.2.2.2.2.2.1, x.2.2.2.2.2.2.1, x.2.2.2.2.2.2.2.1, x.2.2.2.2.2.2.2.2), y1.2.1, y1.2.2.1, y1.2.2.2.1, y1.2.2.2.2.1, y1.2.2.2.2.2.1, y1.2.2.2.2.2.2.1, y1.2.2.2.2.2.2.2.1, y1.2.2.2.2.2.2.2.2)) fun y2 => (obind (mr22_Join ((geti (T := (.sl (.int .i64))) y1.2.1 x.2.2.1), y2)) fun y3 => (obind (mr22_Tick (y3, x.2.2.1)) fun y4 => (obind (mr22_Copy y4) fun y5 => (chk (inB x.2.2.1 (List.length y1.2.1)) fun _ => (chk (inB x.2.2.1 (List.length y1.2.1)) fun _ => (obind (mr22_Releases ((x.1.1, x.1.2.1, x.1.2.2.1, x.1.2.2.2.1, x.1.2.2.2.2.1, x.1.2.2.2.2.2), x.2.2.1, x.2.2.2.1, x.2.2.2.2.1, x.2.2.2.2.2.1, x.2.2.2.2.2.2.1, x.2.2.2.2.2.2.2.1, x.2.2.2.2.2.2.2.2)) fun y6 => (jn (α := ((List ((List UInt8) × Int × Int × Bool × Int)) × (List ((List UInt8) × Bool)) × (List ((List UInt8) × Int)) × (List (List UInt8)) × (List (List UInt8)) × List (Int × Int × Int)) × (List Int) × (Int × Int × Int × Int × Int × (List Int) × List Int) × (List (List Int)) × (List (List Int)) × (List (List Int)) × (List (List Int)) × (List (List Int)) × (List (List Int)) × (List (List Int)) × List Int) (jn (α := Bool × ((List ((List UInt8) × Int × Int × Bool × Int)) × (List ((List UInt8) × Bool)) × (List ((List UInt8) × Int)) × (List (List UInt8)) × (List (List UInt8)) × List (Int × Int × Int)) × (List Int) × (Int × Int × Int × Int × Int × (List Int) × List Int) × (List (List Int)) × (List (List Int)) × (List (List Int)) × (List (List Int)) × (List (List Int)) × (List (List Int)) × (List (List Int)) × List Int) (bcase (ile 0 y6.1) (some (Sum.inr ((ilt y6.1 (Int.ofNat (List.length y1.2.2.2.1))), (x.1.1, x.1.2.1, x.1.2.2.1, x.1.2.2.2.1, x.1.2.2.2.2.1, x.1.2.2.2.2.2), y1.1, (x.2.2.1, x.2.2.2.1, x.2.2.2.2.1, x.2.2.2.2.2.1, x.2.2.2.2.2.2.1, x.2.2.2.2.2.2.2.1, x.2.2.2.2.2.2.2.2), (seti y1.2.1 x.2.2.1 y5), y1.2.2.1, y1.2.2.2.1, y1.2.2.2.2.1, y1.2.2.2.2.2.1, y1.2.2.2.2.2.2.1, y1.2.2.2.2.2.2.2.1, y1.2.2.2.2.2.2.2.2))) (some (Sum.inr (false, (x.1.1, x.1.2.1, x.1.2.2.1, x.1.2.2.2.1, x.1.2.2.2.2.1, x.1.2.2.2.2.2), y1.1, (x.2.2.1, x.2.2.2.1, x.2.2.2.2.1, x.2.2.2.2.2.1, x.2.2.2.2.2.2.1, x.2.2.2.2.2.2.2.1, x.2.2.2.2.2.2.2.2), (seti y1.2.1 x.2.2.1 y5), y1.2.2.1, y1.2.2.2.1, y1.2.2.2.2.1, y1.2.2.2.2.2.1, y1.2.2.2.2.2.2.1, y1.2.2.2.2.2.2.2.1, y1.2.2.2.2.2.2.2.2)))) fun x8 => (bcase x8.1 (bcase y6.2 (chk (inB y6.1 (List.length x8.2.2.2.2.2.2.2.1)) fun _ => (chk (inB y6.1 (List.length x8.2.2.2.2.2.2.2.1)) fun _ => (obind (mr22_Join ((geti (T := (.sl (.int .i64))) x8.2.2.2.2.2.2.2.1 y6.1), y4)) fun y9 => (chk (inB y6.1 (List.length x8.2.2.2.2.2.2.2.1)) fun _ => (chk (inB y6.1 (List.length x8.2.2.2.2.2.2.2.1)) fun _ => (some (Sum.inr ((x8.2.1.1, x8.2.1.2.1, x8.2.1.2.2.1, x8.2.1.2.2.2.1, x8.2.1.2.2.2.2.1, x8.2.1.2.2.2.2.2), x8.2.2.1, (x8.2.2.2.1.1, x8.2.2.2.1.2.1, x8.2.2.2.1.2.2.1, x8.2.2.2.1.2.2.2.1, x8.2.2.2.1.2.2.2.2.1, x8.2.2.2.1.2.2.2.2.2.1, x8.2.2.2.1.2.2.2.2.2.2), x8.2.2.2.2.1, x8.2.2.2.2.2.1, x8.2.2.2.2.2.2.1, (seti x8.2.2.2.2.2.2.2.1 y6.1 y9), x8.2.2.2.2.2.2.2.2.1, x8.2.2.2.2.2.2.2.2.2.1, x8.2.2.2.2.2.2.2.2.2.2.1, x8.2.2.2.2.2.2.2.2.2.2.2)))))))) (chk (inB y6.1 (List.length x8.2.2.2.2.2.2.1)) fun _ => (chk (inB y6.1 (List.length x8.2.2.2.2.2.2.1)) fun _ => (obind (mr22_Join ((geti (T := (.sl (.int .i64))) x8.2.2.2.2.2.2.1 y6.1), y4)) fun y10 => (chk (inB y6.1 (List.length x8.2.2.2.2.2.2.1)) fun _ => (chk (inB y6.1 (List.length x8.2.2.2.2.2.2.1)) fun _ => (some (Sum.inr ((x8.2.1.1, x8.2.1.2.1, x8.2.1.2.2.1, x8.2.1.2.2.2.1, x8.2.1.2.2.2.2.1, x8.2.1.2.2.2.2.2), x8.2.2.1, (x8.2.2.2.1.1, x8.2.2.2.1.2.1, x8.2.2.2.1.2.2.1, x8.2.2.2.1.2.2.2.1, x8.2.2.2.1.2.2.2.2.1, x8.2.2.2.1.2.2.2.2.2.1, x8.2.2.2.1.2.2.2.2.2.2), x8.2.2.2.2.1, x8.2.2.2.2.2.1, (seti x8.2.2.2.2.2.2.1 y6.1 y10), x8.2.2.2.2.2.2.2.1, x8.2.2.2.2.2.2.2.2.1, x8.2.2.2.2.2.2.2.2.2.1, x8.2.2.2.2.2.2.2.2.2.2.1, x8.2.2.2.2.2.2.2.2.2.2.2))))))))) (some (Sum.inr ((x8.2.1.1, x8.2.1.2.1, x8.2.1.2.2.1, x8.2.1.2.2.2.1, x8.2.1.2.2.2.2.1, x8.2.1.2.2.2.2.2), x8.2.2.1, (x8.2.2.2.1.1, x8.2.2.2.1.2.1, x8.2.2.2.1.2.2.1, x8.2.2.2.1.2.2.2.1, x8.2.2.2.1.2.2.2.2.1, x8.2.2.2.1.2.2.2.2.2.1, x8.2.2.2.1.2.2.2.2.2.2), x8.2.2.2.2.1, x8.2.2.2.2.2.1, x8.2.2.2.2.2.2.1, x8.2.2.2.2.2.2.2.1, x8.2.2.2.2.2.2.2.2.1, x8.2.2.2.2.2.2.2.2.2.1, x8.2.2.2.2.2.2.2.2.2.2.1, x8.2.2.2.2.2.2.2.2.2.2.2))))) fun x7 => (jn (α := (List Int) × (List (List Int)) × (List (List Int)) × (List (List Int)) × (List (List Int)) × (List (List Int)) × (List (List Int)) × (List (List Int)) × List Int) (bcase (decide ((x7.2.2.1.2.1 : Int) = 20)) (obind (mr22_Copy y4) fun y12 => (chk (inB x7.2.2.1.2.2.1 (List.length x7.2.2.2.2.1)) fun _ => (chk (inB x7.2.2.1.2.2.1 (List.length x7.2.2.2.2.1)) fun _ => (some (Sum.inr (x7.2.1, x7.2.2.2.1, (seti x7.2.2.2.2.1 x7.2.2.1.2.2.1 y12), x7.2.2.2.2.2.1, x7.2.2.2.2.2.2.1, x7.2.2.2.2.2.2.2.1, x7.2.2.2.2.2.2.2.2.1, x7.2.2.2.2.2.2.2.2.2.1, x7.2.2.2.2.2.2.2.2.2.2)))))) (bcase (decide ((x7.2.2.1.2.1 : Int) = 4)) (chk (inB x7.2.2.1.2.2.1 (List.length x7.1.1)) fun _ => (bcase (((((geti (T := (.st (.pr .str (.pr (.int .i64) (.pr (.int .i64) (.pr .bool (.int .i64))))))) x7.1.1 x7.2.2.1.2.2.1).2).2).2).1) (chk (inB x7.2.2.1.2.2.1 (List.length x7.2.2.2.2.2.2.2.1)) fun _ => (chk (inB x7.2.2.1.2.2.1 (List.length x7.2.2.2.2.2.2.2.1)) fun _ => (obind (mr22_Join ((geti (T := (.sl (.int .i64))) x7.2.2.2.2.2.2.2.1 x7.2.2.1.2.2.1), y4)) fun y13 => (chk (inB x7.2.2.1.2.2.1 (List.length x7.2.2.2.2.2.2.2.1)) fun _ => (chk (inB x7.2.2.1.2.2.1 (List.length x7.2.2.2.2.2.2.2.1)) fun _ => (some (Sum.inr (x7.2.1, x7.2.2.2.1, x7.2.2.2.2.1, x7.2.2.2.2.2.1, x7.2.2.2.2.2.2.1, (seti x7.2.2.2.2.2.2.2.1 x7.2.2.1.2.2.1 y13), x7.2.2.2.2.2.2.2.2.1, x7.2.2.2.2.2.2.2.2.2.1, x7.2.2.2.2.2.2.2.2.2.2)))))))) (some (Sum.inr (x7.2.1, x7.2.2.2.1, x7.2.2.2.2.1, x7.2.2.2.2.2.1, x7.2.2.2.2.2.2.1, x7.2.2.2.2.2.2.2.1, x7.2.2.2.2.2.2.2.2.1, x7.2.2.2.2.2.2.2.2.2.1, x7.2.2.2.2.2.2.2.2.2.2))))) (bcase (decide ((x7.2.2.1.2.1 : Int) = 22)) (chk (inB x7.2.2.1.2.2.1 (List.length x7.2.2.2.2.2.2.2.2.1)) fun _ => (chk (inB x7.2.2.1.2.2.1 (List.length x7.2.2.2.2.2.2.2.2.1)) fun _ => (obind (mr22_Join ((geti (T := (.sl (.int .i64))) x7.2.2.2.2.2.2.2.2.1 x7.2.2.1.2.2.1), y4)) fun y14 => (chk (inB x7.2.2.1.2.2.1 (List.length x7.2.2.2.2.2.2.2.2.1)) fun _ => (chk (inB x7.2.2.1.2.2.1 (List.length x7.2.2.2.2.2.2.2.2.1)) fun _ => (some (Sum.inr (x7.2.1, x7.2.2.2.1, x7.2.2.2.2.1, x7.2.2.2.2.2.1, x7.2.2.2.2.2.2.1, x7.2.2.2.2.2.2.2.1, (seti x7.2.2.2.2.2.2.2.2.1 x7.2.2.1.2.2.1 y14), x7.2.2.2.2.2.2.2.2.2.1, x7.2.2.2.2.2.2.2.2.2.2)))))))) (bcase (decide ((x7.2.2.1.2.1 : Int) = 13)) (obind (mr22_Join (x7.2.1, y4)) fun y15 => (some (Sum.inr (y15, x7.2.2.2.1, x7.2.2.2.2.1, x7.2.2.2.2.2.1, x7.2.2.2.2.2.2.1, x7.2.2.2.2.2.2.2.1, x7.2.2.2.2.2.2.2.2.1, x7.2.2.2.2.2.2.2.2.2.1, x7.2.2.2.2.2.2.2.2.2.2)))) (bcase (decide ((x7.2.2.1.2.1 : Int) = 16)) (chk (inB x7.2.2.1.1 (List.length x7.2.2.2.2.2.2.2.2.2.2)) fun _ => (chk (inB x7.2.2.1.1 (List.length x7.2.2.2.2.2.2.2.2.2.2)) fun _ => (some (Sum.inr (x7.2.1, x7.2.2.2.1, x7.2.2.2.2.1, x7.2.2.2.2.2.1, x7.2.2.2.2.2.2.1, x7.2.2.2.2.2.2.2.1, x7.2.2.2.2.2.2.2.2.1, x7.2.2.2.2.2.2.2.2.2.1, (seti x7.2.2.2.2.2.2.2.2.2.2 x7.2.2.1.1 x7.2.2.1.2.2.1)))))) (bcase (decide ((x7.2.2.1.2.1 : Int) = 18)) (jn (α := Bool × (List Int) × (Int × Int × Int × Int × Int × (List Int) × List Int) × (List (List Int)) × (List (List Int)) × (List (List Int)) × (List (List Int)) × (List (List Int)) × (List (List Int)) × (List (List Int)) × List Int) (bcase (ile 0 x7.2.2.1.2.2.2.1) (some (Sum.inr ((ilt x7.2.2.1.2.2.2.1 (Int.ofNat (List.length x7.2.2.2.1))), x7.2.1, (x7.2.2.1.1, x7.2.2.1.2.1, x7.2.2.1.2.2.1, x7.2.2.1.2.2.2.1, x7.2.2.1.2.2.2.2.1, x7.2.2.1.2.2.2.2.2.1, x7.2.2.1.2.2.2.2.2.2), x7.2.2.2.1, x7.2.2.2.2.1, x7.2.2.2.2.2.1, x7.2.2.2.2.2.2.1, x7.2.2.2.2.2.2.2.1, x7.2.2.2.2.2.2.2.2.1, x7.2.2.2.2.2.2.2.2.2.1, x7.2.2.2.2.2.2.2.2.2.2))) (some (Sum.inr (false, x7.2.1, (x7.2.2.1.1, x7.2.2.1.2.1, x7.2.2.1.2.2.1, x7.2.2.1.2.2.2.1, x7.2.2.1.2.2.2.2.1, x7.2.2.1.2.2.2.2.2.1, x7.2.2.1.2.2.2.2.2.2), x7.2.2.2.1, x7.2.2.2.2.1, x7.2.2.2.2.2.1, x7.2.2.2.2.2.2.1, x7.2.2.2.2.2.2.2.1, x7.2.2.2.2.2.2.2.2.1, x7.2.2.2.2.2.2.2.2.2.1, x7.2.2.2.2.2.2.2.2.2.2)))) fun x16 => (bcase x16.1 (obind (mr22_Copy y4) fun y17 => (chk (inB x16.2.2.1.2.2.2.1 (List.length x16.2.2.2.2.2.2.2.2.2.1)) fun _ => (chk (inB x16.2.2.1.2.2.2.1 (List.length x16.2.2.2.2.2.2.2.2.2.1)) fun _ => (chk (inB x16.2.2.1.2.2.2.1 (List.length x16.2.2.2.2.2.2.2.2.2.2)) fun _ => (chk (inB x16.2.2.1.2.2.2.1 (List.length x16.2.2.2.2.2.2.2.2.2.2)) fun _ => (some (Sum.inr (x16.2.1, x16.2.2.2.1, x16.2.2.2.2.1, x16.2.2.2.2.2.1, x16.2.2.2.2.2.2.1, x16.2.2.2.2.2.2.2.1, x16.2.2.2.2.2.2.2.2.1, (seti x16.2.2.2.2.2.2.2.2.2.1 x16.2.2.1.2.2.2.1 y17), (seti x16.2.2.2.2.2.2.2.2.2.2 x16.2.2.1.2.2.2.1 (-1)))))))))) (some (Sum.inr (x16.2.1, x16.2.2.2.1, x16.2.2.2.2.1, x16.2.2.2.2.2.1, x16.2.2.2.2.2.2.1, x16.2.2.2.2.2.2.2.1, x16.2.2.2.2.2.2.2.2.1, x16.2.2.2.2.2.2.2.2.2.1, x16.2.2.2.2.2.2.2.2.2.2))))) (bcase (decide ((x7.2.2.1.2.1 : Int) = 19)) (it (Int × (List Int) × (Int × Int × Int × Int × Int × (List Int) × List Int) × (List (List Int)) × (List (List Int)) × (List (List Int)) × (List (List Int)) × (List (List Int)) × (List (List Int)) × (List (List Int)) × List Int) _ (fun x18 => (bcase (ilt x18.1 (Int.ofNat (List.length x7.2.2.2.2.2.2.2.2.2.2))) (jn (α := (List Int) × (Int × Int × Int × Int × Int × (List Int) × List Int) × (List (List Int)) × (List (List Int)) × (List (List Int)) × (List (List Int)) × (List (List Int)) × (List (List Int)) × (List (List Int)) × List Int) (chk (inB x18.1 (List.length x18.2.2.2.2.2.2.2.2.2.2)) fun _ => (chk (inB x18.1 (List.length x18.2.2.2.2.2.2.2.2.2.2)) fun _ => (bcase (decide (((geti (T := (.int .i64)) x18.2.2.2.2.2.2.2.2.2.2 x18.1) : Int) = x18.2.2.1.2.2.1)) (obind (mr22_Copy y4) fun y20 => (chk (inB x18.1 (List.length x18.2.2.2.2.2.2.2.2.2.1)) fun _ => (chk (inB x18.1 (List.length x18.2.2.2.2.2.2.2.2.2.1)) fun _ => (chk (inB x18.1 (List.length x18.2.2.2.2.2.2.2.2.2.2)) fun _ => (chk (inB x18.1 (List.length x18.2.2.2.2.2.2.2.2.2.2)) fun _ => (some (Sum.inr (x18.2.1, (x18.2.2.1.1, x18.2.2.1.2.1, x18.2.2.1.2.2.1, x18.2.2.1.2.2.2.1, x18.2.2.1.2.2.2.2.1, x18.2.2.1.2.2.2.2.2.1, x18.2.2.1.2.2.2.2.2.2), x18.2.2.2.1, x18.2.2.2.2.1, x18.2.2.2.2.2.1, x18.2.2.2.2.2.2.1, x18.2.2.2.2.2.2.2.1, x18.2.2.2.2.2.2.2.2.1, (seti x18.2.2.2.2.2.2.2.2.2.1 x18.1 y20), (seti x18.2.2.2.2.2.2.2.2.2.2 x18.1 (-1)))))))))) (some (Sum.inr (x18.2.1, (x18.2.2.1.1, x18.2.2.1.2.1, x18.2.2.1.2.2.1, x18.2.2.1.2.2.2.1, x18.2.2.1.2.2.2.2.1, x18.2.2.1.2.2.2.2.2.1, x18.2.2.1.2.2.2.2.2.2), x18.2.2.2.1, x18.2.2.2.2.1, x18.2.2.2.2.2.1, x18.2.2.2.2.2.2.1, x18.2.2.2.2.2.2.2.1, x18.2.2.2.2.2.2.2.2.1, x18.2.2.2.2.2.2.2.2.2.1, x18.2.2.2.2.2.2.2.2.2.2)))))) fun x19 => (some (Sum.inl ((wrapK .i64 (x18.1 + 1)), x19.1, (x19.2.1.1, x19.2.1.2.1, x19.2.1.2.2.1, x19.2.1.2.2.2.1, x19.2.1.2.2.2.2.1, x19.2.1.2.2.2.2.2.1, x19.2.1.2.2.2.2.2.2), x19.2.2.1, x19.2.2.2.1, x19.2.2.2.2.1, x19.2.2.2.2.2.1, x19.2.2.2.2.2.2.1, x19.2.2.2.2.2.2.2.1, x19.2.2.2.2.2.2.2.2.1, x19.2.2.2.2.2.2.2.2.2)))) (some (Sum.inr (Sum.inr (x18.2.1, x18.2.2.2.1, x18.2.2.2.2.1, x18.2.2.2.2.2.1, x18.2.2.2.2.2.2.1, x18.2.2.2.2.2.2.2.1, x18.2.2.2.2.2.2.2.2.1, x18.2.2.2.2.2.2.2.2.2.1, x18.2.2.2.2.2.2.2.2.2.2)))))) (0, x7.2.1, (x7.2.2.1.1, x7.2.2.1.2.1, x7.2.2.1.2.2.1, x7.2.2.1.2.2.2.1, x7.2.2.1.2.2.2.2.1, x7.2.2.1.2.2.2.2.2.1, x7.2.2.1.2.2.2.2.2.2), x7.2.2.2.1, x7.2.2.2.2.1, x7.2.2.2.2.2.1, x7.2.2.2.2.2.2.1, x7.2.2.2.2.2.2.2.1, x7.2.2.2.2.2.2.2.2.1, x7.2.2.2.2.2.2.2.2.2.1, x7.2.2.2.2.2.2.2.2.2.2)) (some (Sum.inr (x7.2.1, x7.2.2.2.1, x7.2.2.2.2.1, x7.2.2.2.2.2.1, x7.2.2.2.2.2.2.1, x7.2.2.2.2.2.2.2.1, x7.2.2.2.2.2.2.2.2.1, x7.2.2.2.2.2.2.2.2.2.1, x7.2.2.2.2.2.2.2.2.2.2)))))))))) fun x11 => (some ((x11.2.1, x11.2.2.1, x11.2.2.2.1, x11.2.2.2.2.1, x11.2.2.2.2.2.1, x11.2.2.2.2.2.2.1, x11.1, x11.2.2.2.2.2.2.2.1, x11.2.2.2.2.2.2.2.2), y4))))))))))))))
noncomputable def nr22_Step (x : ((List ((List UInt8) × Int × Int × Bool × Int)) × (List ((List UInt8) × Bool)) × (List ((List UInt8) × Int)) × (List (List UInt8)) × (List (List UInt8)) × List (Int × Int × Int)) × ((List (List Int)) × (List (List Int)) × (List (List Int)) × (List (List Int)) × (List (List Int)) × (List (List Int)) × (List Int) × (List (List Int)) × List Int) × Int × Int × Int × Int × Int × (List Int) × List Int) : Option (((List (List Int)) × (List (List Int)) × (List (List Int)) × (List (List Int)) × (List (List Int)) × (List (List Int)) × (List Int) × (List (List Int)) × List Int) × List Int) := gr22_Step @iter x
noncomputable def mr22_Step (x : ((List ((List UInt8) × Int × Int × Bool × Int)) × (List ((List UInt8) × Bool)) × (List ((List UInt8) × Int)) × (List (List UInt8)) × (List (List UInt8)) × List (Int × Int × Int)) × ((List (List Int)) × (List (List Int)) × (List (List Int)) × (List (List Int)) × (List (List Int)) × (List (List Int)) × (List Int) × (List (List Int)) × List Int) × Int × Int × Int × Int × Int × (List Int) × List Int) : Option (((List (List Int)) × (List (List Int)) × (List (List Int)) × (List (List Int)) × (List (List Int)) × (List (List Int)) × (List Int) × (List (List Int)) × List Int) × List Int) := gr22_Step @iterC x
/-- interleave/interleaveref22.Start -/
noncomputable def gr22_Start (it : Itr) (x : (List ((List UInt8) × Int × Int × Bool × Int)) × (List ((List UInt8) × Bool)) × (List ((List UInt8) × Int)) × (List (List UInt8)) × (List (List UInt8)) × List (Int × Int × Int)) : Option ((List (List Int)) × (List (List Int)) × (List (List Int)) × (List (List Int)) × (List (List Int)) × (List (List Int)) × (List Int) × (List (List Int)) × List Int) :=
  (chk (ile 0 (Int.ofNat (List.length x.2.2.2.2.1)) && ile (Int.ofNat (List.length x.2.2.2.2.1)) (Int.ofNat (List.length x.2.2.2.2.1)) && roomy (Int.toNat (Int.ofNat (List.length x.2.2.2.2.1))) 24) fun _ => (chk (ile 0 (Int.ofNat (List.length x.2.2.2.2.1)) && ile (Int.ofNat (List.length x.2.2.2.2.1)) (Int.ofNat (List.length x.2.2.2.2.1)) && roomy (Int.toNat (Int.ofNat (List.length x.2.2.2.2.1))) 24) fun _ => (chk (ile 0 (Int.ofNat (List.length x.2.1)) && ile (Int.ofNat (List.length x.2.1)) (Int.ofNat (List.length x.2.1)) && roomy (Int.toNat (Int.ofNat (List.length x.2.1))) 24) fun _ => (chk (ile 0 (Int.ofNat (List.length x.2.1)) && ile (Int.ofNat (List.length x.2.1)) (Int.ofNat (List.length x.2.1)) && roomy (Int.toNat (Int.ofNat (List.length x.2.1))) 24) fun _ => (chk (ile 0 (Int.ofNat (List.length x.1)) && ile (Int.ofNat (List.length x.1)) (Int.ofNat (List.length x.1)) && roomy (Int.toNat (Int.ofNat (List.length x.1))) 24) fun _ => (chk (ile 0 (Int.ofNat (List.length x.2.2.2.1)) && ile (Int.ofNat (List.length x.2.2.2.1)) (Int.ofNat (List.length x.2.2.2.1)) && roomy (Int.toNat (Int.ofNat (List.length x.2.2.2.1))) 24) fun _ => (chk (ile 0 (Int.ofNat (List.length x.2.2.2.2.1)) && ile (Int.ofNat (List.length x.2.2.2.2.1)) (Int.ofNat (List.length x.2.2.2.2.1)) && roomy (Int.toNat (Int.ofNat (List.length x.2.2.2.2.1))) 24) fun _ => (chk (ile 0 (Int.ofNat (List.length x.2.2.2.2.1)) && ile (Int.ofNat (List.length x.2.2.2.2.1)) (Int.ofNat (List.length x.2.2.2.2.1)) && roomy (Int.toNat (Int.ofNat (List.length x.2.2.2.2.1))) 8) fun _ => (it (Int × (List (List Int)) × (List (List Int)) × (List (List Int)) × (List (List Int)) × (List (List Int)) × (List (List Int)) × (List (List Int)) × List Int) _ (fun x1 => (bcase (ilt x1.1 (Int.ofNat (List.length (List.replicate (Int.toNat (Int.ofNat (List.length x.2.2.2.2.1))) (0 : Int))))) (chk (inB x1.1 (List.length x1.2.2.2.2.2.2.2.2)) fun _ => (chk (inB x1.1 (List.length x1.2.2.2.2.2.2.2.2)) fun _ => (some (Sum.inl ((wrapK .i64 (x1.1 + 1)), x1.2.1, x1.2.2.1, x1.2.2.2.1, x1.2.2.2.2.1, x1.2.2.2.2.2.1, x1.2.2.2.2.2.2.1, x1.2.2.2.2.2.2.2.1, (seti x1.2.2.2.2.2.2.2.2 x1.1 (-1))))))) (some (Sum.inr (x1.2.1, x1.2.2.1, x1.2.2.2.1, x1.2.2.2.2.1, x1.2.2.2.2.2.1, x1.2.2.2.2.2.2.1, ([] : List Int), x1.2.2.2.2.2.2.2.1, x1.2.2.2.2.2.2.2.2))))) (0, (List.replicate (Int.toNat (Int.ofNat (List.length x.2.2.2.2.1))) ([] : List Int)), (List.replicate (Int.toNat (Int.ofNat (List.length x.2.2.2.2.1))) ([] : List Int)), (List.replicate (Int.toNat (Int.ofNat (List.length x.2.1))) ([] : List Int)), (List.replicate (Int.toNat (Int.ofNat (List.length x.2.1))) ([] : List Int)), (List.replicate (Int.toNat (Int.ofNat (List.length x.1))) ([] : List Int)), (List.replicate (Int.toNat (Int.ofNat (List.length x.2.2.2.1))) ([] : List Int)), (List.replicate (Int.toNat (Int.ofNat (List.length x.2.2.2.2.1))) ([] : List Int)), (List.replicate (Int.toNat (Int.ofNat (List.length x.2.2.2.2.1))) (0 : Int))))))))))))
noncomputable def nr22_Start (x : (List ((List UInt8) × Int × Int × Bool × Int)) × (List ((List UInt8) × Bool)) × (List ((List UInt8) × Int)) × (List (List UInt8)) × (List (List UInt8)) × List (Int × Int × Int)) : Option ((List (List Int)) × (List (List Int)) × (List (List Int)) × (List (List Int)) × (List (List Int)) × (List (List Int)) × (List Int) × (List (List Int)) × List Int) := gr22_Start @iter x
noncomputable def mr22_Start (x : (List ((List UInt8) × Int × Int × Bool × Int)) × (List ((List UInt8) × Bool)) × (List ((List UInt8) × Int)) × (List (List UInt8)) × (List (List UInt8)) × List (Int × Int × Int)) : Option ((List (List Int)) × (List (List Int)) × (List (List Int)) × (List (List Int)) × (List (List Int)) × (List (List Int)) × (List Int) × (List (List Int)) × List Int) := gr22_Start @iterC x
/-- interleave/interleavescene.World -/
noncomputable def gscene_World (it : Itr) (x : Unit) : Option ((List ((List UInt8) × Int × Int × Bool × Int)) × (List ((List UInt8) × Bool)) × (List ((List UInt8) × Int)) × (List (List UInt8)) × (List (List UInt8)) × List (Int × Int × Int)) :=
  (it (Int × (List ((List UInt8) × Int × Int × Bool × Int)) × (List ((List UInt8) × Bool)) × (List ((List UInt8) × Int)) × (List (List UInt8)) × (List (List UInt8)) × List (Int × Int × Int)) _ (fun x1 => (bcase (ilt x1.1 (Int.ofNat (List.length ([[109, 97, 105, 110], [116, 49], [116, 50], [116, 51]])))) (it (Int × (List ((List UInt8) × Int × Int × Bool × Int)) × (List ((List UInt8) × Bool)) × (List ((List UInt8) × Int)) × (List (List UInt8)) × (List (List UInt8)) × List (Int × Int × Int)) _ (fun x2 => (bcase (ilt x2.1 6) (chk (roomy (List.length x2.2.2.2.2.2.2 + List.length ([(x1.1, x2.1, (wrapK .i64 ((wrapK .i64 ((wrapK .i64 (10 * x1.1)) + x2.1)) + 1)))])) 24) fun _ => (some (Sum.inl ((wrapK .i64 (x2.1 + 1)), x2.2.1, x2.2.2.1, x2.2.2.2.1, x2.2.2.2.2.1, x2.2.2.2.2.2.1, (x2.2.2.2.2.2.2 ++ ([(x1.1, x2.1, (wrapK .i64 ((wrapK .i64 ((wrapK .i64 (10 * x1.1)) + x2.1)) + 1)))])))))) (some (Sum.inr (Sum.inl ((wrapK .i64 (x1.1 + 1)), x2.2.1, x2.2.2.1, x2.2.2.2.1, x2.2.2.2.2.1, x2.2.2.2.2.2.1, x2.2.2.2.2.2.2)))))) (0, x1.2.1, x1.2.2.1, x1.2.2.2.1, x1.2.2.2.2.1, x1.2.2.2.2.2.1, x1.2.2.2.2.2.2)) (some (Sum.inr (x1.2.1, x1.2.2.1, x1.2.2.2.1, x1.2.2.2.2.1, x1.2.2.2.2.2.1, x1.2.2.2.2.2.2))))) (0, [([120], 0, 0, false, 0), ([121], 0, 0, false, 1), ([118], 0, 0, true, 0), ([113], 0, 2, false, 0), ([113], 1, 2, false, 0)], [([109], false), ([110], false), ([114], true)], [([99], 0)], [[102]], [[109, 97, 105, 110], [116, 49], [116, 50], [116, 51]], ([] : List (Int × Int × Int))))
noncomputable def nscene_World (x : Unit) : Option ((List ((List UInt8) × Int × Int × Bool × Int)) × (List ((List UInt8) × Bool)) × (List ((List UInt8) × Int)) × (List (List UInt8)) × (List (List UInt8)) × List (Int × Int × Int)) := gscene_World @iter x
noncomputable def mscene_World (x : Unit) : Option ((List ((List UInt8) × Int × Int × Bool × Int)) × (List ((List UInt8) × Bool)) × (List ((List UInt8) × Int)) × (List (List UInt8)) × (List (List UInt8)) × List (Int × Int × Int)) := gscene_World @iterC x
def mawake (_ : Unit) : Option (Bool) := some true
/-- interleave/interleavelaw23.HBStarts -/
noncomputable def mlaw23_HBStarts (x : Int × Int × Int × Int) : Option (Bool) :=
  (jn (α := (List ((List UInt8) × Int × Int × Bool × Int)) × (List ((List UInt8) × Bool)) × (List (List UInt8)) × List (List UInt8)) (chk (ile 0 (Int.tmod x.1 20) && ile (Int.tmod x.1 20) (Int.tmod x.1 20) && roomy (Int.toNat (Int.tmod x.1 20)) 48) fun _ => (chk (ile 0 (Int.tmod x.2.1 10) && ile (Int.tmod x.2.1 10) (Int.tmod x.2.1 10) && roomy (Int.toNat (Int.tmod x.2.1 10)) 24) fun _ => (chk (ile 0 (Int.tmod x.2.2.1 5) && ile (Int.tmod x.2.2.1 5) (Int.tmod x.2.2.1 5) && roomy (Int.toNat (Int.tmod x.2.2.1 5)) 16) fun _ => (chk (ile 0 (Int.tmod x.2.2.2 6) && ile (Int.tmod x.2.2.2 6) (Int.tmod x.2.2.2 6) && roomy (Int.toNat (Int.tmod x.2.2.2 6)) 16) fun _ => (some (Sum.inr ((List.replicate (Int.toNat (Int.tmod x.1 20)) (([], (0, (0, (false, 0)))) : (List UInt8) × Int × Int × Bool × Int)), (List.replicate (Int.toNat (Int.tmod x.2.1 10)) (([], false) : (List UInt8) × Bool)), (List.replicate (Int.toNat (Int.tmod x.2.2.1 5)) ([] : List UInt8)), (List.replicate (Int.toNat (Int.tmod x.2.2.2 6)) ([] : List UInt8))))))))) fun x1 => (jn (α := Bool) (obind (mhb_Start (x1.1, x1.2.1, ([] : List ((List UInt8) × Int)), x1.2.2.1, x1.2.2.2, ([] : List (Int × Int × Int)))) fun y3 => (obind (mr22_Start (x1.1, x1.2.1, ([] : List ((List UInt8) × Int)), x1.2.2.1, x1.2.2.2, ([] : List (Int × Int × Int)))) fun y4 => (obind (mr22_SameHB (y3, y4)) fun y5 => (bcase y5 (obind (mawake ()) fun y6 => (some (Sum.inr y6))) (some (Sum.inr false)))))) fun x2 => (some x2)))
/-- interleave/interleavelaw23.HBAny -/
noncomputable def glaw23_HBAny (it : Itr) (x : List (Int × Int × Int × Int)) : Option (Bool) :=
  (obind (mscene_World ()) fun y1 => (obind (mhb_Start (y1.1, y1.2.1, y1.2.2.1, y1.2.2.2.1, y1.2.2.2.2.1, y1.2.2.2.2.2)) fun y2 => (obind (mr22_Start (y1.1, y1.2.1, y1.2.2.1, y1.2.2.2.1, y1.2.2.2.2.1, y1.2.2.2.2.2)) fun y3 => (jn (α := Unit) (it (Int × ((List ((List UInt8) × Int × Int × Bool × Int)) × (List ((List UInt8) × Bool)) × (List ((List UInt8) × Int)) × (List (List UInt8)) × (List (List UInt8)) × List (Int × Int × Int)) × ((List (List Int)) × (List (List Int)) × (List (List Int)) × (List (List Int)) × (List (List Int)) × (List (List Int)) × (List Int) × (List (List Int)) × List Int) × (List (List Int)) × (List (List Int)) × (List (List Int)) × (List (List Int)) × (List (List Int)) × (List (List Int)) × (List Int) × (List (List Int)) × List Int) _ (fun x5 => (bcase (ilt x5.1 (Int.ofNat (List.length x))) (chk (inB x5.1 (List.length x)) fun _ => (bcase (ile 40 x5.1) (some (Sum.inr (Sum.inr ()))) (jn (α := ((List ((List UInt8) × Int × Int × Bool × Int)) × (List ((List UInt8) × Bool)) × (List ((List UInt8) × Int)) × (List (List UInt8)) × (List (List UInt8)) × List (Int × Int × Int)) × ((List (List Int)) × (List (List Int)) × (List (List Int)) × (List (List Int)) × (List (List Int)) × (List (List Int)) × (List Int) × (List (List Int)) × List Int) × ((List (List Int)) × (List (List Int)) × (List (List Int)) × (List (List Int)) × (List (List Int)) × (List (List Int)) × (List Int) × (List (List Int)) × List Int) × Int × Int × Int × Int × Int) (jn (α := Bool × ((List ((List UInt8) × Int × Int × Bool × Int)) × (List ((List UInt8) × Bool)) × (List ((List UInt8) × Int)) × (List (List UInt8)) × (List (List UInt8)) × List (Int × Int × Int)) × ((List (List Int)) × (List (List Int)) × (List (List Int)) × (List (List Int)) × (List (List Int)) × (List (List Int)) × (List Int) × (List (List Int)) × List Int) × ((List (List Int)) × (List (List Int)) × (List (List Int)) × (List (List Int)) × (List (List Int)) × (List (List Int)) × (List Int) × (List (List Int)) × List Int) × (Int × Int × Int × Int) × Int × Int × Int × Int × Int) (bcase (decide (((wrapK .i64 (1 + (Int.tmod (wrapK .i64 (((geti (T := (.st (.pr (.int .u8) (.pr (.int .u8) (.pr (.int .u8) (.int .u8)))))) x x5.1).2).1)) 23))) : Int) = 3)) (some (Sum.inr ((decide (((wrapK .i64 (1 + (Int.tmod (wrapK .i64 (((geti (T := (.st (.pr (.int .u8) (.pr (.int .u8) (.pr (.int .u8) (.int .u8)))))) x x5.1).2).1)) 23))) : Int) = 3)), (x5.2.1.1, x5.2.1.2.1, x5.2.1.2.2.1, x5.2.1.2.2.2.1, x5.2.1.2.2.2.2.1, x5.2.1.2.2.2.2.2), (x5.2.2.1.1, x5.2.2.1.2.1, x5.2.2.1.2.2.1, x5.2.2.1.2.2.2.1, x5.2.2.1.2.2.2.2.1, x5.2.2.1.2.2.2.2.2.1, x5.2.2.1.2.2.2.2.2.2.1, x5.2.2.1.2.2.2.2.2.2.2.1, x5.2.2.1.2.2.2.2.2.2.2.2), (x5.2.2.2.1, x5.2.2.2.2.1, x5.2.2.2.2.2.1, x5.2.2.2.2.2.2.1, x5.2.2.2.2.2.2.2.1, x5.2.2.2.2.2.2.2.2.1, x5.2.2.2.2.2.2.2.2.2.1, x5.2.2.2.2.2.2.2.2.2.2.1, x5.2.2.2.2.2.2.2.2.2.2.2), ((geti (T := (.st (.pr (.int .u8) (.pr (.int .u8) (.pr (.int .u8) (.int .u8)))))) x x5.1).1, ((geti (T := (.st (.pr (.int .u8) (.pr (.int .u8) (.pr (.int .u8) (.int .u8)))))) x x5.1).2).1, (((geti (T := (.st (.pr (.int .u8) (.pr (.int .u8) (.pr (.int .u8) (.int .u8)))))) x x5.1).2).2).1, (((geti (T := (.st (.pr (.int .u8) (.pr (.int .u8) (.pr (.int .u8) (.int .u8)))))) x x5.1).2).2).2), (Int.tmod (wrapK .i64 ((geti (T := (.st (.pr (.int .u8) (.pr (.int .u8) (.pr (.int .u8) (.int .u8)))))) x x5.1).1)) 4), (wrapK .i64 (1 + (Int.tmod (wrapK .i64 (((geti (T := (.st (.pr (.int .u8) (.pr (.int .u8) (.pr (.int .u8) (.int .u8)))))) x x5.1).2).1)) 23))), 0, (wrapK .i64 ((wrapK .i64 (Int.tmod ((((geti (T := (.st (.pr (.int .u8) (.pr (.int .u8) (.pr (.int .u8) (.int .u8)))))) x x5.1).2).2).2) 6)) - 1)), 0))) (some (Sum.inr ((decide (((wrapK .i64 (1 + (Int.tmod (wrapK .i64 (((geti (T := (.st (.pr (.int .u8) (.pr (.int .u8) (.pr (.int .u8) (.int .u8)))))) x x5.1).2).1)) 23))) : Int) = 4)), (x5.2.1.1, x5.2.1.2.1, x5.2.1.2.2.1, x5.2.1.2.2.2.1, x5.2.1.2.2.2.2.1, x5.2.1.2.2.2.2.2), (x5.2.2.1.1, x5.2.2.1.2.1, x5.2.2.1.2.2.1, x5.2.2.1.2.2.2.1, x5.2.2.1.2.2.2.2.1, x5.2.2.1.2.2.2.2.2.1, x5.2.2.1.2.2.2.2.2.2.1, x5.2.2.1.2.2.2.2.2.2.2.1, x5.2.2.1.2.2.2.2.2.2.2.2), (x5.2.2.2.1, x5.2.2.2.2.1, x5.2.2.2.2.2.1, x5.2.2.2.2.2.2.1, x5.2.2.2.2.2.2.2.1, x5.2.2.2.2.2.2.2.2.1, x5.2.2.2.2.2.2.2.2.2.1, x5.2.2.2.2.2.2.2.2.2.2.1, x5.2.2.2.2.2.2.2.2.2.2.2), ((geti (T := (.st (.pr (.int .u8) (.pr (.int .u8) (.pr (.int .u8) (.int .u8)))))) x x5.1).1, ((geti (T := (.st (.pr (.int .u8) (.pr (.int .u8) (.pr (.int .u8) (.int .u8)))))) x x5.1).2).1, (((geti (T := (.st (.pr (.int .u8) (.pr (.int .u8) (.pr (.int .u8) (.int .u8)))))) x x5.1).2).2).1, (((geti (T := (.st (.pr (.int .u8) (.pr (.int .u8) (.pr (.int .u8) (.int .u8)))))) x x5.1).2).2).2), (Int.tmod (wrapK .i64 ((geti (T := (.st (.pr (.int .u8) (.pr (.int .u8) (.pr (.int .u8) (.int .u8)))))) x x5.1).1)) 4), (wrapK .i64 (1 + (Int.tmod (wrapK .i64 (((geti (T := (.st (.pr (.int .u8) (.pr (.int .u8) (.pr (.int .u8) (.int .u8)))))) x x5.1).2).1)) 23))), 0, (wrapK .i64 ((wrapK .i64 (Int.tmod ((((geti (T := (.st (.pr (.int .u8) (.pr (.int .u8) (.pr (.int .u8) (.int .u8)))))) x x5.1).2).2).2) 6)) - 1)), 0)))) fun x7 => (bcase x7.1 (chk (!decide (((Int.ofNat (List.length x7.2.1.1)) : Int) = 0)) fun _ => (some (Sum.inr ((x7.2.1.1, x7.2.1.2.1, x7.2.1.2.2.1, x7.2.1.2.2.2.1, x7.2.1.2.2.2.2.1, x7.2.1.2.2.2.2.2), (x7.2.2.1.1, x7.2.2.1.2.1, x7.2.2.1.2.2.1, x7.2.2.1.2.2.2.1, x7.2.2.1.2.2.2.2.1, x7.2.2.1.2.2.2.2.2.1, x7.2.2.1.2.2.2.2.2.2.1, x7.2.2.1.2.2.2.2.2.2.2.1, x7.2.2.1.2.2.2.2.2.2.2.2), (x7.2.2.2.1.1, x7.2.2.2.1.2.1, x7.2.2.2.1.2.2.1, x7.2.2.2.1.2.2.2.1, x7.2.2.2.1.2.2.2.2.1, x7.2.2.2.1.2.2.2.2.2.1, x7.2.2.2.1.2.2.2.2.2.2.1, x7.2.2.2.1.2.2.2.2.2.2.2.1, x7.2.2.2.1.2.2.2.2.2.2.2.2), x7.2.2.2.2.2.1, x7.2.2.2.2.2.2.1, (Int.tmod (wrapK .i64 x7.2.2.2.2.1.2.2.1) (Int.ofNat (List.length x7.2.1.1))), x7.2.2.2.2.2.2.2.2.1, x7.2.2.2.2.2.2.2.2.2)))) (jn (α := Bool × ((List ((List UInt8) × Int × Int × Bool × Int)) × (List ((List UInt8) × Bool)) × (List ((List UInt8) × Int)) × (List (List UInt8)) × (List (List UInt8)) × List (Int × Int × Int)) × ((List (List Int)) × (List (List Int)) × (List (List Int)) × (List (List Int)) × (List (List Int)) × (List (List Int)) × (List Int) × (List (List Int)) × List Int) × ((List (List Int)) × (List (List Int)) × (List (List Int)) × (List (List Int)) × (List (List Int)) × (List (List Int)) × (List Int) × (List (List Int)) × List Int) × (Int × Int × Int × Int) × Int × Int × Int × Int × Int) (bcase (decide (((wrapK .i64 (1 + (Int.tmod (wrapK .i64 (((geti (T := (.st (.pr (.int .u8) (.pr (.int .u8) (.pr (.int .u8) (.int .u8)))))) x x5.1).2).1)) 23))) : Int) = 6)) (some (Sum.inr ((decide (((wrapK .i64 (1 + (Int.tmod (wrapK .i64 (((geti (T := (.st (.pr (.int .u8) (.pr (.int .u8) (.pr (.int .u8) (.int .u8)))))) x x5.1).2).1)) 23))) : Int) = 6)), (x7.2.1.1, x7.2.1.2.1, x7.2.1.2.2.1, x7.2.1.2.2.2.1, x7.2.1.2.2.2.2.1, x7.2.1.2.2.2.2.2), (x7.2.2.1.1, x7.2.2.1.2.1, x7.2.2.1.2.2.1, x7.2.2.1.2.2.2.1, x7.2.2.1.2.2.2.2.1, x7.2.2.1.2.2.2.2.2.1, x7.2.2.1.2.2.2.2.2.2.1, x7.2.2.1.2.2.2.2.2.2.2.1, x7.2.2.1.2.2.2.2.2.2.2.2), (x7.2.2.2.1.1, x7.2.2.2.1.2.1, x7.2.2.2.1.2.2.1, x7.2.2.2.1.2.2.2.1, x7.2.2.2.1.2.2.2.2.1, x7.2.2.2.1.2.2.2.2.2.1, x7.2.2.2.1.2.2.2.2.2.2.1, x7.2.2.2.1.2.2.2.2.2.2.2.1, x7.2.2.2.1.2.2.2.2.2.2.2.2), (x7.2.2.2.2.1.1, x7.2.2.2.2.1.2.1, x7.2.2.2.2.1.2.2.1, x7.2.2.2.2.1.2.2.2), x7.2.2.2.2.2.1, x7.2.2.2.2.2.2.1, x7.2.2.2.2.2.2.2.1, x7.2.2.2.2.2.2.2.2.1, x7.2.2.2.2.2.2.2.2.2))) (some (Sum.inr ((decide (((wrapK .i64 (1 + (Int.tmod (wrapK .i64 (((geti (T := (.st (.pr (.int .u8) (.pr (.int .u8) (.pr (.int .u8) (.int .u8)))))) x x5.1).2).1)) 23))) : Int) = 7)), (x7.2.1.1, x7.2.1.2.1, x7.2.1.2.2.1, x7.2.1.2.2.2.1, x7.2.1.2.2.2.2.1, x7.2.1.2.2.2.2.2), (x7.2.2.1.1, x7.2.2.1.2.1, x7.2.2.1.2.2.1, x7.2.2.1.2.2.2.1, x7.2.2.1.2.2.2.2.1, x7.2.2.1.2.2.2.2.2.1, x7.2.2.1.2.2.2.2.2.2.1, x7.2.2.1.2.2.2.2.2.2.2.1, x7.2.2.1.2.2.2.2.2.2.2.2), (x7.2.2.2.1.1, x7.2.2.2.1.2.1, x7.2.2.2.1.2.2.1, x7.2.2.2.1.2.2.2.1, x7.2.2.2.1.2.2.2.2.1, x7.2.2.2.1.2.2.2.2.2.1, x7.2.2.2.1.2.2.2.2.2.2.1, x7.2.2.2.1.2.2.2.2.2.2.2.1, x7.2.2.2.1.2.2.2.2.2.2.2.2), (x7.2.2.2.2.1.1, x7.2.2.2.2.1.2.1, x7.2.2.2.2.1.2.2.1, x7.2.2.2.2.1.2.2.2), x7.2.2.2.2.2.1, x7.2.2.2.2.2.2.1, x7.2.2.2.2.2.2.2.1, x7.2.2.2.2.2.2.2.2.1, x7.2.2.2.2.2.2.2.2.2)))) fun x8 => (bcase x8.1 (some (Sum.inr ((x8.2.1.1, x8.2.1.2.1, x8.2.1.2.2.1, x8.2.1.2.2.2.1, x8.2.1.2.2.2.2.1, x8.2.1.2.2.2.2.2), (x8.2.2.1.1, x8.2.2.1.2.1, x8.2.2.1.2.2.1, x8.2.2.1.2.2.2.1, x8.2.2.1.2.2.2.2.1, x8.2.2.1.2.2.2.2.2.1, x8.2.2.1.2.2.2.2.2.2.1, x8.2.2.1.2.2.2.2.2.2.2.1, x8.2.2.1.2.2.2.2.2.2.2.2), (x8.2.2.2.1.1, x8.2.2.2.1.2.1, x8.2.2.2.1.2.2.1, x8.2.2.2.1.2.2.2.1, x8.2.2.2.1.2.2.2.2.1, x8.2.2.2.1.2.2.2.2.2.1, x8.2.2.2.1.2.2.2.2.2.2.1, x8.2.2.2.1.2.2.2.2.2.2.2.1, x8.2.2.2.1.2.2.2.2.2.2.2.2), x8.2.2.2.2.2.1, x8.2.2.2.2.2.2.1, (Int.tmod (wrapK .i64 x8.2.2.2.2.1.2.2.1) 2), x8.2.2.2.2.2.2.2.2.1, x8.2.2.2.2.2.2.2.2.2))) (jn (α := Bool × ((List ((List UInt8) × Int × Int × Bool × Int)) × (List ((List UInt8) × Bool)) × (List ((List UInt8) × Int)) × (List (List UInt8)) × (List (List UInt8)) × List (Int × Int × Int)) × ((List (List Int)) × (List (List Int)) × (List (List Int)) × (List (List Int)) × (List (List Int)) × (List (List Int)) × (List Int) × (List (List Int)) × List Int) × ((List (List Int)) × (List (List Int)) × (List (List Int)) × (List (List Int)) × (List (List Int)) × (List (List Int)) × (List Int) × (List (List Int)) × List Int) × (Int × Int × Int × Int) × Int × Int × Int × Int × Int) (bcase (decide (((wrapK .i64 (1 + (Int.tmod (wrapK .i64 (((geti (T := (.st (.pr (.int .u8) (.pr (.int .u8) (.pr (.int .u8) (.int .u8)))))) x x5.1).2).1)) 23))) : Int) = 8)) (some (Sum.inr ((decide (((wrapK .i64 (1 + (Int.tmod (wrapK .i64 (((geti (T := (.st (.pr (.int .u8) (.pr (.int .u8) (.pr (.int .u8) (.int .u8)))))) x x5.1).2).1)) 23))) : Int) = 8)), (x8.2.1.1, x8.2.1.2.1, x8.2.1.2.2.1, x8.2.1.2.2.2.1, x8.2.1.2.2.2.2.1, x8.2.1.2.2.2.2.2), (x8.2.2.1.1, x8.2.2.1.2.1, x8.2.2.1.2.2.1, x8.2.2.1.2.2.2.1, x8.2.2.1.2.2.2.2.1, x8.2.2.1.2.2.2.2.2.1, x8.2.2.1.2.2.2.2.2.2.1, x8.2.2.1.2.2.2.2.2.2.2.1, x8.2.2.1.2.2.2.2.2.2.2.2), (x8.2.2.2.1.1, x8.2.2.2.1.2.1, x8.2.2.2.1.2.2.1, x8.2.2.2.1.2.2.2.1, x8.2.2.2.1.2.2.2.2.1, x8.2.2.2.1.2.2.2.2.2.1, x8.2.2.2.1.2.2.2.2.2.2.1, x8.2.2.2.1.2.2.2.2.2.2.2.1, x8.2.2.2.1.2.2.2.2.2.2.2.2), (x8.2.2.2.2.1.1, x8.2.2.2.2.1.2.1, x8.2.2.2.2.1.2.2.1, x8.2.2.2.2.1.2.2.2), x8.2.2.2.2.2.1, x8.2.2.2.2.2.2.1, x8.2.2.2.2.2.2.2.1, x8.2.2.2.2.2.2.2.2.1, x8.2.2.2.2.2.2.2.2.2))) (bcase (decide (((wrapK .i64 (1 + (Int.tmod (wrapK .i64 (((geti (T := (.st (.pr (.int .u8) (.pr (.int .u8) (.pr (.int .u8) (.int .u8)))))) x x5.1).2).1)) 23))) : Int) = 9)) (some (Sum.inr ((decide (((wrapK .i64 (1 + (Int.tmod (wrapK .i64 (((geti (T := (.st (.pr (.int .u8) (.pr (.int .u8) (.pr (.int .u8) (.int .u8)))))) x x5.1).2).1)) 23))) : Int) = 9)), (x8.2.1.1, x8.2.1.2.1, x8.2.1.2.2.1, x8.2.1.2.2.2.1, x8.2.1.2.2.2.2.1, x8.2.1.2.2.2.2.2), (x8.2.2.1.1, x8.2.2.1.2.1, x8.2.2.1.2.2.1, x8.2.2.1.2.2.2.1, x8.2.2.1.2.2.2.2.1, x8.2.2.1.2.2.2.2.2.1, x8.2.2.1.2.2.2.2.2.2.1, x8.2.2.1.2.2.2.2.2.2.2.1, x8.2.2.1.2.2.2.2.2.2.2.2), (x8.2.2.2.1.1, x8.2.2.2.1.2.1, x8.2.2.2.1.2.2.1, x8.2.2.2.1.2.2.2.1, x8.2.2.2.1.2.2.2.2.1, x8.2.2.2.1.2.2.2.2.2.1, x8.2.2.2.1.2.2.2.2.2.2.1, x8.2.2.2.1.2.2.2.2.2.2.2.1, x8.2.2.2.1.2.2.2.2.2.2.2.2), (x8.2.2.2.2.1.1, x8.2.2.2.2.1.2.1, x8.2.2.2.2.1.2.2.1, x8.2.2.2.2.1.2.2.2), x8.2.2.2.2.2.1, x8.2.2.2.2.2.2.1, x8.2.2.2.2.2.2.2.1, x8.2.2.2.2.2.2.2.2.1, x8.2.2.2.2.2.2.2.2.2))) (bcase (decide (((wrapK .i64 (1 + (Int.tmod (wrapK .i64 (((geti (T := (.st (.pr (.int .u8) (.pr (.int .u8) (.pr (.int .u8) (.int .u8)))))) x x5.1).2).1)) 23))) : Int) = 10)) (some (Sum.inr ((decide (((wrapK .i64 (1 + (Int.tmod (wrapK .i64 (((geti (T := (.st (.pr (.int .u8) (.pr (.int .u8) (.pr (.int .u8) (.int .u8)))))) x x5.1).2).1)) 23))) : Int) = 10)), (x8.2.1.1, x8.2.1.2.1, x8.2.1.2.2.1, x8.2.1.2.2.2.1, x8.2.1.2.2.2.2.1, x8.2.1.2.2.2.2.2), (x8.2.2.1.1, x8.2.2.1.2.1, x8.2.2.1.2.2.1, x8.2.2.1.2.2.2.1, x8.2.2.1.2.2.2.2.1, x8.2.2.1.2.2.2.2.2.1, x8.2.2.1.2.2.2.2.2.2.1, x8.2.2.1.2.2.2.2.2.2.2.1, x8.2.2.1.2.2.2.2.2.2.2.2), (x8.2.2.2.1.1, x8.2.2.2.1.2.1, x8.2.2.2.1.2.2.1, x8.2.2.2.1.2.2.2.1, x8.2.2.2.1.2.2.2.2.1, x8.2.2.2.1.2.2.2.2.2.1, x8.2.2.2.1.2.2.2.2.2.2.1, x8.2.2.2.1.2.2.2.2.2.2.2.1, x8.2.2.2.1.2.2.2.2.2.2.2.2), (x8.2.2.2.2.1.1, x8.2.2.2.2.1.2.1, x8.2.2.2.2.1.2.2.1, x8.2.2.2.2.1.2.2.2), x8.2.2.2.2.2.1, x8.2.2.2.2.2.2.1, x8.2.2.2.2.2.2.2.1, x8.2.2.2.2.2.2.2.2.1, x8.2.2.2.2.2.2.2.2.2))) (some (Sum.inr ((decide (((wrapK .i64 (1 + (Int.tmod (wrapK .i64 (((geti (T := (.st (.pr (.int .u8) (.pr (.int .u8) (.pr (.int .u8) (.int .u8)))))) x x5.1).2).1)) 23))) : Int) = 11)), (x8.2.1.1, x8.2.1.2.1, x8.2.1.2.2.1, x8.2.1.2.2.2.1, x8.2.1.2.2.2.2.1, x8.2.1.2.2.2.2.2), (x8.2.2.1.1, x8.2.2.1.2.1, x8.2.2.1.2.2.1, x8.2.2.1.2.2.2.1, x8.2.2.1.2.2.2.2.1, x8.2.2.1.2.2.2.2.2.1, x8.2.2.1.2.2.2.2.2.2.1, x8.2.2.1.2.2.2.2.2.2.2.1, x8.2.2.1.2.2.2.2.2.2.2.2), (x8.2.2.2.1.1, x8.2.2.2.1.2.1, x8.2.2.2.1.2.2.1, x8.2.2.2.1.2.2.2.1, x8.2.2.2.1.2.2.2.2.1, x8.2.2.2.1.2.2.2.2.2.1, x8.2.2.2.1.2.2.2.2.2.2.1, x8.2.2.2.1.2.2.2.2.2.2.2.1, x8.2.2.2.1.2.2.2.2.2.2.2.2), (x8.2.2.2.2.1.1, x8.2.2.2.2.1.2.1, x8.2.2.2.2.1.2.2.1, x8.2.2.2.2.1.2.2.2), x8.2.2.2.2.2.1, x8.2.2.2.2.2.2.1, x8.2.2.2.2.2.2.2.1, x8.2.2.2.2.2.2.2.2.1, x8.2.2.2.2.2.2.2.2.2)))))) fun x9 => (bcase x9.1 (some (Sum.inr ((x9.2.1.1, x9.2.1.2.1, x9.2.1.2.2.1, x9.2.1.2.2.2.1, x9.2.1.2.2.2.2.1, x9.2.1.2.2.2.2.2), (x9.2.2.1.1, x9.2.2.1.2.1, x9.2.2.1.2.2.1, x9.2.2.1.2.2.2.1, x9.2.2.1.2.2.2.2.1, x9.2.2.1.2.2.2.2.2.1, x9.2.2.1.2.2.2.2.2.2.1, x9.2.2.1.2.2.2.2.2.2.2.1, x9.2.2.1.2.2.2.2.2.2.2.2), (x9.2.2.2.1.1, x9.2.2.2.1.2.1, x9.2.2.2.1.2.2.1, x9.2.2.2.1.2.2.2.1, x9.2.2.2.1.2.2.2.2.1, x9.2.2.2.1.2.2.2.2.2.1, x9.2.2.2.1.2.2.2.2.2.2.1, x9.2.2.2.1.2.2.2.2.2.2.2.1, x9.2.2.2.1.2.2.2.2.2.2.2.2), x9.2.2.2.2.2.1, x9.2.2.2.2.2.2.1, 2, x9.2.2.2.2.2.2.2.2.1, x9.2.2.2.2.2.2.2.2.2))) (jn (α := Bool × ((List ((List UInt8) × Int × Int × Bool × Int)) × (List ((List UInt8) × Bool)) × (List ((List UInt8) × Int)) × (List (List UInt8)) × (List (List UInt8)) × List (Int × Int × Int)) × ((List (List Int)) × (List (List Int)) × (List (List Int)) × (List (List Int)) × (List (List Int)) × (List (List Int)) × (List Int) × (List (List Int)) × List Int) × ((List (List Int)) × (List (List Int)) × (List (List Int)) × (List (List Int)) × (List (List Int)) × (List (List Int)) × (List Int) × (List (List Int)) × List Int) × (Int × Int × Int × Int) × Int × Int × Int × Int × Int) (bcase (decide (((wrapK .i64 (1 + (Int.tmod (wrapK .i64 (((geti (T := (.st (.pr (.int .u8) (.pr (.int .u8) (.pr (.int .u8) (.int .u8)))))) x x5.1).2).1)) 23))) : Int) = 20)) (some (Sum.inr ((decide (((wrapK .i64 (1 + (Int.tmod (wrapK .i64 (((geti (T := (.st (.pr (.int .u8) (.pr (.int .u8) (.pr (.int .u8) (.int .u8)))))) x x5.1).2).1)) 23))) : Int) = 20)), (x9.2.1.1, x9.2.1.2.1, x9.2.1.2.2.1, x9.2.1.2.2.2.1, x9.2.1.2.2.2.2.1, x9.2.1.2.2.2.2.2), (x9.2.2.1.1, x9.2.2.1.2.1, x9.2.2.1.2.2.1, x9.2.2.1.2.2.2.1, x9.2.2.1.2.2.2.2.1, x9.2.2.1.2.2.2.2.2.1, x9.2.2.1.2.2.2.2.2.2.1, x9.2.2.1.2.2.2.2.2.2.2.1, x9.2.2.1.2.2.2.2.2.2.2.2), (x9.2.2.2.1.1, x9.2.2.2.1.2.1, x9.2.2.2.1.2.2.1, x9.2.2.2.1.2.2.2.1, x9.2.2.2.1.2.2.2.2.1, x9.2.2.2.1.2.2.2.2.2.1, x9.2.2.2.1.2.2.2.2.2.2.1, x9.2.2.2.1.2.2.2.2.2.2.2.1, x9.2.2.2.1.2.2.2.2.2.2.2.2), (x9.2.2.2.2.1.1, x9.2.2.2.2.1.2.1, x9.2.2.2.2.1.2.2.1, x9.2.2.2.2.1.2.2.2), x9.2.2.2.2.2.1, x9.2.2.2.2.2.2.1, x9.2.2.2.2.2.2.2.1, x9.2.2.2.2.2.2.2.2.1, x9.2.2.2.2.2.2.2.2.2))) (some (Sum.inr ((decide (((wrapK .i64 (1 + (Int.tmod (wrapK .i64 (((geti (T := (.st (.pr (.int .u8) (.pr (.int .u8) (.pr (.int .u8) (.int .u8)))))) x x5.1).2).1)) 23))) : Int) = 21)), (x9.2.1.1, x9.2.1.2.1, x9.2.1.2.2.1, x9.2.1.2.2.2.1, x9.2.1.2.2.2.2.1, x9.2.1.2.2.2.2.2), (x9.2.2.1.1, x9.2.2.1.2.1, x9.2.2.1.2.2.1, x9.2.2.1.2.2.2.1, x9.2.2.1.2.2.2.2.1, x9.2.2.1.2.2.2.2.2.1, x9.2.2.1.2.2.2.2.2.2.1, x9.2.2.1.2.2.2.2.2.2.2.1, x9.2.2.1.2.2.2.2.2.2.2.2), (x9.2.2.2.1.1, x9.2.2.2.1.2.1, x9.2.2.2.1.2.2.1, x9.2.2.2.1.2.2.2.1, x9.2.2.2.1.2.2.2.2.1, x9.2.2.2.1.2.2.2.2.2.1, x9.2.2.2.1.2.2.2.2.2.2.1, x9.2.2.2.1.2.2.2.2.2.2.2.1, x9.2.2.2.1.2.2.2.2.2.2.2.2), (x9.2.2.2.2.1.1, x9.2.2.2.2.1.2.1, x9.2.2.2.2.1.2.2.1, x9.2.2.2.2.1.2.2.2), x9.2.2.2.2.2.1, x9.2.2.2.2.2.2.1, x9.2.2.2.2.2.2.2.1, x9.2.2.2.2.2.2.2.2.1, x9.2.2.2.2.2.2.2.2.2)))) fun x10 => (bcase x10.1 (some (Sum.inr ((x10.2.1.1, x10.2.1.2.1, x10.2.1.2.2.1, x10.2.1.2.2.2.1, x10.2.1.2.2.2.2.1, x10.2.1.2.2.2.2.2), (x10.2.2.1.1, x10.2.2.1.2.1, x10.2.2.1.2.2.1, x10.2.2.1.2.2.2.1, x10.2.2.1.2.2.2.2.1, x10.2.2.1.2.2.2.2.2.1, x10.2.2.1.2.2.2.2.2.2.1, x10.2.2.1.2.2.2.2.2.2.2.1, x10.2.2.1.2.2.2.2.2.2.2.2), (x10.2.2.2.1.1, x10.2.2.2.1.2.1, x10.2.2.2.1.2.2.1, x10.2.2.2.1.2.2.2.1, x10.2.2.2.1.2.2.2.2.1, x10.2.2.2.1.2.2.2.2.2.1, x10.2.2.2.1.2.2.2.2.2.2.1, x10.2.2.2.1.2.2.2.2.2.2.2.1, x10.2.2.2.1.2.2.2.2.2.2.2.2), x10.2.2.2.2.2.1, x10.2.2.2.2.2.2.1, (Int.tmod (wrapK .i64 x10.2.2.2.2.1.2.2.1) 4), x10.2.2.2.2.2.2.2.2.1, x10.2.2.2.2.2.2.2.2.2))) (jn (α := Bool × ((List ((List UInt8) × Int × Int × Bool × Int)) × (List ((List UInt8) × Bool)) × (List ((List UInt8) × Int)) × (List (List UInt8)) × (List (List UInt8)) × List (Int × Int × Int)) × ((List (List Int)) × (List (List Int)) × (List (List Int)) × (List (List Int)) × (List (List Int)) × (List (List Int)) × (List Int) × (List (List Int)) × List Int) × ((List (List Int)) × (List (List Int)) × (List (List Int)) × (List (List Int)) × (List (List Int)) × (List (List Int)) × (List Int) × (List (List Int)) × List Int) × Int × Int × Int × Int × Int) (bcase (decide (((wrapK .i64 (1 + (Int.tmod (wrapK .i64 (((geti (T := (.st (.pr (.int .u8) (.pr (.int .u8) (.pr (.int .u8) (.int .u8)))))) x x5.1).2).1)) 23))) : Int) = 16)) (some (Sum.inr ((decide (((wrapK .i64 (1 + (Int.tmod (wrapK .i64 (((geti (T := (.st (.pr (.int .u8) (.pr (.int .u8) (.pr (.int .u8) (.int .u8)))))) x x5.1).2).1)) 23))) : Int) = 16)), (x10.2.1.1, x10.2.1.2.1, x10.2.1.2.2.1, x10.2.1.2.2.2.1, x10.2.1.2.2.2.2.1, x10.2.1.2.2.2.2.2), (x10.2.2.1.1, x10.2.2.1.2.1, x10.2.2.1.2.2.1, x10.2.2.1.2.2.2.1, x10.2.2.1.2.2.2.2.1, x10.2.2.1.2.2.2.2.2.1, x10.2.2.1.2.2.2.2.2.2.1, x10.2.2.1.2.2.2.2.2.2.2.1, x10.2.2.1.2.2.2.2.2.2.2.2), (x10.2.2.2.1.1, x10.2.2.2.1.2.1, x10.2.2.2.1.2.2.1, x10.2.2.2.1.2.2.2.1, x10.2.2.2.1.2.2.2.2.1, x10.2.2.2.1.2.2.2.2.2.1, x10.2.2.2.1.2.2.2.2.2.2.1, x10.2.2.2.1.2.2.2.2.2.2.2.1, x10.2.2.2.1.2.2.2.2.2.2.2.2), x10.2.2.2.2.2.1, x10.2.2.2.2.2.2.1, x10.2.2.2.2.2.2.2.1, x10.2.2.2.2.2.2.2.2.1, x10.2.2.2.2.2.2.2.2.2))) (bcase (decide (((wrapK .i64 (1 + (Int.tmod (wrapK .i64 (((geti (T := (.st (.pr (.int .u8) (.pr (.int .u8) (.pr (.int .u8) (.int .u8)))))) x x5.1).2).1)) 23))) : Int) = 17)) (some (Sum.inr ((decide (((wrapK .i64 (1 + (Int.tmod (wrapK .i64 (((geti (T := (.st (.pr (.int .u8) (.pr (.int .u8) (.pr (.int .u8) (.int .u8)))))) x x5.1).2).1)) 23))) : Int) = 17)), (x10.2.1.1, x10.2.1.2.1, x10.2.1.2.2.1, x10.2.1.2.2.2.1, x10.2.1.2.2.2.2.1, x10.2.1.2.2.2.2.2), (x10.2.2.1.1, x10.2.2.1.2.1, x10.2.2.1.2.2.1, x10.2.2.1.2.2.2.1, x10.2.2.1.2.2.2.2.1, x10.2.2.1.2.2.2.2.2.1, x10.2.2.1.2.2.2.2.2.2.1, x10.2.2.1.2.2.2.2.2.2.2.1, x10.2.2.1.2.2.2.2.2.2.2.2), (x10.2.2.2.1.1, x10.2.2.2.1.2.1, x10.2.2.2.1.2.2.1, x10.2.2.2.1.2.2.2.1, x10.2.2.2.1.2.2.2.2.1, x10.2.2.2.1.2.2.2.2.2.1, x10.2.2.2.1.2.2.2.2.2.2.1, x10.2.2.2.1.2.2.2.2.2.2.2.1, x10.2.2.2.1.2.2.2.2.2.2.2.2), x10.2.2.2.2.2.1, x10.2.2.2.2.2.2.1, x10.2.2.2.2.2.2.2.1, x10.2.2.2.2.2.2.2.2.1, x10.2.2.2.2.2.2.2.2.2))) (bcase (decide (((wrapK .i64 (1 + (Int.tmod (wrapK .i64 (((geti (T := (.st (.pr (.int .u8) (.pr (.int .u8) (.pr (.int .u8) (.int .u8)))))) x x5.1).2).1)) 23))) : Int) = 18)) (some (Sum.inr ((decide (((wrapK .i64 (1 + (Int.tmod (wrapK .i64 (((geti (T := (.st (.pr (.int .u8) (.pr (.int .u8) (.pr (.int .u8) (.int .u8)))))) x x5.1).2).1)) 23))) : Int) = 18)), (x10.2.1.1, x10.2.1.2.1, x10.2.1.2.2.1, x10.2.1.2.2.2.1, x10.2.1.2.2.2.2.1, x10.2.1.2.2.2.2.2), (x10.2.2.1.1, x10.2.2.1.2.1, x10.2.2.1.2.2.1, x10.2.2.1.2.2.2.1, x10.2.2.1.2.2.2.2.1, x10.2.2.1.2.2.2.2.2.1, x10.2.2.1.2.2.2.2.2.2.1, x10.2.2.1.2.2.2.2.2.2.2.1, x10.2.2.1.2.2.2.2.2.2.2.2), (x10.2.2.2.1.1, x10.2.2.2.1.2.1, x10.2.2.2.1.2.2.1, x10.2.2.2.1.2.2.2.1, x10.2.2.2.1.2.2.2.2.1, x10.2.2.2.1.2.2.2.2.2.1, x10.2.2.2.1.2.2.2.2.2.2.1, x10.2.2.2.1.2.2.2.2.2.2.2.1, x10.2.2.2.1.2.2.2.2.2.2.2.2), x10.2.2.2.2.2.1, x10.2.2.2.2.2.2.1, x10.2.2.2.2.2.2.2.1, x10.2.2.2.2.2.2.2.2.1, x10.2.2.2.2.2.2.2.2.2))) (bcase (decide (((wrapK .i64 (1 + (Int.tmod (wrapK .i64 (((geti (T := (.st (.pr (.int .u8) (.pr (.int .u8) (.pr (.int .u8) (.int .u8)))))) x x5.1).2).1)) 23))) : Int) = 19)) (some (Sum.inr ((decide (((wrapK .i64 (1 + (Int.tmod (wrapK .i64 (((geti (T := (.st (.pr (.int .u8) (.pr (.int .u8) (.pr (.int .u8) (.int .u8)))))) x x5.1).2).1)) 23))) : Int) = 19)), (x10.2.1.1, x10.2.1.2.1, x10.2.1.2.2.1, x10.2.1.2.2.2.1, x10.2.1.2.2.2.2.1, x10.2.1.2.2.2.2.2), (x10.2.2.1.1, x10.2.2.1.2.1, x10.2.2.1.2.2.1, x10.2.2.1.2.2.2.1, x10.2.2.1.2.2.2.2.1, x10.2.2.1.2.2.2.2.2.1, x10.2.2.1.2.2.2.2.2.2.1, x10.2.2.1.2.2.2.2.2.2.2.1, x10.2.2.1.2.2.2.2.2.2.2.2), (x10.2.2.2.1.1, x10.2.2.2.1.2.1, x10.2.2.2.1.2.2.1, x10.2.2.2.1.2.2.2.1, x10.2.2.2.1.2.2.2.2.1, x10.2.2.2.1.2.2.2.2.2.1, x10.2.2.2.1.2.2.2.2.2.2.1, x10.2.2.2.1.2.2.2.2.2.2.2.1, x10.2.2.2.1.2.2.2.2.2.2.2.2), x10.2.2.2.2.2.1, x10.2.2.2.2.2.2.1, x10.2.2.2.2.2.2.2.1, x10.2.2.2.2.2.2.2.2.1, x10.2.2.2.2.2.2.2.2.2))) (bcase (decide (((wrapK .i64 (1 + (Int.tmod (wrapK .i64 (((geti (T := (.st (.pr (.int .u8) (.pr (.int .u8) (.pr (.int .u8) (.int .u8)))))) x x5.1).2).1)) 23))) : Int) = 22)) (some (Sum.inr ((decide (((wrapK .i64 (1 + (Int.tmod (wrapK .i64 (((geti (T := (.st (.pr (.int .u8) (.pr (.int .u8) (.pr (.int .u8) (.int .u8)))))) x x5.1).2).1)) 23))) : Int) = 22)), (x10.2.1.1, x10.2.1.2.1, x10.2.1.2.2.1, x10.2.1.2.2.2.1, x10.2.1.2.2.2.2.1, x10.2.1.2.2.2.2.2), (x10.2.2.1.1, x10.2.2.1.2.1, x10.2.2.1.2.2.1, x10.2.2.1.2.2.2.1, x10.2.2.1.2.2.2.2.1, x10.2.2.1.2.2.2.2.2.1, x10.2.2.1.2.2.2.2.2.2.1, x10.2.2.1.2.2.2.2.2.2.2.1, x10.2.2.1.2.2.2.2.2.2.2.2), (x10.2.2.2.1.1, x10.2.2.2.1.2.1, x10.2.2.2.1.2.2.1, x10.2.2.2.1.2.2.2.1, x10.2.2.2.1.2.2.2.2.1, x10.2.2.2.1.2.2.2.2.2.1, x10.2.2.2.1.2.2.2.2.2.2.1, x10.2.2.2.1.2.2.2.2.2.2.2.1, x10.2.2.2.1.2.2.2.2.2.2.2.2), x10.2.2.2.2.2.1, x10.2.2.2.2.2.2.1, x10.2.2.2.2.2.2.2.1, x10.2.2.2.2.2.2.2.2.1, x10.2.2.2.2.2.2.2.2.2))) (some (Sum.inr ((decide (((wrapK .i64 (1 + (Int.tmod (wrapK .i64 (((geti (T := (.st (.pr (.int .u8) (.pr (.int .u8) (.pr (.int .u8) (.int .u8)))))) x x5.1).2).1)) 23))) : Int) = 23)), (x10.2.1.1, x10.2.1.2.1, x10.2.1.2.2.1, x10.2.1.2.2.2.1, x10.2.1.2.2.2.2.1, x10.2.1.2.2.2.2.2), (x10.2.2.1.1, x10.2.2.1.2.1, x10.2.2.1.2.2.1, x10.2.2.1.2.2.2.1, x10.2.2.1.2.2.2.2.1, x10.2.2.1.2.2.2.2.2.1, x10.2.2.1.2.2.2.2.2.2.1, x10.2.2.1.2.2.2.2.2.2.2.1, x10.2.2.1.2.2.2.2.2.2.2.2), (x10.2.2.2.1.1, x10.2.2.2.1.2.1, x10.2.2.2.1.2.2.1, x10.2.2.2.1.2.2.2.1, x10.2.2.2.1.2.2.2.2.1, x10.2.2.2.1.2.2.2.2.2.1, x10.2.2.2.1.2.2.2.2.2.2.1, x10.2.2.2.1.2.2.2.2.2.2.2.1, x10.2.2.2.1.2.2.2.2.2.2.2.2), x10.2.2.2.2.2.1, x10.2.2.2.2.2.2.1, x10.2.2.2.2.2.2.2.1, x10.2.2.2.2.2.2.2.2.1, x10.2.2.2.2.2.2.2.2.2)))))))) fun x11 => (bcase x11.1 (some (Sum.inr ((x11.2.1.1, x11.2.1.2.1, x11.2.1.2.2.1, x11.2.1.2.2.2.1, x11.2.1.2.2.2.2.1, x11.2.1.2.2.2.2.2), (x11.2.2.1.1, x11.2.2.1.2.1, x11.2.2.1.2.2.1, x11.2.2.1.2.2.2.1, x11.2.2.1.2.2.2.2.1, x11.2.2.1.2.2.2.2.2.1, x11.2.2.1.2.2.2.2.2.2.1, x11.2.2.1.2.2.2.2.2.2.2.1, x11.2.2.1.2.2.2.2.2.2.2.2), (x11.2.2.2.1.1, x11.2.2.2.1.2.1, x11.2.2.2.1.2.2.1, x11.2.2.2.1.2.2.2.1, x11.2.2.2.1.2.2.2.2.1, x11.2.2.2.1.2.2.2.2.2.1, x11.2.2.2.1.2.2.2.2.2.2.1, x11.2.2.2.1.2.2.2.2.2.2.2.1, x11.2.2.2.1.2.2.2.2.2.2.2.2), x11.2.2.2.2.1, x11.2.2.2.2.2.1, 0, x11.2.2.2.2.2.2.2.1, x11.2.2.2.2.2.2.2.2))) (some (Sum.inr ((x11.2.1.1, x11.2.1.2.1, x11.2.1.2.2.1, x11.2.1.2.2.2.1, x11.2.1.2.2.2.2.1, x11.2.1.2.2.2.2.2), (x11.2.2.1.1, x11.2.2.1.2.1, x11.2.2.1.2.2.1, x11.2.2.1.2.2.2.1, x11.2.2.1.2.2.2.2.1, x11.2.2.1.2.2.2.2.2.1, x11.2.2.1.2.2.2.2.2.2.1, x11.2.2.1.2.2.2.2.2.2.2.1, x11.2.2.1.2.2.2.2.2.2.2.2), (x11.2.2.2.1.1, x11.2.2.2.1.2.1, x11.2.2.2.1.2.2.1, x11.2.2.2.1.2.2.2.1, x11.2.2.2.1.2.2.2.2.1, x11.2.2.2.1.2.2.2.2.2.1, x11.2.2.2.1.2.2.2.2.2.2.1, x11.2.2.2.1.2.2.2.2.2.2.2.1, x11.2.2.2.1.2.2.2.2.2.2.2.2), x11.2.2.2.2.1, x11.2.2.2.2.2.1, (-1), x11.2.2.2.2.2.2.2.1, x11.2.2.2.2.2.2.2.2))))))))))))) fun x6 => (obind (mhb_Step ((x6.1.1, x6.1.2.1, x6.1.2.2.1, x6.1.2.2.2.1, x6.1.2.2.2.2.1, x6.1.2.2.2.2.2), (x6.2.1.1, x6.2.1.2.1, x6.2.1.2.2.1, x6.2.1.2.2.2.1, x6.2.1.2.2.2.2.1, x6.2.1.2.2.2.2.2.1, x6.2.1.2.2.2.2.2.2.1, x6.2.1.2.2.2.2.2.2.2.1, x6.2.1.2.2.2.2.2.2.2.2), x6.2.2.2.1, x6.2.2.2.2.1, x6.2.2.2.2.2.1, x6.2.2.2.2.2.2.1, x6.2.2.2.2.2.2.2, ([] : List Int), ([] : List Int))) fun y12 => (obind (mr22_Step ((x6.1.1, x6.1.2.1, x6.1.2.2.1, x6.1.2.2.2.1, x6.1.2.2.2.2.1, x6.1.2.2.2.2.2), (x6.2.2.1.1, x6.2.2.1.2.1, x6.2.2.1.2.2.1, x6.2.2.1.2.2.2.1, x6.2.2.1.2.2.2.2.1, x6.2.2.1.2.2.2.2.2.1, x6.2.2.1.2.2.2.2.2.2.1, x6.2.2.1.2.2.2.2.2.2.2.1, x6.2.2.1.2.2.2.2.2.2.2.2), x6.2.2.2.1, x6.2.2.2.2.1, x6.2.2.2.2.2.1, x6.2.2.2.2.2.2.1, x6.2.2.2.2.2.2.2, ([] : List Int), ([] : List Int))) fun y13 => (jn (α := Bool × ((List ((List UInt8) × Int × Int × Bool × Int)) × (List ((List UInt8) × Bool)) × (List ((List UInt8) × Int)) × (List (List UInt8)) × (List (List UInt8)) × List (Int × Int × Int)) × ((List (List Int)) × (List (List Int)) × (List (List Int)) × (List (List Int)) × (List (List Int)) × (List (List Int)) × (List Int) × (List (List Int)) × List Int) × ((List (List Int)) × (List (List Int)) × (List (List Int)) × (List (List Int)) × (List (List Int)) × (List (List Int)) × (List Int) × (List (List Int)) × List Int) × ((List (List Int)) × (List (List Int)) × (List (List Int)) × (List (List Int)) × (List (List Int)) × (List (List Int)) × (List Int) × (List (List Int)) × List Int) × (List (List Int)) × (List (List Int)) × (List (List Int)) × (List (List Int)) × (List (List Int)) × (List (List Int)) × (List Int) × (List (List Int)) × List Int) (obind (mr22_Same (y12.2, y13.2)) fun y15 => (bcase (!y15) (some (Sum.inr (true, (x6.1.1, x6.1.2.1, x6.1.2.2.1, x6.1.2.2.2.1, x6.1.2.2.2.2.1, x6.1.2.2.2.2.2), (x6.2.1.1, x6.2.1.2.1, x6.2.1.2.2.1, x6.2.1.2.2.2.1, x6.2.1.2.2.2.2.1, x6.2.1.2.2.2.2.2.1, x6.2.1.2.2.2.2.2.2.1, x6.2.1.2.2.2.2.2.2.2.1, x6.2.1.2.2.2.2.2.2.2.2), (x6.2.2.1.1, x6.2.2.1.2.1, x6.2.2.1.2.2.1, x6.2.2.1.2.2.2.1, x6.2.2.1.2.2.2.2.1, x6.2.2.1.2.2.2.2.2.1, x6.2.2.1.2.2.2.2.2.2.1, x6.2.2.1.2.2.2.2.2.2.2.1, x6.2.2.1.2.2.2.2.2.2.2.2), (y12.1.1, y12.1.2.1, y12.1.2.2.1, y12.1.2.2.2.1, y12.1.2.2.2.2.1, y12.1.2.2.2.2.2.1, y12.1.2.2.2.2.2.2.1, y12.1.2.2.2.2.2.2.2.1, y12.1.2.2.2.2.2.2.2.2), y13.1.1, y13.1.2.1, y13.1.2.2.1, y13.1.2.2.2.1, y13.1.2.2.2.2.1, y13.1.2.2.2.2.2.1, y13.1.2.2.2.2.2.2.1, y13.1.2.2.2.2.2.2.2.1, y13.1.2.2.2.2.2.2.2.2))) (obind (mr22_SameHB ((y12.1.1, y12.1.2.1, y12.1.2.2.1, y12.1.2.2.2.1, y12.1.2.2.2.2.1, y12.1.2.2.2.2.2.1, y12.1.2.2.2.2.2.2.1, y12.1.2.2.2.2.2.2.2.1, y12.1.2.2.2.2.2.2.2.2), y13.1.1, y13.1.2.1, y13.1.2.2.1, y13.1.2.2.2.1, y13.1.2.2.2.2.1, y13.1.2.2.2.2.2.1, y13.1.2.2.2.2.2.2.1, y13.1.2.2.2.2.2.2.2.1, y13.1.2.2.2.2.2.2.2.2)) fun y16 => (some (Sum.inr ((!y16), (x6.1.1, x6.1.2.1, x6.1.2.2.1, x6.1.2.2.2.1, x6.1.2.2.2.2.1, x6.1.2.2.2.2.2), (x6.2.1.1, x6.2.1.2.1, x6.2.1.2.2.1, x6.2.1.2.2.2.1, x6.2.1.2.2.2.2.1, x6.2.1.2.2.2.2.2.1, x6.2.1.2.2.2.2.2.2.1, x6.2.1.2.2.2.2.2.2.2.1, x6.2.1.2.2.2.2.2.2.2.2), (x6.2.2.1.1, x6.2.2.1.2.1, x6.2.2.1.2.2.1, x6.2.2.1.2.2.2.1, x6.2.2.1.2.2.2.2.1, x6.2.2.1.2.2.2.2.2.1, x6.2.2.1.2.2.2.2.2.2.1, x6.2.2.1.2.2.2.2.2.2.2.1, x6.2.2.1.2.2.2.2.2.2.2.2), (y12.1.1, y12.1.2.1, y12.1.2.2.1, y12.1.2.2.2.1, y12.1.2.2.2.2.1, y12.1.2.2.2.2.2.1, y12.1.2.2.2.2.2.2.1, y12.1.2.2.2.2.2.2.2.1, y12.1.2.2.2.2.2.2.2.2), y13.1.1, y13.1.2.1, y13.1.2.2.1, y13.1.2.2.2.1, y13.1.2.2.2.2.1, y13.1.2.2.2.2.2.1, y13.1.2.2.2.2.2.2.1, y13.1.2.2.2.2.2.2.2.1, y13.1.2.2.2.2.2.2.2.2)))))) fun x14 => (bcase x14.1 (some (Sum.inr (Sum.inl false))) (some (Sum.inl ((wrapK .i64 (x5.1 + 1)), (x14.2.1.1, x14.2.1.2.1, x14.2.1.2.2.1, x14.2.1.2.2.2.1, x14.2.1.2.2.2.2.1, x14.2.1.2.2.2.2.2), (x14.2.2.2.2.1.1, x14.2.2.2.2.1.2.1, x14.2.2.2.2.1.2.2.1, x14.2.2.2.2.1.2.2.2.1, x14.2.2.2.2.1.2.2.2.2.1, x14.2.2.2.2.1.2.2.2.2.2.1, x14.2.2.2.2.1.2.2.2.2.2.2.1, x14.2.2.2.2.1.2.2.2.2.2.2.2.1, x14.2.2.2.2.1.2.2.2.2.2.2.2.2), x14.2.2.2.2.2.1, x14.2.2.2.2.2.2.1, x14.2.2.2.2.2.2.2.1, x14.2.2.2.2.2.2.2.2.1, x14.2.2.2.2.2.2.2.2.2.1, x14.2.2.2.2.2.2.2.2.2.2.1, x14.2.2.2.2.2.2.2.2.2.2.2.1, x14.2.2.2.2.2.2.2.2.2.2.2.2.1, x14.2.2.2.2.2.2.2.2.2.2.2.2.2)))))))))) (some (Sum.inr (Sum.inr ()))))) (0, (y1.1, y1.2.1, y1.2.2.1, y1.2.2.2.1, y1.2.2.2.2.1, y1.2.2.2.2.2), (y2.1, y2.2.1, y2.2.2.1, y2.2.2.2.1, y2.2.2.2.2.1, y2.2.2.2.2.2.1, y2.2.2.2.2.2.2.1, y2.2.2.2.2.2.2.2.1, y2.2.2.2.2.2.2.2.2), y3.1, y3.2.1, y3.2.2.1, y3.2.2.2.1, y3.2.2.2.2.1, y3.2.2.2.2.2.1, y3.2.2.2.2.2.2.1, y3.2.2.2.2.2.2.2.1, y3.2.2.2.2.2.2.2.2)) fun x4 => (obind (mawake ()) fun y17 => (some y17))))))
noncomputable def nlaw23_HBAny (x : List (Int × Int × Int × Int)) : Option (Bool) := glaw23_HBAny @iter x
noncomputable def mlaw23_HBAny (x : List (Int × Int × Int × Int)) : Option (Bool) := glaw23_HBAny @iterC x
end Go.Proofs.YtjjplipoacljoaaDoor.AI
namespace Go.Proofs.YtjjplipoacljoaaDoor.AI
set_option maxRecDepth 100000
def tyT : PT Ty := (.node none (.node none (.node (some (.int .i64)) (.node none (.node none (.node (some (.sl (.int .i64))) .leaf .leaf) .leaf) .leaf) .leaf) (.node none (.node (some .str) .leaf .leaf) .leaf)) (.node none (.node none (.node none (.node none (.node none (.node (some (.st (.pr (.int .i64) (.pr (.int .i64) (.int .i64))))) .leaf .leaf) .leaf) .leaf) .leaf) (.node none .leaf (.node none .leaf (.node (some (.st (.pr .str .bool))) .leaf .leaf)))) (.node none (.node none .leaf (.node none .leaf (.node (some (.st (.pr .str (.pr (.int .i64) (.pr (.int .i64) (.pr .bool (.int .i64))))))) .leaf .leaf))) (.node none .leaf (.node none .leaf (.node (some (.st (.pr .str (.int .i64)))) .leaf .leaf))))))
def tyv (t : TypeId) : Option Ty := tyT.get t
def dclock_At : FT := ⟨⟨[.d (.sl (.int .i64)), .d (.int .i64)], []⟩, ⟨[.d (.int .i64)], []⟩, (.node none (.node none (.node (some (.j ⟨[0, 1], [12], ⟨[.d .bool], []⟩, []⟩)) .leaf .leaf) .leaf) .leaf)⟩
noncomputable def cclock_At : Con := ⟨dclock_At.pre, dclock_At.post, mclock_At⟩
def dclock_Join : FT := ⟨⟨[.d (.sl (.int .i64)), .d (.sl (.int .i64))], []⟩, ⟨[.d (.sl (.int .i64))], []⟩, (.node none .leaf (.node none (.node none (.node (some (.j ⟨[0, 1, 14], [5, 15], ⟨[.row 0, .d (.int .i64)], [.rows 3 false (.int .i64)]⟩, []⟩)) .leaf .leaf) .leaf) .leaf))⟩
noncomputable def cclock_Join : Con := ⟨dclock_Join.pre, dclock_Join.post, mclock_Join⟩
def dclock_Tick : FT := ⟨⟨[.d (.sl (.int .i64)), .d (.int .i64)], []⟩, ⟨[.d (.sl (.int .i64))], []⟩, (.node none (.node none .leaf (.node none (.node none (.node (some (.j ⟨[1], [7, 33], ⟨[.row 0, .d .bool], [.rows 3 false (.int .i64)]⟩, []⟩)) .leaf .leaf) .leaf) .leaf)) (.node none (.node (some (.j ⟨[0, 1, 5], [6], ⟨[.d .bool], []⟩, []⟩)) (.node none (.node (some (.j ⟨[], [7], ⟨[.row 0], [.rows 3 false (.int .i64)]⟩, []⟩)) .leaf .leaf) .leaf) .leaf) (.node (some (.j ⟨[0, 1, 6], [5], ⟨[.d (.int .i64)], []⟩, []⟩)) .leaf .leaf)))⟩
noncomputable def cclock_Tick : Con := ⟨dclock_Tick.pre, dclock_Tick.post, mclock_Tick⟩
def dr22_At : FT := ⟨⟨[.d (.sl (.int .i64)), .d (.int .i64)], []⟩, ⟨[.d (.int .i64)], []⟩, (.node none (.node none (.node (some (.j ⟨[0, 1], [12], ⟨[.d .bool], []⟩, []⟩)) .leaf .leaf) .leaf) .leaf)⟩
noncomputable def cr22_At : Con := ⟨dr22_At.pre, dr22_At.post, mr22_At⟩
def dr22_Join : FT := ⟨⟨[.d (.sl (.int .i64)), .d (.sl (.int .i64))], []⟩, ⟨[.d (.sl (.int .i64))], []⟩, (.node none .leaf (.node none (.node none (.node (some (.j ⟨[0, 1, 14], [5, 15], ⟨[.row 0, .d (.int .i64)], [.rows 3 false (.int .i64)]⟩, []⟩)) .leaf .leaf) .leaf) .leaf))⟩
noncomputable def cr22_Join : Con := ⟨dr22_Join.pre, dr22_Join.post, mr22_Join⟩
def dClone0 : FT := ⟨⟨[.d (.sl (.int .i64))], []⟩, ⟨[.d (.sl (.int .i64))], []⟩, .leaf⟩
noncomputable def cClone0 : Con := ⟨dClone0.pre, dClone0.post, mClone0⟩
noncomputable def cClone : Con := ⟨cClone0.pre, cClone0.post, mClone⟩
def dhb_copies : FT := ⟨⟨[.d (.sl (.sl (.int .i64)))], []⟩, ⟨[.row 0], [.rows 31 false (.sl (.int .i64))]⟩, (.node none .leaf (.node none (.node none (.node (some (.j ⟨[9, 10], [3, 11], ⟨[.row 0, .d (.int .i64)], [.rows 31 false (.sl (.int .i64))]⟩, []⟩)) .leaf .leaf) .leaf) .leaf))⟩
noncomputable def chb_copies : Con := ⟨dhb_copies.pre, dhb_copies.post, mhb_copies⟩
def dCloneO0 : FT := ⟨⟨[.d (.sl (.int .i64))], []⟩, ⟨[.row 0], [.rows 3 true (.int .i64)]⟩, (.node none .leaf (.node none (.node none (.node (some (.a [.nil 2 3 (.int .i64)])) .leaf .leaf) (.node (some (.a [.nil 2 3 (.int .i64)])) .leaf .leaf)) .leaf))⟩
noncomputable def cCloneO0 : Con := ⟨dCloneO0.pre, dCloneO0.post, mCloneO0⟩
noncomputable def cCloneO : Con := ⟨cCloneO0.pre, cCloneO0.post, mCloneO⟩
def dhb_copied : FT := ⟨⟨[.d (.st (.pr (.sl (.sl (.int .i64))) (.pr (.sl (.sl (.int .i64))) (.pr (.sl (.sl (.int .i64))) (.pr (.sl (.sl (.int .i64))) (.pr (.sl (.sl (.int .i64))) (.pr (.sl (.sl (.int .i64))) (.pr (.sl (.int .i64)) (.pr (.sl (.sl (.int .i64))) (.sl (.int .i64)))))))))))], []⟩, ⟨[.agg [.row 0, .row 1, .row 2, .row 3, .row 4, .row 5, .d (.sl (.int .i64)), .row 6, .row 7]], [.rows 31 false (.sl (.int .i64)), .rows 31 false (.sl (.int .i64)), .rows 31 false (.sl (.int .i64)), .rows 31 false (.sl (.int .i64)), .rows 31 false (.sl (.int .i64)), .rows 31 false (.sl (.int .i64)), .rows 31 false (.sl (.int .i64)), .rows 3 true (.int .i64)]⟩, .leaf⟩
noncomputable def chb_copied : Con := ⟨dhb_copied.pre, dhb_copied.post, mhb_copied⟩
def dhb_entry : FT := ⟨⟨[.row 0, .d (.int .i64)], [.rows 31 false (.sl (.int .i64))]⟩, ⟨[.d (.sl (.int .i64))], [.rows 31 false (.sl (.int .i64))]⟩, (.node none (.node none (.node (some (.j ⟨[1], [0, 12], ⟨[.row 0, .d .bool], [.rows 31 false (.sl (.int .i64))]⟩, []⟩)) .leaf .leaf) .leaf) .leaf)⟩
noncomputable def chb_entry : Con := ⟨dhb_entry.pre, dhb_entry.post, mhb_entry⟩
def dhb_joinAt : FT := ⟨⟨[.row 0, .d (.int .i64), .d (.sl (.int .i64))], [.rows 31 false (.sl (.int .i64))]⟩, ⟨[], [.rows 31 false (.sl (.int .i64))]⟩, (.node (some (.j ⟨[1, 2], [0, 13], ⟨[.row 0, .d .bool], [.rows 31 false (.sl (.int .i64))]⟩, []⟩)) .leaf .leaf)⟩
noncomputable def chb_joinAt : Con := ⟨dhb_joinAt.pre, dhb_joinAt.post, mhb_joinAt⟩
def dhb_wake : FT := ⟨⟨[.ptr 0 0, .d (.int .i64), .d (.sl (.int .i64))], [.cells 33 [.row 1, .row 2, .row 3, .row 4, .row 5, .row 6, .d (.sl (.int .i64)), .row 7, .row 8], .rows 31 false (.sl (.int .i64)), .rows 31 false (.sl (.int .i64)), .rows 31 false (.sl (.int .i64)), .rows 31 false (.sl (.int .i64)), .rows 31 false (.sl (.int .i64)), .rows 31 false (.sl (.int .i64)), .rows 31 false (.sl (.int .i64)), .rows 3 true (.int .i64)]⟩, ⟨[], [.cells 33 [.row 1, .row 2, .row 3, .row 4, .row 5, .row 6, .d (.sl (.int .i64)), .row 7, .row 8], .rows 31 false (.sl (.int .i64)), .rows 31 false (.sl (.int .i64)), .rows 31 false (.sl (.int .i64)), .rows 31 false (.sl (.int .i64)), .rows 31 false (.sl (.int .i64)), .rows 31 false (.sl (.int .i64)), .rows 31 false (.sl (.int .i64)), .rows 3 true (.int .i64)]⟩, .leaf⟩
noncomputable def chb_wake : Con := ⟨dhb_wake.pre, dhb_wake.post, mhb_wake⟩
def dhb_enter : FT := ⟨⟨[.d (.st (.pr (.sl (.st (.pr .str (.pr (.int .i64) (.pr (.int .i64) (.pr .bool (.int .i64))))))) (.pr (.sl (.st (.pr .str .bool))) (.pr (.sl (.st (.pr .str (.int .i64)))) (.pr (.sl .str) (.pr (.sl .str) (.sl (.st (.pr (.int .i64) (.pr (.int .i64) (.int .i64))))))))))), .ptr 0 0, .d (.st (.pr (.int .i64) (.pr (.int .i64) (.pr (.int .i64) (.pr (.int .i64) (.pr (.int .i64) (.pr (.sl (.int .i64)) (.sl (.int .i64))))))))), .d (.sl (.int .i64))], [.cells 33 [.row 1, .row 2, .row 3, .row 4, .row 5, .row 6, .d (.sl (.int .i64)), .row 7, .row 8], .rows 31 false (.sl (.int .i64)), .rows 31 false (.sl (.int .i64)), .rows 31 false (.sl (.int .i64)), .rows 31 false (.sl (.int .i64)), .rows 31 false (.sl (.int .i64)), .rows 31 false (.sl (.int .i64)), .rows 31 false (.sl (.int .i64)), .rows 3 true (.int .i64)]⟩, ⟨[], [.cells 33 [.row 1, .row 2, .row 3, .row 4, .row 5, .row 6, .d (.sl (.int .i64)), .row 7, .row 8], .rows 31 false (.sl (.int .i64)), .rows 31 false (.sl (.int .i64)), .rows 31 false (.sl (.int .i64)), .rows 31 false (.sl (.int .i64)), .rows 31 false (.sl (.int .i64)), .rows 31 false (.sl (.int .i64)), .rows 31 false (.sl (.int .i64)), .rows 3 true (.int .i64)]⟩, (.node none (.node none (.node none .leaf (.node (some (.j ⟨[3, 20], [1, 4, 6, 32], ⟨[.ptr 0 0, .ptr 9 0, .ptr 10 0, .d .bool], [.cells 33 [.row 1, .row 2, .row 3, .row 4, .row 5, .row 6, .d (.sl (.int .i64)), .row 7, .row 8], .rows 31 false (.sl (.int .i64)), .rows 31 false (.sl (.int .i64)), .rows 31 false (.sl (.int .i64)), .rows 31 false (.sl (.int .i64)), .rows 31 false (.sl (.int .i64)), .rows 31 false (.sl (.int .i64)), .rows 31 false (.sl (.int .i64)), .rows 3 true (.int .i64), .cells 28 [.d (.sl (.st (.pr .str (.pr (.int .i64) (.pr (.int .i64) (.pr .bool (.int .i64))))))), .d (.sl (.st (.pr .str .bool))), .d (.sl (.st (.pr .str (.int .i64)))), .d (.sl .str), .d (.sl .str), .d (.sl (.st (.pr (.int .i64) (.pr (.int .i64) (.int .i64)))))], .cells 41 [.d (.int .i64), .d (.int .i64), .d (.int .i64), .d (.int .i64), .d (.int .i64), .d (.sl (.int .i64)), .d (.sl (.int .i64))]]⟩, []⟩)) (.node none (.node none (.node (some (.j ⟨[3, 141, 142], [1, 6, 140], ⟨[.ptr 0 0, .ptr 9 0, .row 8], [.cells 33 [.row 1, .row 2, .row 3, .row 4, .row 5, .row 6, .d (.sl (.int .i64)), .row 7, .row 8], .rows 31 false (.sl (.int .i64)), .rows 31 false (.sl (.int .i64)), .rows 31 false (.sl (.int .i64)), .rows 31 false (.sl (.int .i64)), .rows 31 false (.sl (.int .i64)), .rows 31 false (.sl (.int .i64)), .rows 31 false (.sl (.int .i64)), .rows 3 true (.int .i64), .cells 41 [.d (.int .i64), .d (.int .i64), .d (.int .i64), .d (.int .i64), .d (.int .i64), .d (.sl (.int .i64)), .d (.sl (.int .i64))]]⟩, []⟩)) .leaf .leaf) .leaf) .leaf) (.node none .leaf (.node (some (.j ⟨[3, 141], [1, 6, 140, 142], ⟨[.ptr 0 0, .ptr 9 0, .row 8, .d (.int .i64)], [.cells 33 [.row 1, .row 2, .row 3, .row 4, .row 5, .row 6, .d (.sl (.int .i64)), .row 7, .row 8], .rows 31 false (.sl (.int .i64)), .rows 31 false (.sl (.int .i64)), .rows 31 false (.sl (.int .i64)), .rows 31 false (.sl (.int .i64)), .rows 31 false (.sl (.int .i64)), .rows 31 false (.sl (.int .i64)), .rows 31 false (.sl (.int .i64)), .rows 3 true (.int .i64), .cells 41 [.d (.int .i64), .d (.int .i64), .d (.int .i64), .d (.int .i64), .d (.int .i64), .d (.sl (.int .i64)), .d (.sl (.int .i64))]]⟩, []⟩)) .leaf .leaf)))) .leaf) (.node none (.node none (.node none (.node none .leaf (.node (some (.j ⟨[3], [1, 6, 129], ⟨[.ptr 0 0, .ptr 9 0, .d .bool], [.cells 33 [.row 1, .row 2, .row 3, .row 4, .row 5, .row 6, .d (.sl (.int .i64)), .row 7, .row 8], .rows 31 false (.sl (.int .i64)), .rows 31 false (.sl (.int .i64)), .rows 31 false (.sl (.int .i64)), .rows 31 false (.sl (.int .i64)), .rows 31 false (.sl (.int .i64)), .rows 31 false (.sl (.int .i64)), .rows 31 false (.sl (.int .i64)), .rows 3 true (.int .i64), .cells 41 [.d (.int .i64), .d (.int .i64), .d (.int .i64), .d (.int .i64), .d (.int .i64), .d (.sl (.int .i64)), .d (.sl (.int .i64))]]⟩, []⟩)) .leaf .leaf)) .leaf) .leaf) (.node (some (.j ⟨[], [], ⟨[], [.cells 33 [.row 1, .row 2, .row 3, .row 4, .row 5, .row 6, .d (.sl (.int .i64)), .row 7, .row 8], .rows 31 false (.sl (.int .i64)), .rows 31 false (.sl (.int .i64)), .rows 31 false (.sl (.int .i64)), .rows 31 false (.sl (.int .i64)), .rows 31 false (.sl (.int .i64)), .rows 31 false (.sl (.int .i64)), .rows 31 false (.sl (.int .i64)), .rows 3 true (.int .i64)]⟩, []⟩)) .leaf .leaf)))⟩
noncomputable def chb_enter : Con := ⟨dhb_enter.pre, dhb_enter.post, mhb_enter⟩
def dhb_Step_2 : FT := ⟨⟨[.ptr 0 0, .ptr 1 0, .ptr 2 0], [.cells 41 [.d (.int .i64), .d (.int .i64), .d (.int .i64), .d (.int .i64), .d (.int .i64), .d (.sl (.int .i64)), .d (.sl (.int .i64))], .cells 33 [.row 3, .row 4, .row 5, .row 6, .row 7, .row 8, .d (.sl (.int .i64)), .row 9, .row 10], .cells 28 [.d (.sl (.st (.pr .str (.pr (.int .i64) (.pr (.int .i64) (.pr .bool (.int .i64))))))), .d (.sl (.st (.pr .str .bool))), .d (.sl (.st (.pr .str (.int .i64)))), .d (.sl .str), .d (.sl .str), .d (.sl (.st (.pr (.int .i64) (.pr (.int .i64) (.int .i64)))))], .rows 31 false (.sl (.int .i64)), .rows 31 false (.sl (.int .i64)), .rows 31 false (.sl (.int .i64)), .rows 31 false (.sl (.int .i64)), .rows 31 false (.sl (.int .i64)), .rows 31 false (.sl (.int .i64)), .rows 31 false (.sl (.int .i64)), .rows 3 true (.int .i64)]⟩, ⟨[.d (.sl (.sl (.int .i64)))], [.cells 41 [.d (.int .i64), .d (.int .i64), .d (.int .i64), .d (.int .i64), .d (.int .i64), .d (.sl (.int .i64)), .d (.sl (.int .i64))], .cells 33 [.row 3, .row 4, .row 5, .row 6, .row 7, .row 8, .d (.sl (.int .i64)), .row 9, .row 10], .cells 28 [.d (.sl (.st (.pr .str (.pr (.int .i64) (.pr (.int .i64) (.pr .bool (.int .i64))))))), .d (.sl (.st (.pr .str .bool))), .d (.sl (.st (.pr .str (.int .i64)))), .d (.sl .str), .d (.sl .str), .d (.sl (.st (.pr (.int .i64) (.pr (.int .i64) (.int .i64)))))], .rows 31 false (.sl (.int .i64)), .rows 31 false (.sl (.int .i64)), .rows 31 false (.sl (.int .i64)), .rows 31 false (.sl (.int .i64)), .rows 31 false (.sl (.int .i64)), .rows 31 false (.sl (.int .i64)), .rows 31 false (.sl (.int .i64)), .rows 3 true (.int .i64)]⟩, (.node none .leaf (.node none .leaf (.node none (.node none (.node (some (.j ⟨[6], [0, 1, 2, 25], ⟨[.ptr 0 0, .ptr 1 0, .ptr 2 0, .d .bool], [.cells 41 [.d (.int .i64), .d (.int .i64), .d (.int .i64), .d (.int .i64), .d (.int .i64), .d (.sl (.int .i64)), .d (.sl (.int .i64))], .cells 33 [.row 3, .row 4, .row 5, .row 6, .row 7, .row 8, .d (.sl (.int .i64)), .row 9, .row 10], .cells 28 [.d (.sl (.st (.pr .str (.pr (.int .i64) (.pr (.int .i64) (.pr .bool (.int .i64))))))), .d (.sl (.st (.pr .str .bool))), .d (.sl (.st (.pr .str (.int .i64)))), .d (.sl .str), .d (.sl .str), .d (.sl (.st (.pr (.int .i64) (.pr (.int .i64) (.int .i64)))))], .rows 31 false (.sl (.int .i64)), .rows 31 false (.sl (.int .i64)), .rows 31 false (.sl (.int .i64)), .rows 31 false (.sl (.int .i64)), .rows 31 false (.sl (.int .i64)), .rows 31 false (.sl (.int .i64)), .rows 31 false (.sl (.int .i64)), .rows 3 true (.int .i64)]⟩, []⟩)) .leaf .leaf) .leaf) .leaf)))⟩
noncomputable def chb_Step_2 : Con := ⟨dhb_Step_2.pre, dhb_Step_2.post, mhb_Step_2⟩
def dhb_Step : FT := ⟨⟨[.d (.st (.pr (.sl (.st (.pr .str (.pr (.int .i64) (.pr (.int .i64) (.pr .bool (.int .i64))))))) (.pr (.sl (.st (.pr .str .bool))) (.pr (.sl (.st (.pr .str (.int .i64)))) (.pr (.sl .str) (.pr (.sl .str) (.sl (.st (.pr (.int .i64) (.pr (.int .i64) (.int .i64))))))))))), .d (.st (.pr (.sl (.sl (.int .i64))) (.pr (.sl (.sl (.int .i64))) (.pr (.sl (.sl (.int .i64))) (.pr (.sl (.sl (.int .i64))) (.pr (.sl (.sl (.int .i64))) (.pr (.sl (.sl (.int .i64))) (.pr (.sl (.int .i64)) (.pr (.sl (.sl (.int .i64))) (.sl (.int .i64))))))))))), .d (.st (.pr (.int .i64) (.pr (.int .i64) (.pr (.int .i64) (.pr (.int .i64) (.pr (.int .i64) (.pr (.sl (.int .i64)) (.sl (.int .i64)))))))))], []⟩, ⟨[.d (.st (.pr (.sl (.sl (.int .i64))) (.pr (.sl (.sl (.int .i64))) (.pr (.sl (.sl (.int .i64))) (.pr (.sl (.sl (.int .i64))) (.pr (.sl (.sl (.int .i64))) (.pr (.sl (.sl (.int .i64))) (.pr (.sl (.int .i64)) (.pr (.sl (.sl (.int .i64))) (.sl (.int .i64))))))))))), .d (.sl (.int .i64))], []⟩, (.node none .leaf (.node none .leaf (.node none .leaf (.node (some (.j ⟨[22, 23], [3, 5, 6, 7, 24], ⟨[.ptr 0 0, .ptr 1 0, .ptr 2 0, .ptr 3 0, .d (.int .i64)], [.cells 28 [.d (.sl (.st (.pr .str (.pr (.int .i64) (.pr (.int .i64) (.pr .bool (.int .i64))))))), .d (.sl (.st (.pr .str .bool))), .d (.sl (.st (.pr .str (.int .i64)))), .d (.sl .str), .d (.sl .str), .d (.sl (.st (.pr (.int .i64) (.pr (.int .i64) (.int .i64)))))], .cells 41 [.d (.int .i64), .d (.int .i64), .d (.int .i64), .d (.int .i64), .d (.int .i64), .d (.sl (.int .i64)), .d (.sl (.int .i64))], .cells 33 [.row 4, .row 5, .row 6, .row 7, .row 8, .row 9, .d (.sl (.int .i64)), .row 10, .row 11], .cells 31 [.d (.sl (.int .i64))], .rows 31 false (.sl (.int .i64)), .rows 31 false (.sl (.int .i64)), .rows 31 false (.sl (.int .i64)), .rows 31 false (.sl (.int .i64)), .rows 31 false (.sl (.int .i64)), .rows 31 false (.sl (.int .i64)), .rows 31 false (.sl (.int .i64)), .rows 3 true (.int .i64)]⟩, []⟩)) .leaf .leaf))))⟩
noncomputable def chb_Step : Con := ⟨dhb_Step.pre, dhb_Step.post, mhb_Step⟩
def dhb_Start : FT := ⟨⟨[.d (.st (.pr (.sl (.st (.pr .str (.pr (.int .i64) (.pr (.int .i64) (.pr .bool (.int .i64))))))) (.pr (.sl (.st (.pr .str .bool))) (.pr (.sl (.st (.pr .str (.int .i64)))) (.pr (.sl .str) (.pr (.sl .str) (.sl (.st (.pr (.int .i64) (.pr (.int .i64) (.int .i64)))))))))))], []⟩, ⟨[.d (.st (.pr (.sl (.sl (.int .i64))) (.pr (.sl (.sl (.int .i64))) (.pr (.sl (.sl (.int .i64))) (.pr (.sl (.sl (.int .i64))) (.pr (.sl (.sl (.int .i64))) (.pr (.sl (.sl (.int .i64))) (.pr (.sl (.int .i64)) (.pr (.sl (.sl (.int .i64))) (.sl (.int .i64)))))))))))], []⟩, (.node none .leaf (.node none (.node none (.node (some (.j ⟨[40], [2, 3, 41], ⟨[.ptr 0 0, .ptr 1 0, .d (.int .i64)], [.cells 33 [.nil, .nil, .nil, .nil, .nil, .nil, .nil, .nil, .nil], .cells 33 [.row 2, .row 3, .row 4, .row 5, .row 6, .row 7, .nil, .row 8, .row 9], .rows 31 false (.sl (.int .i64)), .rows 31 false (.sl (.int .i64)), .rows 31 false (.sl (.int .i64)), .rows 31 false (.sl (.int .i64)), .rows 31 false (.sl (.int .i64)), .rows 31 false (.sl (.int .i64)), .rows 31 false (.sl (.int .i64)), .rows 3 false (.int .i64)]⟩, []⟩)) .leaf .leaf) .leaf) .leaf))⟩
noncomputable def chb_Start : Con := ⟨dhb_Start.pre, dhb_Start.post, mhb_Start⟩
def dr22_Copy : FT := ⟨⟨[.d (.sl (.int .i64))], []⟩, ⟨[.d (.sl (.int .i64))], []⟩, .leaf⟩
noncomputable def cr22_Copy : Con := ⟨dr22_Copy.pre, dr22_Copy.post, mr22_Copy⟩
def dr22_CopyAll : FT := ⟨⟨[.d (.sl (.sl (.int .i64)))], []⟩, ⟨[.row 0], [.rows 31 false (.sl (.int .i64))]⟩, (.node none .leaf (.node none (.node none (.node (some (.j ⟨[0, 9], [3, 10], ⟨[.row 0, .d (.int .i64)], [.rows 31 false (.sl (.int .i64))]⟩, []⟩)) .leaf .leaf) .leaf) .leaf))⟩
noncomputable def cr22_CopyAll : Con := ⟨dr22_CopyAll.pre, dr22_CopyAll.post, mr22_CopyAll⟩
def dr22_CopyO : FT := ⟨⟨[.d (.sl (.int .i64))], []⟩, ⟨[.row 0], [.rows 3 true (.int .i64)]⟩, (.node none .leaf (.node none (.node (some (.a [.nil 2 3 (.int .i64)])) .leaf .leaf) .leaf))⟩
noncomputable def cr22_CopyO : Con := ⟨dr22_CopyO.pre, dr22_CopyO.post, mr22_CopyO⟩
def dr22_copied : FT := ⟨⟨[.d (.st (.pr (.sl (.sl (.int .i64))) (.pr (.sl (.sl (.int .i64))) (.pr (.sl (.sl (.int .i64))) (.pr (.sl (.sl (.int .i64))) (.pr (.sl (.sl (.int .i64))) (.pr (.sl (.sl (.int .i64))) (.pr (.sl (.int .i64)) (.pr (.sl (.sl (.int .i64))) (.sl (.int .i64)))))))))))], []⟩, ⟨[.agg [.row 0, .row 1, .row 2, .row 3, .row 4, .row 5, .d (.sl (.int .i64)), .row 6, .row 7]], [.rows 31 false (.sl (.int .i64)), .rows 31 false (.sl (.int .i64)), .rows 31 false (.sl (.int .i64)), .rows 31 false (.sl (.int .i64)), .rows 31 false (.sl (.int .i64)), .rows 31 false (.sl (.int .i64)), .rows 31 false (.sl (.int .i64)), .rows 3 true (.int .i64)]⟩, .leaf⟩
noncomputable def cr22_copied : Con := ⟨dr22_copied.pre, dr22_copied.post, mr22_copied⟩
def dr22_Tick : FT := ⟨⟨[.d (.sl (.int .i64)), .d (.int .i64)], []⟩, ⟨[.d (.sl (.int .i64))], []⟩, (.node none (.node none (.node none (.node none .leaf (.node (some (.j ⟨[], [0], ⟨[.row 0], [.rows 3 true (.int .i64)]⟩, []⟩)) .leaf .leaf)) .leaf) (.node (some (.j ⟨[1], [0, 12], ⟨[.row 0, .d .bool], [.rows 3 true (.int .i64)]⟩, []⟩)) .leaf .leaf)) (.node none .leaf (.node none .leaf (.node (some (.j ⟨[1], [0], ⟨[.row 0], [.rows 3 true (.int .i64)]⟩, []⟩)) .leaf .leaf))))⟩
noncomputable def cr22_Tick : Con := ⟨dr22_Tick.pre, dr22_Tick.post, mr22_Tick⟩
def dr22_Equal : FT := ⟨⟨[.d (.sl (.int .i64)), .d (.sl (.int .i64))], []⟩, ⟨[.d .bool], []⟩, (.node none .leaf (.node none .leaf (.node none .leaf (.node (some (.j ⟨[0, 1, 12], [13], ⟨[.d (.int .i64)], []⟩, []⟩)) .leaf .leaf))))⟩
noncomputable def cr22_Equal : Con := ⟨dr22_Equal.pre, dr22_Equal.post, mr22_Equal⟩
def dr22_Leq : FT := ⟨⟨[.d (.sl (.int .i64)), .d (.sl (.int .i64))], []⟩, ⟨[.d .bool], []⟩, (.node none .leaf (.node none .leaf (.node (some (.j ⟨[0, 1], [5], ⟨[.d (.int .i64)], []⟩, []⟩)) .leaf .leaf)))⟩
noncomputable def cr22_Leq : Con := ⟨dr22_Leq.pre, dr22_Leq.post, mr22_Leq⟩
def dr22_Same : FT := ⟨⟨[.d (.sl (.int .i64)), .d (.sl (.int .i64))], []⟩, ⟨[.d .bool], []⟩, (.node none .leaf (.node (some (.j ⟨[], [4], ⟨[.d .bool], []⟩, []⟩)) .leaf .leaf))⟩
noncomputable def cr22_Same : Con := ⟨dr22_Same.pre, dr22_Same.post, mr22_Same⟩
def dr22_SameAll : FT := ⟨⟨[.d (.sl (.sl (.int .i64))), .d (.sl (.sl (.int .i64)))], []⟩, ⟨[.d .bool], []⟩, (.node none .leaf (.node none .leaf (.node none .leaf (.node (some (.j ⟨[0, 1, 12], [13], ⟨[.d (.int .i64)], []⟩, []⟩)) .leaf .leaf))))⟩
noncomputable def cr22_SameAll : Con := ⟨dr22_SameAll.pre, dr22_SameAll.post, mr22_SameAll⟩
def dr22_SameHB : FT := ⟨⟨[.d (.st (.pr (.sl (.sl (.int .i64))) (.pr (.sl (.sl (.int .i64))) (.pr (.sl (.sl (.int .i64))) (.pr (.sl (.sl (.int .i64))) (.pr (.sl (.sl (.int .i64))) (.pr (.sl (.sl (.int .i64))) (.pr (.sl (.int .i64)) (.pr (.sl (.sl (.int .i64))) (.sl (.int .i64))))))))))), .d (.st (.pr (.sl (.sl (.int .i64))) (.pr (.sl (.sl (.int .i64))) (.pr (.sl (.sl (.int .i64))) (.pr (.sl (.sl (.int .i64))) (.pr (.sl (.sl (.int .i64))) (.pr (.sl (.sl (.int .i64))) (.pr (.sl (.int .i64)) (.pr (.sl (.sl (.int .i64))) (.sl (.int .i64)))))))))))], []⟩, ⟨[.d .bool], []⟩, (.node none .leaf (.node (some (.j ⟨[], [4], ⟨[.d .bool], []⟩, []⟩)) .leaf .leaf))⟩
noncomputable def cr22_SameHB : Con := ⟨dr22_SameHB.pre, dr22_SameHB.post, mr22_SameHB⟩
def dr22_Mutex : FT := ⟨⟨[.d (.st (.pr (.sl (.st (.pr .str (.pr (.int .i64) (.pr (.int .i64) (.pr .bool (.int .i64))))))) (.pr (.sl (.st (.pr .str .bool))) (.pr (.sl (.st (.pr .str (.int .i64)))) (.pr (.sl .str) (.pr (.sl .str) (.sl (.st (.pr (.int .i64) (.pr (.int .i64) (.int .i64))))))))))), .d (.int .i64)], []⟩, ⟨[.d (.int .i64)], []⟩, (.node none (.node none (.node (some (.j ⟨[1], [2, 13], ⟨[.ptr 0 0, .d .bool], [.cells 28 [.d (.sl (.st (.pr .str (.pr (.int .i64) (.pr (.int .i64) (.pr .bool (.int .i64))))))), .d (.sl (.st (.pr .str .bool))), .d (.sl (.st (.pr .str (.int .i64)))), .d (.sl .str), .d (.sl .str), .d (.sl (.st (.pr (.int .i64) (.pr (.int .i64) (.int .i64)))))]]⟩, []⟩)) .leaf .leaf) .leaf) .leaf)⟩
noncomputable def cr22_Mutex : Con := ⟨dr22_Mutex.pre, dr22_Mutex.post, mr22_Mutex⟩
def dr22_Acquires : FT := ⟨⟨[.d (.st (.pr (.sl (.st (.pr .str (.pr (.int .i64) (.pr (.int .i64) (.pr .bool (.int .i64))))))) (.pr (.sl (.st (.pr .str .bool))) (.pr (.sl (.st (.pr .str (.int .i64)))) (.pr (.sl .str) (.pr (.sl .str) (.sl (.st (.pr (.int .i64) (.pr (.int .i64) (.int .i64))))))))))), .d (.st (.pr (.int .i64) (.pr (.int .i64) (.pr (.int .i64) (.pr (.int .i64) (.pr (.int .i64) (.pr (.sl (.int .i64)) (.sl (.int .i64)))))))))], []⟩, ⟨[.d (.int .i64), .d .bool], []⟩, (.node none .leaf (.node none .leaf (.node (some (.j ⟨[7], [2, 3, 8], ⟨[.ptr 0 0, .ptr 1 0, .d .bool], [.cells 28 [.d (.sl (.st (.pr .str (.pr (.int .i64) (.pr (.int .i64) (.pr .bool (.int .i64))))))), .d (.sl (.st (.pr .str .bool))), .d (.sl (.st (.pr .str (.int .i64)))), .d (.sl .str), .d (.sl .str), .d (.sl (.st (.pr (.int .i64) (.pr (.int .i64) (.int .i64)))))], .cells 41 [.d (.int .i64), .d (.int .i64), .d (.int .i64), .d (.int .i64), .d (.int .i64), .d (.sl (.int .i64)), .d (.sl (.int .i64))]]⟩, []⟩)) .leaf .leaf)))⟩
noncomputable def cr22_Acquires : Con := ⟨dr22_Acquires.pre, dr22_Acquires.post, mr22_Acquires⟩
def dr22_Releases : FT := ⟨⟨[.d (.st (.pr (.sl (.st (.pr .str (.pr (.int .i64) (.pr (.int .i64) (.pr .bool (.int .i64))))))) (.pr (.sl (.st (.pr .str .bool))) (.pr (.sl (.st (.pr .str (.int .i64)))) (.pr (.sl .str) (.pr (.sl .str) (.sl (.st (.pr (.int .i64) (.pr (.int .i64) (.int .i64))))))))))), .d (.st (.pr (.int .i64) (.pr (.int .i64) (.pr (.int .i64) (.pr (.int .i64) (.pr (.int .i64) (.pr (.sl (.int .i64)) (.sl (.int .i64)))))))))], []⟩, ⟨[.d (.int .i64), .d .bool], []⟩, (.node none .leaf (.node none .leaf (.node (some (.j ⟨[7], [2, 3, 8], ⟨[.ptr 0 0, .ptr 1 0, .d .bool], [.cells 28 [.d (.sl (.st (.pr .str (.pr (.int .i64) (.pr (.int .i64) (.pr .bool (.int .i64))))))), .d (.sl (.st (.pr .str .bool))), .d (.sl (.st (.pr .str (.int .i64)))), .d (.sl .str), .d (.sl .str), .d (.sl (.st (.pr (.int .i64) (.pr (.int .i64) (.int .i64)))))], .cells 41 [.d (.int .i64), .d (.int .i64), .d (.int .i64), .d (.int .i64), .d (.int .i64), .d (.sl (.int .i64)), .d (.sl (.int .i64))]]⟩, []⟩)) .leaf .leaf)))⟩
noncomputable def cr22_Releases : Con := ⟨dr22_Releases.pre, dr22_Releases.post, mr22_Releases⟩
def dr22_arriving : FT := ⟨⟨[.d (.st (.pr (.sl (.st (.pr .str (.pr (.int .i64) (.pr (.int .i64) (.pr .bool (.int .i64))))))) (.pr (.sl (.st (.pr .str .bool))) (.pr (.sl (.st (.pr .str (.int .i64)))) (.pr (.sl .str) (.pr (.sl .str) (.sl (.st (.pr (.int .i64) (.pr (.int .i64) (.int .i64))))))))))), .agg [.row 0, .row 1, .row 2, .row 3, .row 4, .row 5, .d (.sl (.int .i64)), .row 6, .row 7], .d (.st (.pr (.int .i64) (.pr (.int .i64) (.pr (.int .i64) (.pr (.int .i64) (.pr (.int .i64) (.pr (.sl (.int .i64)) (.sl (.int .i64)))))))))], [.rows 31 false (.sl (.int .i64)), .rows 31 false (.sl (.int .i64)), .rows 31 false (.sl (.int .i64)), .rows 31 false (.sl (.int .i64)), .rows 31 false (.sl (.int .i64)), .rows 31 false (.sl (.int .i64)), .rows 31 false (.sl (.int .i64)), .rows 3 true (.int .i64)]⟩, ⟨[.d (.sl (.int .i64))], [.rows 31 false (.sl (.int .i64)), .rows 31 false (.sl (.int .i64)), .rows 31 false (.sl (.int .i64)), .rows 31 false (.sl (.int .i64)), .rows 31 false (.sl (.int .i64)), .rows 31 false (.sl (.int .i64)), .rows 31 false (.sl (.int .i64)), .rows 3 true (.int .i64)]⟩, (.node none (.node none (.node none (.node (some (.j ⟨[7, 8, 9], [4, 5, 24], ⟨[.ptr 8 0, .ptr 9 0, .d .bool], [.rows 31 false (.sl (.int .i64)), .rows 31 false (.sl (.int .i64)), .rows 31 false (.sl (.int .i64)), .rows 31 false (.sl (.int .i64)), .rows 31 false (.sl (.int .i64)), .rows 31 false (.sl (.int .i64)), .rows 31 false (.sl (.int .i64)), .rows 3 true (.int .i64), .cells 33 [.row 0, .row 1, .row 2, .row 3, .row 4, .row 5, .d (.sl (.int .i64)), .row 6, .row 7], .cells 41 [.d (.int .i64), .d (.int .i64), .d (.int .i64), .d (.int .i64), .d (.int .i64), .d (.sl (.int .i64)), .d (.sl (.int .i64))]]⟩, []⟩)) .leaf .leaf) .leaf) (.node none .leaf (.node none (.node (some (.j ⟨[], [7], ⟨[.d (.sl (.int .i64))], [.rows 31 false (.sl (.int .i64)), .rows 31 false (.sl (.int .i64)), .rows 31 false (.sl (.int .i64)), .rows 31 false (.sl (.int .i64)), .rows 31 false (.sl (.int .i64)), .rows 31 false (.sl (.int .i64)), .rows 31 false (.sl (.int .i64)), .rows 3 true (.int .i64)]⟩, []⟩)) .leaf .leaf) .leaf))) (.node none .leaf (.node (some (.j ⟨[], [4, 5, 7], ⟨[.ptr 8 0, .ptr 9 0, .d (.sl (.int .i64))], [.rows 31 false (.sl (.int .i64)), .rows 31 false (.sl (.int .i64)), .rows 31 false (.sl (.int .i64)), .rows 31 false (.sl (.int .i64)), .rows 31 false (.sl (.int .i64)), .rows 31 false (.sl (.int .i64)), .rows 31 false (.sl (.int .i64)), .rows 3 true (.int .i64), .cells 33 [.row 0, .row 1, .row 2, .row 3, .row 4, .row 5, .d (.sl (.int .i64)), .row 6, .row 7], .cells 41 [.d (.int .i64), .d (.int .i64), .d (.int .i64), .d (.int .i64), .d (.int .i64), .d (.sl (.int .i64)), .d (.sl (.int .i64))]]⟩, []⟩)) .leaf .leaf)))⟩
noncomputable def cr22_arriving : Con := ⟨dr22_arriving.pre, dr22_arriving.post, mr22_arriving⟩
noncomputable def cr22_arrivingR : Con := ⟨dr22_arriving.pre, ⟨dr22_arriving.post.vs, []⟩, mr22_arrivingR⟩
def dr22_Step : FT := ⟨⟨[.d (.st (.pr (.sl (.st (.pr .str (.pr (.int .i64) (.pr (.int .i64) (.pr .bool (.int .i64))))))) (.pr (.sl (.st (.pr .str .bool))) (.pr (.sl (.st (.pr .str (.int .i64)))) (.pr (.sl .str) (.pr (.sl .str) (.sl (.st (.pr (.int .i64) (.pr (.int .i64) (.int .i64))))))))))), .d (.st (.pr (.sl (.sl (.int .i64))) (.pr (.sl (.sl (.int .i64))) (.pr (.sl (.sl (.int .i64))) (.pr (.sl (.sl (.int .i64))) (.pr (.sl (.sl (.int .i64))) (.pr (.sl (.sl (.int .i64))) (.pr (.sl (.int .i64)) (.pr (.sl (.sl (.int .i64))) (.sl (.int .i64))))))))))), .d (.st (.pr (.int .i64) (.pr (.int .i64) (.pr (.int .i64) (.pr (.int .i64) (.pr (.int .i64) (.pr (.sl (.int .i64)) (.sl (.int .i64)))))))))], []⟩, ⟨[.d (.st (.pr (.sl (.sl (.int .i64))) (.pr (.sl (.sl (.int .i64))) (.pr (.sl (.sl (.int .i64))) (.pr (.sl (.sl (.int .i64))) (.pr (.sl (.sl (.int .i64))) (.pr (.sl (.sl (.int .i64))) (.pr (.sl (.int .i64)) (.pr (.sl (.sl (.int .i64))) (.sl (.int .i64))))))))))), .d (.sl (.int .i64))], []⟩, (.node none (.node none (.node none (.node none .leaf (.node (some (.j ⟨[8], [4, 6], ⟨[.ptr 0 0, .ptr 1 0], [.cells 33 [.row 2, .row 3, .row 4, .row 5, .row 6, .row 7, .d (.sl (.int .i64)), .row 8, .row 9], .cells 33 [.nil, .nil, .nil, .nil, .nil, .nil, .nil, .nil, .nil], .rows 31 false (.sl (.int .i64)), .rows 31 false (.sl (.int .i64)), .rows 31 false (.sl (.int .i64)), .rows 31 false (.sl (.int .i64)), .rows 31 false (.sl (.int .i64)), .rows 31 false (.sl (.int .i64)), .rows 31 false (.sl (.int .i64)), .rows 3 true (.int .i64)]⟩, []⟩)) .leaf .leaf)) (.node (some (.j ⟨[8, 9, 10], [3, 4, 5, 6, 49], ⟨[.ptr 0 0, .ptr 1 0, .ptr 2 0, .ptr 3 0, .d .bool], [.cells 28 [.d (.sl (.st (.pr .str (.pr (.int .i64) (.pr (.int .i64) (.pr .bool (.int .i64))))))), .d (.sl (.st (.pr .str .bool))), .d (.sl (.st (.pr .str (.int .i64)))), .d (.sl .str), .d (.sl .str), .d (.sl (.st (.pr (.int .i64) (.pr (.int .i64) (.int .i64)))))], .cells 33 [.row 4, .row 5, .row 6, .row 7, .row 8, .row 9, .d (.sl (.int .i64)), .row 10, .row 11], .cells 41 [.d (.int .i64), .d (.int .i64), .d (.int .i64), .d (.int .i64), .d (.int .i64), .d (.sl (.int .i64)), .d (.sl (.int .i64))], .cells 33 [.nil, .nil, .nil, .nil, .nil, .nil, .nil, .nil, .nil], .rows 31 false (.sl (.int .i64)), .rows 31 false (.sl (.int .i64)), .rows 31 false (.sl (.int .i64)), .rows 31 false (.sl (.int .i64)), .rows 31 false (.sl (.int .i64)), .rows 31 false (.sl (.int .i64)), .rows 31 false (.sl (.int .i64)), .rows 3 true (.int .i64)]⟩, []⟩)) (.node none .leaf (.node (some (.j ⟨[8], [4, 5, 6, 149], ⟨[.ptr 0 0, .ptr 1 0, .ptr 2 0, .d .bool], [.cells 33 [.row 3, .row 4, .row 5, .row 6, .row 7, .row 8, .d (.sl (.int .i64)), .row 9, .row 10], .cells 41 [.d (.int .i64), .d (.int .i64), .d (.int .i64), .d (.int .i64), .d (.int .i64), .d (.sl (.int .i64)), .d (.sl (.int .i64))], .cells 33 [.nil, .nil, .nil, .nil, .nil, .nil, .nil, .nil, .nil], .rows 31 false (.sl (.int .i64)), .rows 31 false (.sl (.int .i64)), .rows 31 false (.sl (.int .i64)), .rows 31 false (.sl (.int .i64)), .rows 31 false (.sl (.int .i64)), .rows 31 false (.sl (.int .i64)), .rows 31 false (.sl (.int .i64)), .rows 3 true (.int .i64)]⟩, []⟩)) .leaf .leaf)) .leaf)) .leaf) (.node none .leaf (.node none (.node (some (.j ⟨[8], [3, 4, 5, 6], ⟨[.ptr 0 0, .ptr 1 0, .ptr 2 0, .ptr 3 0], [.cells 28 [.d (.sl (.st (.pr .str (.pr (.int .i64) (.pr (.int .i64) (.pr .bool (.int .i64))))))), .d (.sl (.st (.pr .str .bool))), .d (.sl (.st (.pr .str (.int .i64)))), .d (.sl .str), .d (.sl .str), .d (.sl (.st (.pr (.int .i64) (.pr (.int .i64) (.int .i64)))))], .cells 33 [.row 4, .row 5, .row 6, .row 7, .row 8, .row 9, .d (.sl (.int .i64)), .row 10, .row 11], .cells 41 [.d (.int .i64), .d (.int .i64), .d (.int .i64), .d (.int .i64), .d (.int .i64), .d (.sl (.int .i64)), .d (.sl (.int .i64))], .cells 33 [.nil, .nil, .nil, .nil, .nil, .nil, .nil, .nil, .nil], .rows 31 false (.sl (.int .i64)), .rows 31 false (.sl (.int .i64)), .rows 31 false (.sl (.int .i64)), .rows 31 false (.sl (.int .i64)), .rows 31 false (.sl (.int .i64)), .rows 31 false (.sl (.int .i64)), .rows 31 false (.sl (.int .i64)), .rows 3 true (.int .i64)]⟩, []⟩)) .leaf .leaf) (.node none (.node none (.node none (.node (some (.j ⟨[8, 166, 167], [4, 5, 6], ⟨[.ptr 0 0, .ptr 1 0, .ptr 2 0], [.cells 33 [.row 3, .row 4, .row 5, .row 6, .row 7, .row 8, .d (.sl (.int .i64)), .row 9, .row 10], .cells 41 [.d (.int .i64), .d (.int .i64), .d (.int .i64), .d (.int .i64), .d (.int .i64), .d (.sl (.int .i64)), .d (.sl (.int .i64))], .cells 33 [.nil, .nil, .nil, .nil, .nil, .nil, .nil, .nil, .nil], .rows 31 false (.sl (.int .i64)), .rows 31 false (.sl (.int .i64)), .rows 31 false (.sl (.int .i64)), .rows 31 false (.sl (.int .i64)), .rows 31 false (.sl (.int .i64)), .rows 31 false (.sl (.int .i64)), .rows 31 false (.sl (.int .i64)), .rows 3 true (.int .i64)]⟩, []⟩)) .leaf .leaf) .leaf) .leaf) (.node none .leaf (.node (some (.j ⟨[8, 166], [4, 5, 6, 167], ⟨[.ptr 0 0, .ptr 1 0, .ptr 2 0, .d (.int .i64)], [.cells 33 [.row 3, .row 4, .row 5, .row 6, .row 7, .row 8, .d (.sl (.int .i64)), .row 9, .row 10], .cells 41 [.d (.int .i64), .d (.int .i64), .d (.int .i64), .d (.int .i64), .d (.int .i64), .d (.sl (.int .i64)), .d (.sl (.int .i64))], .cells 33 [.nil, .nil, .nil, .nil, .nil, .nil, .nil, .nil, .nil], .rows 31 false (.sl (.int .i64)), .rows 31 false (.sl (.int .i64)), .rows 31 false (.sl (.int .i64)), .rows 31 false (.sl (.int .i64)), .rows 31 false (.sl (.int .i64)), .rows 31 false (.sl (.int .i64)), .rows 31 false (.sl (.int .i64)), .rows 3 true (.int .i64)]⟩, []⟩)) .leaf .leaf))))))⟩
noncomputable def cr22_Step : Con := ⟨dr22_Step.pre, dr22_Step.post, mr22_Step⟩
def dr22_Start : FT := ⟨⟨[.d (.st (.pr (.sl (.st (.pr .str (.pr (.int .i64) (.pr (.int .i64) (.pr .bool (.int .i64))))))) (.pr (.sl (.st (.pr .str .bool))) (.pr (.sl (.st (.pr .str (.int .i64)))) (.pr (.sl .str) (.pr (.sl .str) (.sl (.st (.pr (.int .i64) (.pr (.int .i64) (.int .i64)))))))))))], []⟩, ⟨[.d (.st (.pr (.sl (.sl (.int .i64))) (.pr (.sl (.sl (.int .i64))) (.pr (.sl (.sl (.int .i64))) (.pr (.sl (.sl (.int .i64))) (.pr (.sl (.sl (.int .i64))) (.pr (.sl (.sl (.int .i64))) (.pr (.sl (.int .i64)) (.pr (.sl (.sl (.int .i64))) (.sl (.int .i64)))))))))))], []⟩, (.node none .leaf (.node none (.node none (.node (some (.j ⟨[40], [2, 3, 41], ⟨[.ptr 0 0, .ptr 1 0, .d (.int .i64)], [.cells 33 [.nil, .nil, .nil, .nil, .nil, .nil, .nil, .nil, .nil], .cells 33 [.row 2, .row 3, .row 4, .row 5, .row 6, .row 7, .nil, .row 8, .row 9], .rows 31 false (.sl (.int .i64)), .rows 31 false (.sl (.int .i64)), .rows 31 false (.sl (.int .i64)), .rows 31 false (.sl (.int .i64)), .rows 31 false (.sl (.int .i64)), .rows 31 false (.sl (.int .i64)), .rows 31 false (.sl (.int .i64)), .rows 3 false (.int .i64)]⟩, []⟩)) .leaf .leaf) .leaf) .leaf))⟩
noncomputable def cr22_Start : Con := ⟨dr22_Start.pre, dr22_Start.post, mr22_Start⟩
def dscene_World : FT := ⟨⟨[], []⟩, ⟨[.d (.st (.pr (.sl (.st (.pr .str (.pr (.int .i64) (.pr (.int .i64) (.pr .bool (.int .i64))))))) (.pr (.sl (.st (.pr .str .bool))) (.pr (.sl (.st (.pr .str (.int .i64)))) (.pr (.sl .str) (.pr (.sl .str) (.sl (.st (.pr (.int .i64) (.pr (.int .i64) (.int .i64)))))))))))], []⟩, (.node none .leaf (.node none (.node none (.node (some (.j ⟨[21], [0, 1, 22], ⟨[.ptr 0 0, .ptr 1 0, .d (.int .i64)], [.cells 28 [.nil, .nil, .nil, .nil, .nil, .nil], .cells 28 [.row 2, .row 3, .row 4, .row 5, .row 6, .row 7], .rows 58 false (.st (.pr .str (.pr (.int .i64) (.pr (.int .i64) (.pr .bool (.int .i64)))))), .rows 60 false (.st (.pr .str .bool)), .rows 62 false (.st (.pr .str (.int .i64))), .rows 9 false .str, .rows 9 false .str, .rows 64 true (.st (.pr (.int .i64) (.pr (.int .i64) (.int .i64))))]⟩, [.cel 1 5 64 (.st (.pr (.int .i64) (.pr (.int .i64) (.int .i64))))]⟩)) .leaf .leaf) .leaf) (.node none .leaf (.node none (.node (some (.j ⟨[2, 21, 22], [0, 1, 3], ⟨[.ptr 0 0, .ptr 1 0, .d (.int .i64)], [.cells 28 [.nil, .nil, .nil, .nil, .nil, .nil], .cells 28 [.row 2, .row 3, .row 4, .row 5, .row 6, .row 7], .rows 58 false (.st (.pr .str (.pr (.int .i64) (.pr (.int .i64) (.pr .bool (.int .i64)))))), .rows 60 false (.st (.pr .str .bool)), .rows 62 false (.st (.pr .str (.int .i64))), .rows 9 false .str, .rows 9 false .str, .rows 64 true (.st (.pr (.int .i64) (.pr (.int .i64) (.int .i64))))]⟩, []⟩)) .leaf .leaf) .leaf))))⟩
noncomputable def cscene_World : Con := ⟨dscene_World.pre, dscene_World.post, mscene_World⟩
def cawake : Con := ⟨⟨[], []⟩, ⟨[.d .bool], []⟩, mawake⟩
def dlaw23_HBStarts : FT := ⟨⟨[.d (.int .u8), .d (.int .u8), .d (.int .u8), .d (.int .u8)], []⟩, ⟨[.d .bool], []⟩, (.node none .leaf (.node (some (.j ⟨[], [9], ⟨[.ptr 0 0], [.cells 28 [.d (.sl (.st (.pr .str (.pr (.int .i64) (.pr (.int .i64) (.pr .bool (.int .i64))))))), .d (.sl (.st (.pr .str .bool))), .nil, .d (.sl .str), .d (.sl .str), .nil]]⟩, []⟩)) (.node (some (.j ⟨[], [8], ⟨[.d .bool], []⟩, []⟩)) .leaf .leaf) .leaf))⟩
noncomputable def claw23_HBStarts : Con := ⟨dlaw23_HBStarts.pre, dlaw23_HBStarts.post, mlaw23_HBStarts⟩
def dlaw23_HBAny : FT := ⟨⟨[.d (.sl (.st (.pr (.int .u8) (.pr (.int .u8) (.pr (.int .u8) (.int .u8))))))], []⟩, ⟨[.d .bool], []⟩, (.node none (.node none (.node none (.node none .leaf (.node none (.node none .leaf (.node (some (.j ⟨[18, 19, 20], [3, 4, 5, 9, 11, 109], ⟨[.ptr 0 0, .ptr 1 0, .ptr 2 0, .ptr 3 0, .ptr 4 0, .d .bool], [.cells 28 [.d (.sl (.st (.pr .str (.pr (.int .i64) (.pr (.int .i64) (.pr .bool (.int .i64))))))), .d (.sl (.st (.pr .str .bool))), .d (.sl (.st (.pr .str (.int .i64)))), .d (.sl .str), .d (.sl .str), .d (.sl (.st (.pr (.int .i64) (.pr (.int .i64) (.int .i64)))))], .cells 33 [.d (.sl (.sl (.int .i64))), .d (.sl (.sl (.int .i64))), .d (.sl (.sl (.int .i64))), .d (.sl (.sl (.int .i64))), .d (.sl (.sl (.int .i64))), .d (.sl (.sl (.int .i64))), .d (.sl (.int .i64)), .d (.sl (.sl (.int .i64))), .d (.sl (.int .i64))], .cells 33 [.d (.sl (.sl (.int .i64))), .d (.sl (.sl (.int .i64))), .d (.sl (.sl (.int .i64))), .d (.sl (.sl (.int .i64))), .d (.sl (.sl (.int .i64))), .d (.sl (.sl (.int .i64))), .d (.sl (.int .i64)), .d (.sl (.sl (.int .i64))), .d (.sl (.int .i64))], .cells 33 [.d (.sl (.sl (.int .i64))), .d (.sl (.sl (.int .i64))), .d (.sl (.sl (.int .i64))), .d (.sl (.sl (.int .i64))), .d (.sl (.sl (.int .i64))), .d (.sl (.sl (.int .i64))), .d (.sl (.int .i64)), .d (.sl (.sl (.int .i64))), .d (.sl (.int .i64))], .cells 33 [.d (.sl (.sl (.int .i64))), .d (.sl (.sl (.int .i64))), .d (.sl (.sl (.int .i64))), .d (.sl (.sl (.int .i64))), .d (.sl (.sl (.int .i64))), .d (.sl (.sl (.int .i64))), .d (.sl (.int .i64)), .d (.sl (.sl (.int .i64))), .d (.sl (.int .i64))]]⟩, []⟩)) .leaf .leaf)) .leaf)) .leaf) (.node none (.node (some (.j ⟨[], [], ⟨[], []⟩, []⟩)) (.node none (.node (some (.j ⟨[18, 19, 20, 43], [3, 4, 5, 7, 8, 45], ⟨[.ptr 0 0, .ptr 1 0, .ptr 2 0, .ptr 3 0, .ptr 4 0, .d .bool], [.cells 28 [.d (.sl (.st (.pr .str (.pr (.int .i64) (.pr (.int .i64) (.pr .bool (.int .i64))))))), .d (.sl (.st (.pr .str .bool))), .d (.sl (.st (.pr .str (.int .i64)))), .d (.sl .str), .d (.sl .str), .d (.sl (.st (.pr (.int .i64) (.pr (.int .i64) (.int .i64)))))], .cells 33 [.d (.sl (.sl (.int .i64))), .d (.sl (.sl (.int .i64))), .d (.sl (.sl (.int .i64))), .d (.sl (.sl (.int .i64))), .d (.sl (.sl (.int .i64))), .d (.sl (.sl (.int .i64))), .d (.sl (.int .i64)), .d (.sl (.sl (.int .i64))), .d (.sl (.int .i64))], .cells 33 [.d (.sl (.sl (.int .i64))), .d (.sl (.sl (.int .i64))), .d (.sl (.sl (.int .i64))), .d (.sl (.sl (.int .i64))), .d (.sl (.sl (.int .i64))), .d (.sl (.sl (.int .i64))), .d (.sl (.int .i64)), .d (.sl (.sl (.int .i64))), .d (.sl (.int .i64))], .cells 39 [.d (.int .u8), .d (.int .u8), .d (.int .u8), .d (.int .u8)], .cells 41 [.d (.int .i64), .d (.int .i64), .d (.int .i64), .d (.int .i64), .d (.int .i64), .nil, .nil]]⟩, []⟩)) (.node (some (.j ⟨[18, 19, 20, 43], [3, 4, 5, 7, 8, 70], ⟨[.ptr 0 0, .ptr 1 0, .ptr 2 0, .ptr 3 0, .ptr 4 0, .d .bool], [.cells 28 [.d (.sl (.st (.pr .str (.pr (.int .i64) (.pr (.int .i64) (.pr .bool (.int .i64))))))), .d (.sl (.st (.pr .str .bool))), .d (.sl (.st (.pr .str (.int .i64)))), .d (.sl .str), .d (.sl .str), .d (.sl (.st (.pr (.int .i64) (.pr (.int .i64) (.int .i64)))))], .cells 33 [.d (.sl (.sl (.int .i64))), .d (.sl (.sl (.int .i64))), .d (.sl (.sl (.int .i64))), .d (.sl (.sl (.int .i64))), .d (.sl (.sl (.int .i64))), .d (.sl (.sl (.int .i64))), .d (.sl (.int .i64)), .d (.sl (.sl (.int .i64))), .d (.sl (.int .i64))], .cells 33 [.d (.sl (.sl (.int .i64))), .d (.sl (.sl (.int .i64))), .d (.sl (.sl (.int .i64))), .d (.sl (.sl (.int .i64))), .d (.sl (.sl (.int .i64))), .d (.sl (.sl (.int .i64))), .d (.sl (.int .i64)), .d (.sl (.sl (.int .i64))), .d (.sl (.int .i64))], .cells 39 [.d (.int .u8), .d (.int .u8), .d (.int .u8), .d (.int .u8)], .cells 41 [.d (.int .i64), .d (.int .i64), .d (.int .i64), .d (.int .i64), .d (.int .i64), .nil, .nil]]⟩, []⟩)) .leaf .leaf) .leaf) (.node (some (.j ⟨[18, 19, 20, 43], [3, 4, 5, 7, 8, 64], ⟨[.ptr 0 0, .ptr 1 0, .ptr 2 0, .ptr 3 0, .ptr 4 0, .d .bool], [.cells 28 [.d (.sl (.st (.pr .str (.pr (.int .i64) (.pr (.int .i64) (.pr .bool (.int .i64))))))), .d (.sl (.st (.pr .str .bool))), .d (.sl (.st (.pr .str (.int .i64)))), .d (.sl .str), .d (.sl .str), .d (.sl (.st (.pr (.int .i64) (.pr (.int .i64) (.int .i64)))))], .cells 33 [.d (.sl (.sl (.int .i64))), .d (.sl (.sl (.int .i64))), .d (.sl (.sl (.int .i64))), .d (.sl (.sl (.int .i64))), .d (.sl (.sl (.int .i64))), .d (.sl (.sl (.int .i64))), .d (.sl (.int .i64)), .d (.sl (.sl (.int .i64))), .d (.sl (.int .i64))], .cells 33 [.d (.sl (.sl (.int .i64))), .d (.sl (.sl (.int .i64))), .d (.sl (.sl (.int .i64))), .d (.sl (.sl (.int .i64))), .d (.sl (.sl (.int .i64))), .d (.sl (.sl (.int .i64))), .d (.sl (.int .i64)), .d (.sl (.sl (.int .i64))), .d (.sl (.int .i64))], .cells 39 [.d (.int .u8), .d (.int .u8), .d (.int .u8), .d (.int .u8)], .cells 41 [.d (.int .i64), .d (.int .i64), .d (.int .i64), .d (.int .i64), .d (.int .i64), .nil, .nil]]⟩, []⟩)) .leaf .leaf)) (.node none (.node (some (.j ⟨[18, 19, 20, 43], [3, 4, 5, 7, 8, 56], ⟨[.ptr 0 0, .ptr 1 0, .ptr 2 0, .ptr 3 0, .ptr 4 0, .d .bool], [.cells 28 [.d (.sl (.st (.pr .str (.pr (.int .i64) (.pr (.int .i64) (.pr .bool (.int .i64))))))), .d (.sl (.st (.pr .str .bool))), .d (.sl (.st (.pr .str (.int .i64)))), .d (.sl .str), .d (.sl .str), .d (.sl (.st (.pr (.int .i64) (.pr (.int .i64) (.int .i64)))))], .cells 33 [.d (.sl (.sl (.int .i64))), .d (.sl (.sl (.int .i64))), .d (.sl (.sl (.int .i64))), .d (.sl (.sl (.int .i64))), .d (.sl (.sl (.int .i64))), .d (.sl (.sl (.int .i64))), .d (.sl (.int .i64)), .d (.sl (.sl (.int .i64))), .d (.sl (.int .i64))], .cells 33 [.d (.sl (.sl (.int .i64))), .d (.sl (.sl (.int .i64))), .d (.sl (.sl (.int .i64))), .d (.sl (.sl (.int .i64))), .d (.sl (.sl (.int .i64))), .d (.sl (.sl (.int .i64))), .d (.sl (.int .i64)), .d (.sl (.sl (.int .i64))), .d (.sl (.int .i64))], .cells 39 [.d (.int .u8), .d (.int .u8), .d (.int .u8), .d (.int .u8)], .cells 41 [.d (.int .i64), .d (.int .i64), .d (.int .i64), .d (.int .i64), .d (.int .i64), .nil, .nil]]⟩, []⟩)) (.node (some (.j ⟨[18, 19, 20], [3, 4, 5, 8, 78], ⟨[.ptr 0 0, .ptr 1 0, .ptr 2 0, .ptr 3 0, .d .bool], [.cells 28 [.d (.sl (.st (.pr .str (.pr (.int .i64) (.pr (.int .i64) (.pr .bool (.int .i64))))))), .d (.sl (.st (.pr .str .bool))), .d (.sl (.st (.pr .str (.int .i64)))), .d (.sl .str), .d (.sl .str), .d (.sl (.st (.pr (.int .i64) (.pr (.int .i64) (.int .i64)))))], .cells 33 [.d (.sl (.sl (.int .i64))), .d (.sl (.sl (.int .i64))), .d (.sl (.sl (.int .i64))), .d (.sl (.sl (.int .i64))), .d (.sl (.sl (.int .i64))), .d (.sl (.sl (.int .i64))), .d (.sl (.int .i64)), .d (.sl (.sl (.int .i64))), .d (.sl (.int .i64))], .cells 33 [.d (.sl (.sl (.int .i64))), .d (.sl (.sl (.int .i64))), .d (.sl (.sl (.int .i64))), .d (.sl (.sl (.int .i64))), .d (.sl (.sl (.int .i64))), .d (.sl (.sl (.int .i64))), .d (.sl (.int .i64)), .d (.sl (.sl (.int .i64))), .d (.sl (.int .i64))], .cells 41 [.d (.int .i64), .d (.int .i64), .d (.int .i64), .d (.int .i64), .d (.int .i64), .nil, .nil]]⟩, []⟩)) .leaf .leaf) .leaf) .leaf)) .leaf)) (.node none (.node none (.node none (.node none (.node (some (.j ⟨[18, 19, 20], [3, 4, 5, 8], ⟨[.ptr 0 0, .ptr 1 0, .ptr 2 0, .ptr 3 0], [.cells 28 [.d (.sl (.st (.pr .str (.pr (.int .i64) (.pr (.int .i64) (.pr .bool (.int .i64))))))), .d (.sl (.st (.pr .str .bool))), .d (.sl (.st (.pr .str (.int .i64)))), .d (.sl .str), .d (.sl .str), .d (.sl (.st (.pr (.int .i64) (.pr (.int .i64) (.int .i64)))))], .cells 33 [.d (.sl (.sl (.int .i64))), .d (.sl (.sl (.int .i64))), .d (.sl (.sl (.int .i64))), .d (.sl (.sl (.int .i64))), .d (.sl (.sl (.int .i64))), .d (.sl (.sl (.int .i64))), .d (.sl (.int .i64)), .d (.sl (.sl (.int .i64))), .d (.sl (.int .i64))], .cells 33 [.d (.sl (.sl (.int .i64))), .d (.sl (.sl (.int .i64))), .d (.sl (.sl (.int .i64))), .d (.sl (.sl (.int .i64))), .d (.sl (.sl (.int .i64))), .d (.sl (.sl (.int .i64))), .d (.sl (.int .i64)), .d (.sl (.sl (.int .i64))), .d (.sl (.int .i64))], .cells 41 [.d (.int .i64), .d (.int .i64), .d (.int .i64), .d (.int .i64), .d (.int .i64), .nil, .nil]]⟩, []⟩)) .leaf .leaf) .leaf) .leaf) .leaf) (.node none (.node (some (.j ⟨[18, 19], [3, 4, 5, 20], ⟨[.ptr 0 0, .ptr 1 0, .ptr 2 0, .d (.int .i64)], [.cells 28 [.d (.sl (.st (.pr .str (.pr (.int .i64) (.pr (.int .i64) (.pr .bool (.int .i64))))))), .d (.sl (.st (.pr .str .bool))), .d (.sl (.st (.pr .str (.int .i64)))), .d (.sl .str), .d (.sl .str), .d (.sl (.st (.pr (.int .i64) (.pr (.int .i64) (.int .i64)))))], .cells 33 [.d (.sl (.sl (.int .i64))), .d (.sl (.sl (.int .i64))), .d (.sl (.sl (.int .i64))), .d (.sl (.sl (.int .i64))), .d (.sl (.sl (.int .i64))), .d (.sl (.sl (.int .i64))), .d (.sl (.int .i64)), .d (.sl (.sl (.int .i64))), .d (.sl (.int .i64))], .cells 33 [.d (.sl (.sl (.int .i64))), .d (.sl (.sl (.int .i64))), .d (.sl (.sl (.int .i64))), .d (.sl (.sl (.int .i64))), .d (.sl (.sl (.int .i64))), .d (.sl (.sl (.int .i64))), .d (.sl (.int .i64)), .d (.sl (.sl (.int .i64))), .d (.sl (.int .i64))]]⟩, []⟩)) .leaf .leaf) .leaf)))⟩
noncomputable def claw23_HBAny : Con := ⟨dlaw23_HBAny.pre, dlaw23_HBAny.post, mlaw23_HBAny⟩
end Go.Proofs.YtjjplipoacljoaaDoor.AI
