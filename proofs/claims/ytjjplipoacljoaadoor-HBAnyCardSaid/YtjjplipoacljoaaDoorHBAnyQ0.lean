/-
  Texts of the proof, part 1 of 6: what is used to prove the statement. No condition.
-/
import Derived.WalkKit
import Derived.Lib.Hide
import Derived.Deep.QuietTactic
import Derived.WalkSpells
import Derived.Laws.CopyRow
import Derived.Deep.AppendSrc
import Derived.Laws.AppendOwn
namespace Go.Proofs.YtjjplipoacljoaaDoor.AI
open Go.RowKit

/-- A frozen value: what nobody will change any more, as a tree. A slice is given by its cells (flat) and its length. -/
inductive FV where
  | raw (v : Value)
  | sl (cells : List FV) (n : Nat)
  | ptr (cells : List FV) (off : Nat)
  | agg (cells : List FV)

/-- A value of a walk: frozen, or naming a block that the call owns. 'row id sz n': the slice over the whole of block id, of n elements of sz cells. -/
inductive AV where
  | f (x : FV)
  | ptr (id off : Nat)
  | sl (id off n : Nat)
  | row (id sz n : Nat)
  | mp (id : Nat)
  | emp
  | anyb
  | agg (cells : List AV)
  | tup (vs : List AV)
  | clo (g : FuncId) (cap : List AV)

def FV.isCell : FV → Bool
  | .raw v => v.oneCell'
  | .sl _ _ => true
  | .ptr _ _ => true
  | .agg _ => false

def AV.isCell : AV → Bool
  | .f x => x.isCell
  | .ptr _ _ => true
  | .sl _ _ _ => true
  | .row _ _ _ => true
  | .mp _ => true
  | .emp => true
  | .clo _ _ => true
  | _ => false

/-- v reads as x in w, all of it in blocks that are there and are not among O. -/
inductive RelF (O : Nat → Prop) (w : World) : FV → Value → Prop
  | raw (v : Value) : RelF O w (.raw v) v
  | nil (a : Option Addr) (c : Nat) (hc : c ≤ maxLen) : RelF O w (.sl [] 0) (.slice a 0 c)
  | sl (cells : List FV) (n c b off : Nat) (us : Nat → Value) (hn : n ≤ c) (hc : c ≤ maxLen) (hO : ¬ O b) (hb : b < w.heap.size)
      (hcl : ∀ x ∈ cells, x.isCell = true)
      (hu : ∀ j, j < cells.length → w.cell? ⟨b, off + j, none⟩ = some (us j)) (hr : ∀ (j : Nat) x, cells[j]? = some x → RelF O w x (us j)) :
      RelF O w (.sl cells n) (.slice (some ⟨b, off, none⟩) n c)
  | ptr (cells : List FV) (o b off : Nat) (us : Nat → Value) (hO : ¬ O b) (hb : b < w.heap.size)
      (hcl : ∀ x ∈ cells, x.isCell = true)
      (hu : ∀ j, j < cells.length → w.cell? ⟨b, off + j, none⟩ = some (us j)) (hr : ∀ (j : Nat) x, cells[j]? = some x → RelF O w x (us j)) :
      RelF O w (.ptr cells o) (.pointer (some ⟨b, off + o, none⟩))
  | agg (cells : List FV) (vs : List Value) (hl : vs.length = cells.length) (hcl : ∀ x ∈ cells, x.isCell = true)
      (hr : ∀ (j : Nat) x v, cells[j]? = some x → vs[j]? = some v → RelF O w x v) : RelF O w (.agg cells) (.agg vs.toArray)

/-- Abstract names to blocks. -/
abbrev PM := Nat → Option Nat

inductive RelV (φ : PM) (O : Nat → Prop) (w : World) : AV → Value → Prop
  | f {x : FV} {v : Value} (h : RelF O w x v) : RelV φ O w (.f x) v
  | ptr {id off b : Nat} (h : φ id = some b) : RelV φ O w (.ptr id off) (.pointer (some ⟨b, off, none⟩))
  | sl {id off n c b : Nat} (h : φ id = some b) (hn : n ≤ c) (hc : c ≤ maxLen) : RelV φ O w (.sl id off n) (.slice (some ⟨b, off, none⟩) n c)
  | row {id sz n c b : Nat} (h : φ id = some b) (hn : n ≤ c) (hc : c ≤ maxLen) (hs : ∃ ty, w.shape? b = some (ty, c * sz)) :
      RelV φ O w (.row id sz n) (.slice (some ⟨b, 0, none⟩) n c)
  | emp {a : Option Addr} : RelV φ O w .emp (.slice a 0 0)
  | anyb {b : Bool} : RelV φ O w .anyb (.bool b)
  | mp {id b : Nat} (h : φ id = some b) : RelV φ O w (.mp id) (.map (some b))
  | agg {cells : List AV} {vs : List Value} (hl : vs.length = cells.length) (hcl : ∀ x ∈ cells, x.isCell = true)
      (hr : ∀ (j : Nat) x v, cells[j]? = some x → vs[j]? = some v → RelV φ O w x v) : RelV φ O w (.agg cells) (.agg vs.toArray)
  | tup {cells : List AV} {vs : List Value} (hl : vs.length = cells.length)
      (hr : ∀ (j : Nat) x v, cells[j]? = some x → vs[j]? = some v → RelV φ O w x v) : RelV φ O w (.tup cells) (.tuple vs.toArray)
  | clo {g : FuncId} {cells : List AV} {vs : List Value} (hl : vs.length = cells.length)
      (hr : ∀ (j : Nat) x v, cells[j]? = some x → vs[j]? = some v → RelV φ O w x v) : RelV φ O w (.clo g cells) (.func (.func g) #[] vs.toArray)

/-- From w to w' only blocks among O (and new ones) may have turned; no block has another size or type. -/
structure Ext (O : Nat → Prop) (w w' : World) : Prop where
  os : w'.os = w.os
  tape : w'.tape = w.tape
  output : w'.output = w.output
  size : w.heap.size ≤ w'.heap.size
  blk : ∀ k, k < w.heap.size → ¬ O k → w'.heap[k]? = w.heap[k]?
  shp : ∀ k, k < w.heap.size → w'.shape? k = w.shape? k

theorem Ext.refl (O : Nat → Prop) (w : World) : Ext O w w := ⟨rfl, rfl, rfl, Nat.le_refl _, fun _ _ _ => rfl, fun _ _ => rfl⟩

theorem cell_of_heap {w w' : World} {b : Nat} (h : w'.heap[b]? = w.heap[b]?) (o : Nat) : w'.cell? ⟨b, o, none⟩ = w.cell? ⟨b, o, none⟩ := by
  unfold World.cell?; rw [h]

theorem RelF.ext {O O' : Nat → Prop} {w w' : World} (he : Ext O w w') (ho : ∀ k, k < w.heap.size → O' k → O k) {x : FV} {v : Value} (h : RelF O w x v) : RelF O' w' x v := by
  induction h with
  | raw v => exact .raw v
  | nil a c hc => exact .nil a c hc
  | sl cells n c b off us hn hc hO hb hcl hu hr ih =>
    exact .sl cells n c b off us hn hc (fun h => hO (ho b hb h)) (Nat.lt_of_lt_of_le hb he.size) hcl (fun j hj => by rw [cell_of_heap (he.blk b hb hO)]; exact hu j hj) ih
  | ptr cells o b off us hO hb hcl hu hr ih =>
    exact .ptr cells o b off us (fun h => hO (ho b hb h)) (Nat.lt_of_lt_of_le hb he.size) hcl (fun j hj => by rw [cell_of_heap (he.blk b hb hO)]; exact hu j hj) ih
  | agg cells vs hl hcl hr ih => exact .agg cells vs hl hcl ih

theorem RelV.ext {φ φ' : PM} {O O' : Nat → Prop} {w w' : World} (hs : ∀ i k, φ i = some k → φ' i = some k) (he : Ext O w w') (ho : ∀ k, k < w.heap.size → O' k → O k) {x : AV} {v : Value} (h : RelV φ O w x v) : RelV φ' O' w' x v := by
  induction h with
  | f h => exact .f (h.ext he ho)
  | ptr h => exact .ptr (hs _ _ h)
  | sl h hn hc => exact .sl (hs _ _ h) hn hc
  | row h hn hc hsh =>
    obtain ⟨ty, hty⟩ := hsh
    refine .row (hs _ _ h) hn hc ⟨ty, ?_⟩
    rw [he.shp _ ?_]; exact hty
    unfold World.shape? at hty
    rcases Nat.lt_or_ge _ w.heap.size with hlt | hge
    · exact hlt
    · rw [Array.getElem?_eq_none hge] at hty; cases hty
  | emp => exact .emp
  | anyb => exact .anyb
  | mp h => exact .mp (hs _ _ h)
  | agg hl hcl hr ih => exact .agg hl hcl ih
  | tup hl hr ih => exact .tup hl ih
  | clo hl hr ih => exact .clo hl ih

/-- An object's content: cells all frozen, or mixed; a map's entries; the place of a walk over a string. -/
inductive BC where
  | fz (l : List FV)
  | mx (l : List AV)
  | mp (es : List (Value × AV))
  | it (s : ByteArray) (pos : Nat)

def BC.get : BC → Nat → Option AV
  | .fz l, j => l[j]?.map AV.f
  | .mx l, j => l[j]?
  | _, _ => none
def BC.len : BC → Nat
  | .fz l => l.length
  | .mx l => l.length
  | _ => 0
def BC.isCells : BC → Bool
  | .fz _ => true
  | .mx _ => true
  | _ => false

structure Blk where
  ty : TypeId
  c : BC

abbrev HF := Nat → Option Blk

def own (φ : PM) (h : HF) (k : Nat) : Prop := ∃ id b, h id = some b ∧ φ id = some k
def tot (E : Nat → Prop) (φ : PM) (h : HF) (k : Nat) : Prop := E k ∨ own φ h k

/-- Cells hold the content c (and maybe more behind it). -/
def CellsAt (φ : PM) (O : Nat → Prop) (w : World) (c : BC) (arr : Array Value) : Prop :=
  c.len ≤ arr.size ∧ ∀ j x, c.get j = some x → x.isCell = true ∧ ∃ v, arr[j]? = some v ∧ RelV φ O w x v

def ObjAt (φ : PM) (O : Nat → Prop) (w : World) (b : Blk) (o : Obj) : Prop :=
  match b.c with
  | .mp es => ∃ ents clock, o = .map ents clock ∧ ents.toList.map (·.key) = es.map (·.1) ∧ ∀ (j : Nat) x, es[j]? = some x → ∃ m, ents[j]? = some m ∧ RelV φ O w x.2 m.val
  | .it s p => o = .stringIter s p
  | c => ∃ arr, o = .cells arr b.ty (0, 0) ∧ CellsAt φ O w c arr

/-- Object k holds what b says. -/
def BlkAt (φ : PM) (O : Nat → Prop) (w : World) (k : Nat) (b : Blk) : Prop := ∃ o, w.heap[k]? = some o ∧ ObjAt φ O w b o

theorem BlkAt.cells {φ : PM} {O : Nat → Prop} {w : World} {k : Nat} {b : Blk} (h : BlkAt φ O w k b) (hc : b.c.isCells = true) :
    ∃ arr, w.heap[k]? = some (.cells arr b.ty (0, 0)) ∧ CellsAt φ O w b.c arr := by
  obtain ⟨o, h1, h2⟩ := h
  unfold ObjAt at h2
  cases hb : b.c with
  | fz l => rw [hb] at h2; obtain ⟨arr, rfl, h3⟩ := h2; exact ⟨arr, h1, h3⟩
  | mx l => rw [hb] at h2; obtain ⟨arr, rfl, h3⟩ := h2; exact ⟨arr, h1, h3⟩
  | mp _ => rw [hb] at hc; cases hc
  | it _ _ => rw [hb] at hc; cases hc
theorem BlkAt.ofCells {φ : PM} {O : Nat → Prop} {w : World} {k : Nat} {b : Blk} (hc : b.c.isCells = true) {arr : Array Value} (h1 : w.heap[k]? = some (.cells arr b.ty (0, 0))) (h2 : CellsAt φ O w b.c arr) : BlkAt φ O w k b := by
  refine ⟨_, h1, ?_⟩
  unfold ObjAt
  cases hb : b.c with
  | fz l => rw [hb] at h2; exact ⟨arr, rfl, h2⟩
  | mx l => rw [hb] at h2; exact ⟨arr, rfl, h2⟩
  | mp _ => rw [hb] at hc; cases hc
  | it _ _ => rw [hb] at hc; cases hc

theorem ObjAt.mono {φ φ' : PM} {O O' : Nat → Prop} {w w' : World} (hk : ∀ x v, RelV φ O w x v → RelV φ' O' w' x v) {b : Blk} {o : Obj} (h : ObjAt φ O w b o) : ObjAt φ' O' w' b o := by
  unfold ObjAt at h ⊢
  cases hb : b.c with
  | fz l => rw [hb] at h; obtain ⟨arr, h1, h2, h3⟩ := h; exact ⟨arr, h1, h2, fun j x hx => by obtain ⟨a, v, c, d⟩ := h3 j x hx; exact ⟨a, v, c, hk _ _ d⟩⟩
  | mx l => rw [hb] at h; obtain ⟨arr, h1, h2, h3⟩ := h; exact ⟨arr, h1, h2, fun j x hx => by obtain ⟨a, v, c, d⟩ := h3 j x hx; exact ⟨a, v, c, hk _ _ d⟩⟩
  | mp es => rw [hb] at h; obtain ⟨e, c, h1, h2, h3⟩ := h; exact ⟨e, c, h1, h2, fun j x hx => by obtain ⟨m, a, b⟩ := h3 j x hx; exact ⟨m, a, hk _ _ b⟩⟩
  | it s p => rw [hb] at h; exact h
theorem CellsAt.mono {φ φ' : PM} {O O' : Nat → Prop} {w w' : World} (hk : ∀ x v, RelV φ O w x v → RelV φ' O' w' x v) {c : BC} {arr : Array Value} (h : CellsAt φ O w c arr) : CellsAt φ' O' w' c arr :=
  ⟨h.1, fun j x hx => by obtain ⟨a, v, c, d⟩ := h.2 j x hx; exact ⟨a, v, c, hk _ _ d⟩⟩

/-- What a package-level variable holds. -/
def gstr (l : List UInt8) : FV := .raw (.string ⟨l.toArray⟩)
def kwCells : List FV := [gstr [118, 97, 114], gstr [118, 111, 108, 97, 116, 105, 108, 101], gstr [109, 117, 116, 101, 120], gstr [114, 119, 108, 111, 99, 107], gstr [99, 111, 110, 100], gstr [102, 117, 116, 117, 114, 101], gstr [116, 104, 114, 101, 97, 100], gstr [105, 102], gstr [101, 108, 115, 101], gstr [119, 104, 105, 108, 101], gstr [108, 111, 99, 107], gstr [114, 101, 97, 100], gstr [119, 114, 105, 116, 101], gstr [116, 114, 97, 110, 115, 97, 99, 116, 105, 111, 110], gstr [97, 116, 111, 109, 105, 99], gstr [119, 97, 105, 116], gstr [110, 111, 116, 105, 102, 121], gstr [110, 111, 116, 105, 102, 121, 97, 108, 108], gstr [115, 112, 97, 119, 110], gstr [106, 111, 105, 110], gstr [115, 101, 116], gstr [103, 101, 116]]
def G (g : Nat) : Option (List FV) := if g == 0 then some kwCells else none

structure Rep (φ : PM) (E : Nat → Prop) (h : HF) (w : World) : Prop where
  inj : ∀ i j b b' k, h i = some b → h j = some b' → φ i = some k → φ j = some k → i = j
  at_ : ∀ i b, h i = some b → ∃ k, φ i = some k ∧ ¬ E k ∧ BlkAt φ (tot E φ h) w k b
  el : ∀ k, E k → k < w.heap.size
  gl : ∀ g cells, G g = some cells → RelF (tot E φ h) w (.ptr cells 0) (.pointer (some ⟨g, 0, none⟩))

/-- What a step changes: names stay, only owned blocks turn, nothing old becomes owned. -/
structure Moves (φ φ' : PM) (h h' : HF) (w w' : World) : Prop where
  sub : ∀ i k, φ i = some k → φ' i = some k
  ext : Ext (own φ h) w w'
  own_ : ∀ k, k < w.heap.size → own φ' h' k → own φ h k

theorem Moves.refl (φ : PM) (h : HF) (w : World) : Moves φ φ h h w w := ⟨fun _ _ h => h, Ext.refl _ _, fun _ _ h => h⟩
theorem Moves.trans {φ φ' φ'' : PM} {h h' h'' : HF} {w w' w'' : World} (m : Moves φ φ' h h' w w') (n : Moves φ' φ'' h' h'' w' w'') : Moves φ φ'' h h'' w w'' where
  sub := fun i k e => n.sub i k (m.sub i k e)
  ext := ⟨n.ext.os.trans m.ext.os, n.ext.tape.trans m.ext.tape, n.ext.output.trans m.ext.output, Nat.le_trans m.ext.size n.ext.size,
    fun k hk ho => (n.ext.blk k (Nat.lt_of_lt_of_le hk m.ext.size) (fun h => ho (m.own_ k hk h))).trans (m.ext.blk k hk ho),
    fun k hk => (n.ext.shp k (Nat.lt_of_lt_of_le hk m.ext.size)).trans (m.ext.shp k hk)⟩
  own_ := fun k hk h => m.own_ k hk (n.own_ k (Nat.lt_of_lt_of_le hk m.ext.size) h)

theorem Ext.mono {O O' : Nat → Prop} {w w' : World} (h : Ext O w w') (ho : ∀ k, O k → O' k) : Ext O' w w' :=
  ⟨h.os, h.tape, h.output, h.size, fun k hk hO => h.blk k hk (fun x => hO (ho k x)), h.shp⟩

theorem Moves.keep {φ φ' : PM} {h h' : HF} {w w' : World} (m : Moves φ φ' h h' w w') {E : Nat → Prop} {x : AV} {v : Value} (r : RelV φ (tot E φ h) w x v) : RelV φ' (tot E φ' h') w' x v :=
  r.ext m.sub (m.ext.mono fun _ h => .inr h) fun k hk ho => ho.elim .inl fun o => .inr (m.own_ k hk o)
theorem Moves.keepF {φ φ' : PM} {h h' : HF} {w w' : World} (m : Moves φ φ' h h' w w') {E : Nat → Prop} {x : FV} {v : Value} (r : RelF (tot E φ h) w x v) : RelF (tot E φ' h') w' x v :=
  r.ext (m.ext.mono fun _ h => .inr h) fun k hk ho => ho.elim .inl fun o => .inr (m.own_ k hk o)

end Go.Proofs.YtjjplipoacljoaaDoor.AI
namespace Go.Proofs.YtjjplipoacljoaaDoor.AI
open Go.RowKit

abbrev EF := Nat → Option AV
def EnvOK (φ : PM) (O : Nat → Prop) (w : World) (e : EF) (a : Act) : Prop := ∀ t x, e t = some x → RelV φ O w x (a.tmps.getD t undef)
def putE (e : EF) (dst : Option Nat) (x : AV) : EF := fun t => if dst = some t then some x else e t
def updF (h : HF) (wr : List Nat) (nw : HF) : HF := fun i => if i ∈ wr then nw i else h i

structure Eff where
  val : AV
  rd : List Nat
  wr : List Nat
  nw : HF
  N : List Nat

def OpT (P : Program) (o : Oper) (e : EF) (h : HF) (f : Eff) : Prop :=
  ∀ (φ : PM) (E : Nat → Prop) (h' : HF) (w : World) (a : Act), (∀ i ∈ f.rd, h' i = h i) → (∀ i ∈ f.wr, h' i = h i) →
    (∀ t, .tmp t ∈ o.op.operands → ∀ y, e t = some y → RelV φ (tot E φ h') w y (a.tmps.getD t undef)) → Rep φ E h' w → (∀ n ∈ f.N, φ n = none) →
    o.wp P a w (fun a' w' => ∃ v φ', a' = a.put o.dst v ∧ Moves φ φ' h' (updF h' f.wr f.nw) w w' ∧ (∀ i k, φ' i = some k → φ i = some k ∨ i ∈ f.N) ∧
      Rep φ' E (updF h' f.wr f.nw) w' ∧ RelV φ' (tot E φ' (updF h' f.wr f.nw)) w' f.val v) (fun _ _ _ => False)

def skipEff : Eff := ⟨.f (.raw undef), [], [], fun _ => none, []⟩

inductive StepOK (P : Program) (ops : Array Oper) (o : Oper) (f : Eff) (e : EF) (h : HF) : Prop
  | run (hg : o.guard = none) (ht : OpT P o e h f)
  | runG (j t : Nat) (want : Bool) (hg : o.guard = some (j, want)) (hj : (ops[j]?).bind (·.dst) = some t) (he : e t = some (.f (.raw (.bool want)))) (ht : OpT P o e h f)
  | skip (j t : Nat) (want : Bool) (hg : o.guard = some (j, want)) (hj : (ops[j]?).bind (·.dst) = some t) (v : Value) (he : e t = some (.f (.raw v))) (hv : v ≠ .bool want) (hf : f = skipEff)

inductive Chain (P : Program) (ops : Array Oper) : List (Oper × Eff) → EF → HF → EF → HF → Prop
  | nil (e : EF) (h : HF) : Chain P ops [] e h e h
  | cons {o : Oper} {f : Eff} {r : List (Oper × Eff)} {e e' : EF} {h h' : HF} (hs : StepOK P ops o f e h)
      (hr : Chain P ops r (putE e o.dst f.val) (updF h f.wr f.nw) e' h') : Chain P ops ((o, f) :: r) e h e' h'

def stE (S : Nat → Bool) : Nat → List (Oper × Eff) → EF → EF
  | _, [], e => e
  | k, (o, f) :: r, e => stE S (k + 1) r (if S k then putE e o.dst f.val else e)
def stH (S : Nat → Bool) : Nat → List (Oper × Eff) → HF → HF
  | _, [], h => h
  | k, (_, f) :: r, h => stH S (k + 1) r (if S k then updF h f.wr f.nw else h)

theorem stE_local {S S' : Nat → Bool} {t : Nat} : ∀ (l : List (Oper × Eff)) (k : Nat) (e e' : EF), e t = e' t →
    (∀ (j : Nat) o f, l[j]? = some (o, f) → o.dst = some t → S (k + j) = S' (k + j)) → stE S k l e t = stE S' k l e' t
  | [], _, _, _, he, _ => he
  | (o, f) :: r, k, e, e', he, hw => by
    simp only [stE]
    refine stE_local r (k + 1) _ _ ?_ (fun j o f hj hd => by have := hw (j + 1) o f (by simpa using hj) hd; rwa [show k + (j + 1) = k + 1 + j from by omega] at this)
    by_cases hd : o.dst = some t
    · rw [show S k = S' k from by simpa using hw 0 o f rfl hd]
      split
      · simp [putE, hd]
      · exact he
    · split <;> split <;> simp [putE, hd, he]
theorem stH_local {S S' : Nat → Bool} {t : Nat} : ∀ (l : List (Oper × Eff)) (k : Nat) (e e' : HF), e t = e' t →
    (∀ (j : Nat) o f, l[j]? = some (o, f) → t ∈ f.wr → S (k + j) = S' (k + j)) → stH S k l e t = stH S' k l e' t
  | [], _, _, _, he, _ => he
  | (o, f) :: r, k, e, e', he, hw => by
    simp only [stH]
    refine stH_local r (k + 1) _ _ ?_ (fun j o f hj hd => by have := hw (j + 1) o f (by simpa using hj) hd; rwa [show k + (j + 1) = k + 1 + j from by omega] at this)
    by_cases hd : t ∈ f.wr
    · rw [show S k = S' k from by simpa using hw 0 o f rfl hd]
      split
      · simp [updF, hd]
      · exact he
    · split <;> split <;> simp [updF, hd, he]

theorem stE_none {S : Nat → Bool} {t : Nat} : ∀ (l : List (Oper × Eff)) (k : Nat) (e : EF), (∀ (j : Nat) o f, l[j]? = some (o, f) → o.dst = some t → S (k + j) = false) → stE S k l e t = e t
  | [], _, _, _ => rfl
  | (o, f) :: r, k, e, hw => by
    simp only [stE]
    rw [stE_none r (k + 1) _ (fun j o f hj hd => by have := hw (j + 1) o f (by simpa using hj) hd; rwa [show k + (j + 1) = k + 1 + j from by omega] at this)]
    split
    · rename_i h
      unfold putE
      rw [if_neg]
      intro hd
      have := hw 0 o f rfl hd
      simp_all
    · rfl
theorem stH_none {S : Nat → Bool} {t : Nat} : ∀ (l : List (Oper × Eff)) (k : Nat) (e : HF), (∀ (j : Nat) o f, l[j]? = some (o, f) → t ∈ f.wr → S (k + j) = false) → stH S k l e t = e t
  | [], _, _, _ => rfl
  | (o, f) :: r, k, e, hw => by
    simp only [stH]
    rw [stH_none r (k + 1) _ (fun j o f hj hd => by have := hw (j + 1) o f (by simpa using hj) hd; rwa [show k + (j + 1) = k + 1 + j from by omega] at this)]
    split
    · rename_i h
      unfold updF
      rw [if_neg]
      intro hd
      have := hw 0 o f rfl hd
      simp_all
    · rfl

theorem stE_last {S : Nat → Bool} {t : Nat} : ∀ (l : List (Oper × Eff)) (k i : Nat) (e : EF) (o : Oper) (f : Eff), l[i]? = some (o, f) → o.dst = some t → S (k + i) = true →
    (∀ (j : Nat) o' f', i < j → l[j]? = some (o', f') → o'.dst = some t → S (k + j) = false) → stE S k l e t = some f.val
  | [], _, _, _, _, _, h, _, _, _ => by simp at h
  | (o', f') :: r, k, 0, e, o, f, h, hd, hS, hl => by
    simp only [List.getElem?_cons_zero, Option.some.injEq, Prod.mk.injEq] at h
    obtain ⟨rfl, rfl⟩ := h
    simp only [stE]
    rw [stE_none r (k + 1) _ (fun j o f hj hd => by have := hl (j + 1) o f (by omega) (by simpa using hj) hd; rwa [show k + (j + 1) = k + 1 + j from by omega] at this)]
    simp at hS
    simp [hS, putE, hd]
  | (o', f') :: r, k, i + 1, e, o, f, h, hd, hS, hl => by
    simp only [stE]
    exact stE_last r (k + 1) i _ o f (by simpa using h) hd (by rwa [show k + 1 + i = k + (i + 1) from by omega])
      (fun j o f hij hj hd => by have := hl (j + 1) o f (by omega) (by simpa using hj) hd; rwa [show k + (j + 1) = k + 1 + j from by omega] at this)
theorem stH_last {S : Nat → Bool} {t : Nat} : ∀ (l : List (Oper × Eff)) (k i : Nat) (e : HF) (o : Oper) (f : Eff), l[i]? = some (o, f) → t ∈ f.wr → S (k + i) = true →
    (∀ (j : Nat) o' f', i < j → l[j]? = some (o', f') → t ∈ f'.wr → S (k + j) = false) → stH S k l e t = f.nw t
  | [], _, _, _, _, _, h, _, _, _ => by simp at h
  | (o', f') :: r, k, 0, e, o, f, h, hd, hS, hl => by
    simp only [List.getElem?_cons_zero, Option.some.injEq, Prod.mk.injEq] at h
    obtain ⟨rfl, rfl⟩ := h
    simp only [stH]
    rw [stH_none r (k + 1) _ (fun j o f hj hd => by have := hl (j + 1) o f (by omega) (by simpa using hj) hd; rwa [show k + (j + 1) = k + 1 + j from by omega] at this)]
    simp at hS
    simp [hS, updF, hd]
  | (o', f') :: r, k, i + 1, e, o, f, h, hd, hS, hl => by
    simp only [stH]
    exact stH_last r (k + 1) i _ o f (by simpa using h) hd (by rwa [show k + 1 + i = k + (i + 1) from by omega])
      (fun j o f hij hj hd => by have := hl (j + 1) o f (by omega) (by simpa using hj) hd; rwa [show k + (j + 1) = k + 1 + j from by omega] at this)

theorem Chain.step {P : Program} {ops : Array Oper} : ∀ {l : List (Oper × Eff)} {e e' : EF} {h h' : HF} (_ : Chain P ops l e h e' h') (k i : Nat) (o : Oper) (f : Eff), l[i]? = some (o, f) →
    StepOK P ops o f (stE (fun j => decide (j < k + i)) k l e) (stH (fun j => decide (j < k + i)) k l h) := by
  intro l e e' h h' hc
  induction hc with
  | nil => intro k i o f hi; simp at hi
  | @cons o1 f1 r e e' h h' hs hr ih =>
    intro k i o f hi
    cases i with
    | zero =>
      simp only [List.getElem?_cons_zero, Option.some.injEq, Prod.mk.injEq] at hi
      obtain ⟨rfl, rfl⟩ := hi
      have e1 : stE (fun j => decide (j < k + 0)) k ((o1, f1) :: r) e = e := by
        funext t; rw [stE_none]; intro j o f _ _; simp
      have e2 : stH (fun j => decide (j < k + 0)) k ((o1, f1) :: r) h = h := by
        funext t; rw [stH_none]; intro j o f _ _; simp
      rw [e1, e2]; exact hs
    | succ i =>
      have := ih (k + 1) i o f (by simpa using hi)
      simp only [stE, stH]
      rw [show k + (i + 1) = k + 1 + i from by omega]
      simpa [show k < k + 1 + i from by omega] using this
theorem Chain.final {P : Program} {ops : Array Oper} : ∀ {l : List (Oper × Eff)} {e e' : EF} {h h' : HF} (_ : Chain P ops l e h e' h') (k : Nat) (S : Nat → Bool), (∀ j, j < l.length → S (k + j) = true) →
    stE S k l e = e' ∧ stH S k l h = h' := by
  intro l e e' h h' hc
  induction hc with
  | nil => intro k S _; exact ⟨rfl, rfl⟩
  | @cons o1 f1 r e e' h h' hs hr ih =>
    intro k S hS
    have h0 : S k = true := by simpa using hS 0 (by simp)
    simp only [stE, stH, h0, if_true]
    exact ih (k + 1) S (fun j hj => by have := hS (j + 1) (by simpa using hj); rwa [show k + (j + 1) = k + 1 + j from by omega] at this)

end Go.Proofs.YtjjplipoacljoaaDoor.AI
namespace Go.Proofs.YtjjplipoacljoaaDoor.AI
open Go.RowKit

theorem wp_monoQ {P : Program} {o : Oper} {a : Act} {w : World} {K K' : Act → World → Prop} {Q : Exit → Act → World → Prop} (h : ∀ a w, K a w → K' a w)
    (hh : o.wp P a w K (fun _ _ _ => False)) : o.wp P a w K' Q := by
  unfold Oper.wp at *
  generalize (execOp a.eval o).run P w = r at *
  cases r with
  | ok n w' =>
    cases n <;> simp only [Oper.upon] at hh ⊢ <;>
      first
        | exact h _ _ hh
        | exact Calls.mono hh (fun e w'' he => by
            cases e with
            | returned v => exact h _ _ he
            | panicked c => exact he.elim
            | outgrown => obtain ⟨_, _, h⟩ := he; exact h.elim)
        | exact Rows.mono hh (fun _ _ he => h _ _ he)
  | halt x w' => cases x <;> simp only [Oper.upon] at hh ⊢ <;> first | exact hh.elim | exact hh

inductive Bef (ops : Array Oper) : Nat → Nat → Prop
  | one {j : Nat} {o : Oper} {e : Edge} (h : ops[j]? = some o) (he : e ∈ o.after) (hb : Region.binds .any e = true) : Bef ops j e.on
  | more {j i : Nat} {o : Oper} {e : Edge} (h : ops[j]? = some o) (he : e ∈ o.after) (hb : Region.binds .any e = true) (hi : Bef ops e.on i) : Bef ops j i

structure NIP (ops : Array Oper) (l : List (Oper × Eff)) : Prop where
  edge : ∀ (j : Nat) o, ops[j]? = some o → ∀ e ∈ o.after, Region.binds .any e = true → e.on < j
  pair : ∀ (i j : Nat) oi fi oj fj, i < j → l[i]? = some (oi, fi) → l[j]? = some (oj, fj) → Bef ops j i ∨
    (oi.apart ops oj = true ∧ (∀ x ∈ fi.wr, x ∉ fj.rd ∧ x ∉ fj.wr) ∧ (∀ x ∈ fj.wr, x ∉ fi.rd))
  names : ∀ (i j : Nat) oi fi oj fj, i < j → l[i]? = some (oi, fi) → l[j]? = some (oj, fj) → ∀ n ∈ fi.N, n ∉ fj.N

/-- listed is closed under what must come before. -/
def Closed (ops : Array Oper) (listed : Array Bool) : Prop := ∀ (j : Nat) o, ops[j]? = some o → listed.getD j false = true → ∀ e ∈ o.after, Region.binds .any e = true → listed.getD e.on false = true

theorem Closed.bef {ops : Array Oper} {listed : Array Bool} (hc : Closed ops listed) {j i : Nat} (h : Bef ops j i) : listed.getD j false = true → listed.getD i false = true := by
  induction h with
  | one h he hb => intro hj; exact hc _ _ h hj _ he hb
  | more h he hb hi ih => intro hj; exact ih (hc _ _ h hj _ he hb)
theorem ready_bef {ops : Array Oper} {listed : Array Bool} (hc : Closed ops listed) {j i : Nat} {o : Oper} (ho : ops[j]? = some o) (hr : ∀ e ∈ o.after, Region.binds .any e = true → listed.getD e.on false = true) (h : Bef ops j i) : listed.getD i false = true := by
  cases h with
  | one h he hb => rw [h] at ho; cases ho; exact hr _ he hb
  | more h he hb hi => rw [h] at ho; cases ho; exact hc.bef hi (hr _ he hb)

theorem getD_true_false {listed : Array Bool} {j : Nat} (h : listed.getD j true = false) : listed.getD j false = false ∧ j < listed.size := by
  rcases Nat.lt_or_ge j listed.size with h1 | h1
  · simp [h1] at h ⊢; exact h
  · simp [Array.getElem?_eq_none h1] at h

/-- The state when the operations of S have been carried out. -/
def StP (φ0 : PM) (E : Nat → Prop) (e0 : EF) (h0 : HF) (w0 : World) (a0 : Act) (l : List (Oper × Eff)) (S : Nat → Bool) (a : Act) (w : World) : Prop :=
  ∃ φ, Moves φ0 φ h0 (stH S 0 l h0) w0 w ∧ (∀ i k, φ i = some k → φ0 i = some k ∨ ∃ (j : Nat) (o : Oper) (f : Eff), S j = true ∧ l[j]? = some (o, f) ∧ i ∈ f.N) ∧
    Rep φ E (stH S 0 l h0) w ∧ EnvOK φ (tot E φ (stH S 0 l h0)) w (stE S 0 l e0) a ∧ a.defers = a0.defers ∧ a.tmps.size = a0.tmps.size

theorem put_getD {a : Act} {dst : Option Tmp} {v : Value} {t : Nat} (hd : ∀ d, dst = some d → d < a.tmps.size) : (a.put dst v).tmps.getD t undef = if dst = some t then v else a.tmps.getD t undef := by
  cases dst with
  | none => simp [Act.put]
  | some d =>
    by_cases h : d = t
    · subst h
      simp [Act.put, hd d rfl]
    · simp [Act.put, h, Array.getElem?_setIfInBounds_ne h]
theorem put_size {a : Act} {dst : Option Tmp} {v : Value} : (a.put dst v).tmps.size = a.tmps.size := by cases dst <;> simp [Act.put]
theorem put_defers {a : Act} {dst : Option Tmp} {v : Value} : (a.put dst v).defers = a.defers := by cases dst <;> rfl

theorem one_step {P : Program} {ops : Array Oper} {l : List (Oper × Eff)} {e0 e' : EF} {h0 h' : HF} {φ0 : PM} {E : Nat → Prop} {w0 : World} {a0 : Act}
    (hl : l.map (·.1) = ops.toList) (hc : Chain P ops l e0 h0 e' h') (ni : NIP ops l) (hfr : ∀ (j : Nat) o f, l[j]? = some (o, f) → ∀ n ∈ f.N, φ0 n = none)
    (hsz : ∀ (j : Nat) o, ops[j]? = some o → ∀ d, o.dst = some d → d < a0.tmps.size) {listed : Array Bool} (hcl : Closed ops listed) {i : Nat} (hi : i ∈ Region.ready .any ops listed) {Q : Exit → Act → World → Prop} {K : Act → World → Prop}
    (hK : ∀ a w, StP φ0 E e0 h0 w0 a0 l (fun j => (listed.setIfInBounds i true).getD j false) a w → K a w) {a : Act} {w : World} (hst : StP φ0 E e0 h0 w0 a0 l (fun j => listed.getD j false) a w) :
    wpOp P ops Q i K a w := by
  obtain ⟨hun, o, ho, hdeps⟩ := mem_ready.1 hi
  obtain ⟨hnf, hlt⟩ := getD_true_false hun
  have hln : ∀ (j : Nat) o', ops[j]? = some o' → ∃ f, l[j]? = some (o', f) := fun j o' h => by
    have h1 : (l.map (·.1))[j]? = some o' := by rw [hl]; simpa using h
    rw [List.getElem?_map] at h1
    cases hj : l[j]? with
    | none => rw [hj] at h1; cases h1
    | some p => rw [hj] at h1; obtain ⟨a, b⟩ := p; simp at h1; subst h1; exact ⟨b, rfl⟩
  have hnl : ∀ (j : Nat) o' f, l[j]? = some (o', f) → ops[j]? = some o' := fun j o' f h => by
    have h1 : (l.map (·.1))[j]? = some o' := by rw [List.getElem?_map, h]; rfl
    rw [hl] at h1; simpa using h1
  obtain ⟨f, hf⟩ := hln i o ho
  -- what is not apart from i is ordered
  have hord : ∀ (j : Nat) oj fj, j ≠ i → l[j]? = some (oj, fj) → (listed.getD j false = decide (j < i)) ∨
      (o.apart ops oj = true ∨ oj.apart ops o = true) ∧ (∀ x ∈ f.wr, x ∉ fj.rd ∧ x ∉ fj.wr) ∧ (∀ x ∈ fj.wr, x ∉ f.rd ∧ x ∉ f.wr) := by
    intro j oj fj hji hj
    rcases Nat.lt_or_ge j i with h | h
    · rcases ni.pair j i oj fj o f h hj hf with hb | ⟨h1, h2, h3⟩
      · left; rw [ready_bef hcl ho hdeps hb]; simp [h]
      · right; exact ⟨.inr h1, fun x hx => ⟨h3 x hx, fun hx' => (h2 x hx').2 hx⟩, fun x hx => h2 x hx⟩
    · have h : i < j := by omega
      rcases ni.pair i j o f oj fj h hf hj with hb | ⟨h1, h2, h3⟩
      · left
        have : listed.getD j false = false := by
          cases hx : listed.getD j false with
          | false => rfl
          | true => have := hcl.bef hb hx; rw [hnf] at this; cases this
        rw [this]; simp; omega
      · right; exact ⟨.inl h1, fun x hx => h2 x hx, fun x hx => ⟨h3 x hx, fun hx' => (h2 x hx').2 hx⟩⟩
  have hS' : ∀ j, (listed.setIfInBounds i true).getD j false = if j = i then true else listed.getD j false := fun j => by
    by_cases h : i = j
    · subst h; simp [hlt]
    · rw [getD_set_ne false h, if_neg (fun e => h e.symm)]
  have hlater : ∀ (j : Nat) oj fj, i < j → l[j]? = some (oj, fj) → (listed.getD j false = false) ∨ ((o.apart ops oj = true ∨ oj.apart ops o = true) ∧ (∀ x ∈ f.wr, x ∉ fj.rd ∧ x ∉ fj.wr)) := by
    intro j oj fj hij hj
    rcases hord j oj fj (by omega) hj with h | ⟨h1, h2, _⟩
    · left; rw [h]; simp; omega
    · right; exact ⟨h1, h2⟩
  have hdd : ∀ {x y : Oper}, (x.apart ops y = true ∨ y.apart ops x = true) → ∀ d, x.dst = some d → y.dst ≠ some d := by
    intro x y h d hd he
    rcases h with h | h
    · exact (Oper.apart_spec h).2.1 d hd he
    · exact (Oper.apart_spec h).2.1 d he hd
  have hlook : ∀ {x y : Oper}, (x.apart ops y = true ∨ y.apart ops x = true) → ∀ d, y.dst = some d → d ∉ x.looksAt ops := by
    intro x y h d hd
    rcases h with h | h
    · exact (Oper.apart_spec h).2.2 d hd
    · exact (Oper.apart_spec h).1 d hd
  have heL : ∀ t, t ∈ o.looksAt ops → stE (fun j => listed.getD j false) 0 l e0 t = stE (fun j => decide (j < 0 + i)) 0 l e0 t := fun t ht => by
    refine stE_local l 0 e0 e0 rfl fun j oj fj hj hd => ?_
    simp only [Nat.zero_add]
    by_cases hji : j = i
    · subst hji; rw [hnf]; simp
    · rcases hord j oj fj hji hj with h | ⟨h, _⟩
      · exact h
      · exact absurd ht (hlook h t hd)
  have hhL : ∀ t, t ∈ f.rd ∨ t ∈ f.wr → stH (fun j => listed.getD j false) 0 l h0 t = stH (fun j => decide (j < 0 + i)) 0 l h0 t := fun t ht => by
    refine stH_local l 0 h0 h0 rfl fun j oj fj hj hd => ?_
    simp only [Nat.zero_add]
    by_cases hji : j = i
    · subst hji; rw [hnf]; simp
    · rcases hord j oj fj hji hj with h | ⟨_, _, h⟩
      · exact h
      · rcases ht with ht | ht
        · exact absurd ht (h t hd).1
        · exact absurd ht (h t hd).2
  -- the state behind it
  have hE' : ∀ t, stE (fun j => (listed.setIfInBounds i true).getD j false) 0 l e0 t = if o.dst = some t then some f.val else stE (fun j => listed.getD j false) 0 l e0 t := fun t => by
    by_cases hd : o.dst = some t
    · rw [if_pos hd]
      refine stE_last l 0 i e0 o f hf hd (by simp [hS']) fun j o' f' hij hj hd' => ?_
      simp only [Nat.zero_add, hS', if_neg (show ¬ j = i by omega)]
      rcases hlater j o' f' hij hj with h | ⟨h, _⟩
      · exact h
      · exact absurd hd' (hdd h t hd)
    · rw [if_neg hd]
      refine stE_local l 0 e0 e0 rfl fun j oj fj hj hd' => ?_
      simp only [Nat.zero_add, hS']
      rw [if_neg]
      intro hji; subst hji
      rw [hf] at hj; cases hj; exact hd hd'
  have hH' : stH (fun j => (listed.setIfInBounds i true).getD j false) 0 l h0 = updF (stH (fun j => listed.getD j false) 0 l h0) f.wr f.nw := by
    funext t
    unfold updF
    by_cases hd : t ∈ f.wr
    · rw [if_pos hd]
      refine stH_last l 0 i h0 o f hf hd (by simp [hS']) fun j o' f' hij hj hd' => ?_
      simp only [Nat.zero_add, hS', if_neg (show ¬ j = i by omega)]
      rcases hlater j o' f' hij hj with h | ⟨_, h⟩
      · exact h
      · exact absurd hd' (h t hd).2
    · rw [if_neg hd]
      refine stH_local l 0 h0 h0 rfl fun j oj fj hj hd' => ?_
      simp only [Nat.zero_add, hS']
      rw [if_neg]
      intro hji; subst hji
      rw [hf] at hj; cases hj; exact hd hd'
  obtain ⟨φ, hm, hdom, hrep, henv, hdef, hsize⟩ := hst
  have hfrN : ∀ n ∈ f.N, φ n = none := fun n hn => by
    cases hx : φ n with
    | none => rfl
    | some k =>
      rcases hdom n k hx with h | ⟨j, oj, fj, hSj, hj, hnj⟩
      · rw [hfr i o f hf n hn] at h; cases h
      · have hji : j ≠ i := by intro h; subst h; exact absurd hSj (by simp only [hnf]; simp)
        rcases Nat.lt_or_ge j i with h | h
        · exact absurd hn (ni.names j i oj fj o f h hj hf n hnj)
        · exact absurd hnj (ni.names i j o f oj fj (by omega) hf hj n hn)
  have hdsz : ∀ d, o.dst = some d → d < a.tmps.size := fun d hd => by rw [hsize]; exact hsz i o ho d hd
  -- the step itself
  have main : ∀ (v : Value) (φ' : PM) (w' : World), Moves φ φ' (stH (fun j => listed.getD j false) 0 l h0) (updF (stH (fun j => listed.getD j false) 0 l h0) f.wr f.nw) w w' →
      (∀ i k, φ' i = some k → φ i = some k ∨ i ∈ f.N) → Rep φ' E (updF (stH (fun j => listed.getD j false) 0 l h0) f.wr f.nw) w' →
      RelV φ' (tot E φ' (updF (stH (fun j => listed.getD j false) 0 l h0) f.wr f.nw)) w' f.val v → K (a.put o.dst v) w' := by
    intro v φ' w' m1 d1 r1 v1
    refine hK _ _ ⟨φ', ?_, ?_, ?_, ?_, ?_, ?_⟩
    · rw [hH']; exact hm.trans m1
    · intro i' k h
      rcases d1 i' k h with h | h
      · rcases hdom i' k h with h | ⟨j, oj, fj, hSj, hj, hnj⟩
        · exact .inl h
        · refine .inr ⟨j, oj, fj, ?_, hj, hnj⟩
          show (listed.setIfInBounds i true).getD j false = true
          rw [hS' j]
          split
          · rfl
          · exact hSj
      · exact .inr ⟨i, o, f, (hS' i).trans (by simp), hf, h⟩
    · rw [hH']; exact r1
    · rw [hH']
      intro t x hx
      rw [hE' t] at hx
      rw [put_getD hdsz]
      by_cases hd : o.dst = some t
      · rw [if_pos hd] at hx ⊢; cases hx; exact v1
      · rw [if_neg hd] at hx ⊢; exact m1.keep (henv t x hx)
    · rw [put_defers]; exact hdef
    · rw [put_size]; exact hsize
  have hstep := hc.step 0 i o f hf
  have hrun : OpT P o (stE (fun j => decide (j < 0 + i)) 0 l e0) (stH (fun j => decide (j < 0 + i)) 0 l h0) f → o.wp P a w K Q := by
    intro ht
    refine wp_monoQ ?_ (ht φ E (stH (fun j => listed.getD j false) 0 l h0) w a (fun t h => hhL t (.inl h)) (fun t h => hhL t (.inr h)) ?_ hrep hfrN)
    · rintro a' w' ⟨v, φ', rfl, m1, d1, r1, v1⟩
      exact main v φ' w' m1 d1 r1 v1
    · intro t ht' y hy
      refine henv t y ?_
      rw [heL t (List.mem_append_left _ (List.mem_filterMap.2 ⟨.tmp t, by simpa using ht', rfl⟩))]
      exact hy
  have hyield : ∀ (j t : Nat) (want b : Bool), o.guard = some (j, want) → (ops[j]?).bind (·.dst) = some t → stE (fun j => decide (j < 0 + i)) 0 l e0 t = some (.f (.raw (.bool b))) → Region.wanted o (yielded ops a.tmps) = (b == want) := by
    intro j t want b hg hj he
    rw [← heL t (List.mem_append_right _ (by rw [hg]; simp [hj]))] at he
    have h1 := henv t _ he
    have h2 : a.tmps.getD t undef = .bool b := by
      generalize hz : a.tmps.getD t undef = z at h1
      cases h1 with
      | f h => cases h; rfl
    have h3 : a.tmps[t]? = some (.bool b) := by
      rw [Array.getD_eq_getD_getElem?] at h2
      cases hz : a.tmps[t]? with
      | none => rw [hz] at h2; simp [undef] at h2
      | some z => rw [hz] at h2; simp at h2; rw [h2]
    unfold Region.wanted yielded
    rw [hg]
    simp [hj, h3]
  unfold wpOp
  simp only [ho]
  cases hstep with
  | run hg ht =>
    rw [if_pos (by unfold Region.wanted; rw [hg])]
    exact .inl (hrun ht)
  | runG j t want hg hj he ht =>
    rw [if_pos (by rw [hyield j t want want hg hj he]; simp)]
    exact .inl (hrun ht)
  | skip j t want hg hj v he hv hf' =>
    have hnw : Region.wanted o (yielded ops a.tmps) = false := by
      rw [← heL t (List.mem_append_right _ (by rw [hg]; simp [hj]))] at he
      have h1 := henv t _ he
      have h2 : a.tmps.getD t undef = v := by
        generalize a.tmps.getD t undef = z at h1
        cases h1 with
        | f h => cases h; rfl
      unfold Region.wanted yielded
      rw [hg]
      simp only [hj, Option.bind_some]
      rw [Array.getD_eq_getD_getElem?] at h2
      cases hz : a.tmps[t]? with
      | none => simp
      | some z =>
        rw [hz] at h2; simp at h2; subst h2
        cases z <;> simp at hv ⊢
        exact hv
    rw [if_neg (by rw [hnw]; simp)]
    subst hf'
    have hu : updF (stH (fun j => listed.getD j false) 0 l h0) skipEff.wr skipEff.nw = stH (fun j => listed.getD j false) 0 l h0 := by
      funext t; simp [updF, skipEff]
    refine main undef φ w ?_ (fun _ _ h => .inl h) ?_ ?_
    · rw [hu]; exact Moves.refl _ _ _
    · rw [hu]; exact hrep
    · exact .f (.raw _)

end Go.Proofs.YtjjplipoacljoaaDoor.AI
namespace Go.Proofs.YtjjplipoacljoaaDoor.AI
open Go.RowKit

theorem count_set {l : List Bool} : ∀ {i : Nat}, l[i]? = some false → (l.set i true).countP id = l.countP id + 1 := by
  induction l with
  | nil => intro i h; simp at h
  | cons b l ih =>
    intro i h
    cases i with
    | zero => simp at h; subst h; simp
    | succ i =>
      simp only [List.set_cons_succ, List.countP_cons]
      rw [ih (by simpa using h)]; omega
theorem all_of_count {l : List Bool} (h : l.length ≤ l.countP id) : ∀ (j : Nat), j < l.length → l[j]? = some true := by
  have h1 : l.countP id = l.length := Nat.le_antisymm List.countP_le_length h
  rw [List.countP_eq_length] at h1
  intro j hj
  rw [List.getElem?_eq_getElem hj]
  simpa using h1 _ (List.getElem_mem hj)

theorem all_listed {ops : Array Oper} {l : List (Oper × Eff)} (ni : NIP ops l) {listed : Array Bool} (hs : listed.size = ops.size) (hr : Region.ready .any ops listed = []) :
    ∀ (n j : Nat), j < n → j < ops.size → listed.getD j false = true := by
  intro n
  induction n with
  | zero => intro j h; omega
  | succ n ih =>
    intro j hj hjs
    cases hx : listed.getD j false with
    | true => rfl
    | false =>
      exfalso
      have hmem : j ∈ Region.ready .any ops listed := by
        refine mem_ready.2 ⟨?_, ops[j], Array.getElem?_eq_getElem hjs, fun e he hb => ?_⟩
        · have : j < listed.size := by omega
          simp [this] at hx ⊢; exact hx
        · have h1 := ni.edge j _ (Array.getElem?_eq_getElem hjs) e he hb
          exact ih e.on (by omega) (by omega)
      rw [hr] at hmem; cases hmem

theorem any_sound {P : Program} {ops : Array Oper} {l : List (Oper × Eff)} {e0 e' : EF} {h0 h' : HF} {φ0 : PM} {E : Nat → Prop} {w0 : World} {a0 : Act}
    (hl : l.map (·.1) = ops.toList) (hc : Chain P ops l e0 h0 e' h') (ni : NIP ops l) (hfr : ∀ (j : Nat) o f, l[j]? = some (o, f) → ∀ n ∈ f.N, φ0 n = none)
    (hsz : ∀ (j : Nat) o, ops[j]? = some o → ∀ d, o.dst = some d → d < a0.tmps.size) {Q : Exit → Act → World → Prop}
    (hQ : ∀ a w, StP φ0 E e0 h0 w0 a0 l (fun _ => true) a w → Q .normal a w) :
    ∀ (fuel : Nat) (listed : Array Bool) (a : Act) (w : World), listed.size = ops.size → Closed ops listed → ops.size ≤ fuel + listed.toList.countP id →
      StP φ0 E e0 h0 w0 a0 l (fun j => listed.getD j false) a w → wpAny P .any ops Q fuel listed a w := by
  have hlen : l.length = ops.size := by have := congrArg List.length hl; simpa using this
  have fin : ∀ (listed : Array Bool) (a : Act) (w : World), (∀ j, j < ops.size → listed.getD j false = true) → StP φ0 E e0 h0 w0 a0 l (fun j => listed.getD j false) a w → Q .normal a w := by
    intro listed a w hall hst
    refine hQ a w ?_
    have h1 := hc.final 0 (fun j => listed.getD j false) (fun j hj => by simp only [Nat.zero_add]; exact hall j (by omega))
    have h2 := hc.final 0 (fun _ => true) (fun _ _ => rfl)
    unfold StP at hst ⊢
    rw [h1.1, h1.2] at hst
    rw [h2.1, h2.2]
    obtain ⟨φ, m, d, r⟩ := hst
    refine ⟨φ, m, fun i k h => ?_, r⟩
    rcases d i k h with h | ⟨j, o, f, _, hj, hn⟩
    · exact .inl h
    · exact .inr ⟨j, o, f, rfl, hj, hn⟩
  intro fuel
  induction fuel with
  | zero =>
    intro listed a w hs hcl hcnt hst
    have hall : ∀ j, j < ops.size → listed.getD j false = true := fun j hj => by
      have := all_of_count (l := listed.toList) (by simp only [Array.length_toList]; omega) j (by simp only [Array.length_toList]; omega)
      rw [Array.getElem?_toList] at this
      rw [Array.getD_eq_getD_getElem?, this]; rfl
    refine ⟨?_, fin listed a w hall hst⟩
    cases hr : Region.ready .any ops listed with
    | nil => rfl
    | cons i r =>
      have hi : i ∈ Region.ready .any ops listed := by rw [hr]; simp
      obtain ⟨hun, o, ho, _⟩ := mem_ready.1 hi
      have hnf := (getD_true_false hun).1
      rw [hall i (Array.getElem?_eq_some_iff.1 ho).1] at hnf
      cases hnf
  | succ fuel ih =>
    intro listed a w hs hcl hcnt hst
    refine ⟨fun hr => fin listed a w (fun j hj => all_listed ni hs hr (j + 1) j (by omega) hj) hst, fun i hi => ?_⟩
    obtain ⟨hun, o, ho, hdeps⟩ := mem_ready.1 hi
    obtain ⟨hnf, hlt⟩ := getD_true_false hun
    refine one_step hl hc ni hfr hsz hcl hi (fun a' w' h => ih _ a' w' ?_ ?_ ?_ h) hst
    · simpa using hs
    · intro j oj hoj hj e he hb
      by_cases hji : i = j
      · subst hji
        rw [ho] at hoj; cases hoj
        exact getD_set_true (hdeps e he hb)
      · rw [getD_set_ne false hji] at hj
        exact getD_set_true (hcl j oj hoj hj e he hb)
    · have h1 : listed.toList[i]? = some false := by
        rw [Array.getElem?_toList, Array.getElem?_eq_getElem hlt]
        simp [hlt] at hnf
        rw [hnf]
      rw [Array.toList_setIfInBounds, count_set h1]
      omega

/-- What is known behind a region. -/
def After (φ0 : PM) (E : Nat → Prop) (e' : EF) (h0 h' : HF) (N : List Nat) (w0 : World) (a0 : Act) (a : Act) (w : World) : Prop :=
  ∃ φ, Moves φ0 φ h0 h' w0 w ∧ (∀ i k, φ i = some k → φ0 i = some k ∨ i ∈ N) ∧ Rep φ E h' w ∧ EnvOK φ (tot E φ h') w e' a ∧ a.defers = a0.defers ∧ a.tmps.size = a0.tmps.size

theorem Moves.drew {φ : PM} {h : HF} (w : World) : Moves φ φ h h w { w with drawn := w.drawn + 1 } :=
  ⟨fun _ _ h => h, ⟨rfl, rfl, rfl, Nat.le_refl _, fun _ _ _ => rfl, fun _ _ => rfl⟩, fun _ _ h => h⟩
theorem Rep.moved {φ : PM} {E : Nat → Prop} {h : HF} {w w' : World} (r : Rep φ E h w) (m : Moves φ φ h h w w') (hk : ∀ k, own φ h k → w'.heap[k]? = w.heap[k]?) : Rep φ E h w' :=
  ⟨r.inj, fun i b hb => by
    obtain ⟨k, h1, h2, o, h3, h4⟩ := r.at_ i b hb
    exact ⟨k, h1, h2, o, by rw [hk k ⟨i, b, hb, h1⟩]; exact h3, h4.mono fun _ _ h => m.keep h⟩, fun k hk => Nat.lt_of_lt_of_le (r.el k hk) m.ext.size,
    fun g cells hg => m.keepF (r.gl g cells hg)⟩

theorem region_rule {P : Program} {ops : Array Oper} {l : List (Oper × Eff)} {e0 e' : EF} {h0 h' : HF} {φ0 : PM} {E : Nat → Prop} {w0 : World} {a0 : Act} {id : Nat} {draw : Bool}
    (hm : P.follows .mixedOrders = true) (hl : l.map (·.1) = ops.toList) (hc : Chain P ops l e0 h0 e' h') (ni : NIP ops l) (hfr : ∀ n ∈ l.flatMap (fun p => p.2.N), φ0 n = none)
    (hsz : ∀ (j : Nat) o, ops[j]? = some o → ∀ d, o.dst = some d → d < a0.tmps.size) (hrep : Rep φ0 E h0 w0) (henv : EnvOK φ0 (tot E φ0 h0) w0 e0 a0) {Q : Exit → Act → World → Prop}
    (hQ : ∀ a w, After φ0 E e' h0 h' (l.flatMap (fun p => p.2.N)) w0 a0 a w → Q .normal a w) : (Code.region id ops draw).wp P Q a0 w0 := by
  have hfr' : ∀ (j : Nat) o f, l[j]? = some (o, f) → ∀ n ∈ f.N, φ0 n = none := fun j o f hj n hn => hfr n (List.mem_flatMap.2 ⟨(o, f), List.mem_of_getElem? hj, hn⟩)
  have fin : ∀ a w, StP φ0 E e0 h0 w0 a0 l (fun _ => true) a w → Q .normal a w := by
    rintro a w ⟨φ, m, d, r, en, df, sz⟩
    have h2 := hc.final 0 (fun _ => true) (fun _ _ => rfl)
    rw [h2.2] at m r en
    rw [h2.1] at en
    refine hQ a w ⟨φ, m, fun i k h => ?_, r, en, df, sz⟩
    rcases d i k h with h | ⟨j, o, f, _, hj, hn⟩
    · exact .inl h
    · exact .inr (List.mem_flatMap.2 ⟨(o, f), List.mem_of_getElem? hj, hn⟩)
  have st0 : ∀ (w : World), Moves φ0 φ0 h0 h0 w0 w → Rep φ0 E h0 w → StP φ0 E e0 h0 w0 a0 l (fun j => (Array.replicate ops.size false).getD j false) a0 w := by
    intro w m r
    have e1 : (fun j => (Array.replicate ops.size false).getD j false) = fun _ => false := by
      funext j
      rw [Array.getD_eq_getD_getElem?, Array.getElem?_replicate]
      split <;> rfl
    rw [e1]
    have e2 : stE (fun _ => false) 0 l e0 = e0 := by funext t; rw [stE_none]; intros; rfl
    have e3 : stH (fun _ => false) 0 l h0 = h0 := by funext t; rw [stH_none]; intros; rfl
    refine ⟨φ0, by rw [e3]; exact m, fun _ _ h => .inl h, by rw [e3]; exact r, ?_, rfl, rfl⟩
    rw [e2, e3]
    exact fun t x hx => m.keep (henv t x hx)
  have cl0 : Closed ops (Array.replicate ops.size false) := by
    intro j o ho hj
    rw [Array.getD_eq_getD_getElem?, Array.getElem?_replicate] at hj
    split at hj <;> simp at hj
  cases draw with
  | true =>
    refine wp_region_any hm ?_
    exact any_sound hl hc ni hfr' hsz fin ops.size _ a0 _ (by simp) cl0 (by omega) (st0 _ (Moves.drew w0) (hrep.moved (Moves.drew w0) fun _ _ => rfl))
  | false =>
    have hany := any_sound (E := E) (w0 := w0) hl hc ni hfr' hsz fin ops.size _ a0 w0 (by simp) cl0 (by omega) (st0 _ (Moves.refl _ _ _) hrep)
    refine wp_region ?_
    -- the order of the text is one of the orders
    have key : ∀ (m k : Nat) (listed : Array Bool) (a : Act) (w : World), k + m = ops.size → listed.size = ops.size → (∀ j, j < k → listed.getD j false = true) → (∀ j, k ≤ j → j < ops.size → listed.getD j true = false) →
        wpAny P .any ops Q m listed a w → wpOps P ops Q (List.range' k m) a w := by
      intro m
      induction m with
      | zero => intro k listed a w hk hs h1 h2 h; simpa [wpOps] using h.2
      | succ m ih =>
        intro k listed a w hk hs h1 h2 h
        rw [List.range'_succ, wpOps_cons]
        have hkr : k ∈ Region.ready .any ops listed := by
          refine mem_ready.2 ⟨h2 k (Nat.le_refl _) (by omega), ops[k]'(by omega), Array.getElem?_eq_getElem (by omega), fun e he hb => ?_⟩
          exact h1 _ (ni.edge k _ (Array.getElem?_eq_getElem (by omega)) e he hb)
        refine wpOp_mono (fun a' w' h' => ih (k + 1) (listed.setIfInBounds k true) a' w' (by omega) (by simpa using hs) ?_ ?_ h') (h.2 k hkr)
        · intro j hj
          by_cases hjk : k = j
          · subst hjk; simp [show k < listed.size by omega]
          · rw [getD_set_ne false hjk]; exact h1 j (by omega)
        · intro j hj hj2
          rw [getD_set_ne true (by omega)]; exact h2 j (by omega) hj2
    have := key ops.size 0 (Array.replicate ops.size false) a0 w0 (by omega) (by simp) (by intro j hj; omega) (by
      intro j _ hj; rw [Array.getD_eq_getD_getElem?, Array.getElem?_replicate, if_pos hj]; rfl) hany
    rwa [List.range_eq_range']

end Go.Proofs.YtjjplipoacljoaaDoor.AI
namespace Go.Proofs.YtjjplipoacljoaaDoor.AI

inductive PT (α : Type) where
  | leaf
  | node (v : Option α) (l r : PT α)

namespace PT
variable {α : Type}
def get : PT α → Nat → Option α
  | leaf, _ => none
  | node v l r, n => match n with
    | 0 => v
    | m + 1 => if Nat.beq (m % 2) 0 then get l (m / 2) else get r (m / 2)
def setF : Nat → PT α → Nat → Option α → PT α
  | 0, t, _, _ => t
  | k + 1, t, n, x => match t with
    | leaf => (match n with
      | 0 => node x leaf leaf
      | m + 1 => if Nat.beq (m % 2) 0 then node none (setF k leaf (m / 2) x) leaf else node none leaf (setF k leaf (m / 2) x))
    | node v l r => (match n with
      | 0 => node x l r
      | m + 1 => if Nat.beq (m % 2) 0 then node v (setF k l (m / 2) x) r else node v l (setF k r (m / 2) x))
def set (t : PT α) (n : Nat) (x : Option α) : PT α := setF (n + 1) t n x

theorem get_leaf (n : Nat) : (leaf : PT α).get n = none := rfl
theorem get_setF : ∀ (k : Nat) (t : PT α) (n : Nat) (x : Option α), n < k → ∀ i, (setF k t n x).get i = if i = n then x else t.get i
  | 0, _, _, _, h, _ => absurd h (Nat.not_lt_zero _)
  | k + 1, t, n, x, h, i => by
    cases n with
    | zero =>
      cases t <;> cases i <;> simp [setF, get]
    | succ m =>
      have hm : m / 2 < k := by have := Nat.div_le_self m 2; omega
      cases t with
      | leaf =>
        simp only [setF]
        cases hb : Nat.beq (m % 2) 0 with
        | true =>
          have hb' : m % 2 = 0 := Nat.eq_of_beq_eq_true hb
          simp only [if_true]
          cases i with
          | zero => simp [get]
          | succ j =>
            simp only [get]
            cases hj : Nat.beq (j % 2) 0 with
            | true =>
              have hj' : j % 2 = 0 := Nat.eq_of_beq_eq_true hj
              simp only [if_true]
              rw [get_setF k _ _ _ hm]
              by_cases he : j / 2 = m / 2
              · rw [if_pos he, if_pos (by omega)]
              · rw [if_neg he, if_neg (by omega)]; rfl
            | false =>
              have hj' : ¬ j % 2 = 0 := Nat.ne_of_beq_eq_false hj
              simp only [Bool.false_eq_true, if_false]
              rw [if_neg (by omega)]
        | false =>
          have hb' : ¬ m % 2 = 0 := Nat.ne_of_beq_eq_false hb
          simp only [Bool.false_eq_true, if_false]
          cases i with
          | zero => simp [get]
          | succ j =>
            simp only [get]
            cases hj : Nat.beq (j % 2) 0 with
            | true =>
              have hj' : j % 2 = 0 := Nat.eq_of_beq_eq_true hj
              simp only [if_true]
              rw [if_neg (by omega)]
            | false =>
              have hj' : ¬ j % 2 = 0 := Nat.ne_of_beq_eq_false hj
              simp only [Bool.false_eq_true, if_false]
              rw [get_setF k _ _ _ hm]
              by_cases he : j / 2 = m / 2
              · rw [if_pos he, if_pos (by omega)]
              · rw [if_neg he, if_neg (by omega)]; rfl
      | node v l r =>
        simp only [setF]
        cases hb : Nat.beq (m % 2) 0 with
        | true =>
          have hb' : m % 2 = 0 := Nat.eq_of_beq_eq_true hb
          simp only [if_true]
          cases i with
          | zero => simp [get]
          | succ j =>
            simp only [get]
            cases hj : Nat.beq (j % 2) 0 with
            | true =>
              have hj' : j % 2 = 0 := Nat.eq_of_beq_eq_true hj
              simp only [if_true]
              rw [get_setF k _ _ _ hm]
              by_cases he : j / 2 = m / 2
              · rw [if_pos he, if_pos (by omega)]
              · rw [if_neg he, if_neg (by omega)]
            | false =>
              have hj' : ¬ j % 2 = 0 := Nat.ne_of_beq_eq_false hj
              simp only [Bool.false_eq_true, if_false]
              rw [if_neg (by omega)]
        | false =>
          have hb' : ¬ m % 2 = 0 := Nat.ne_of_beq_eq_false hb
          simp only [Bool.false_eq_true, if_false]
          cases i with
          | zero => simp [get]
          | succ j =>
            simp only [get]
            cases hj : Nat.beq (j % 2) 0 with
            | true =>
              have hj' : j % 2 = 0 := Nat.eq_of_beq_eq_true hj
              simp only [if_true]
              rw [if_neg (by omega)]
            | false =>
              have hj' : ¬ j % 2 = 0 := Nat.ne_of_beq_eq_false hj
              simp only [Bool.false_eq_true, if_false]
              rw [get_setF k _ _ _ hm]
              by_cases he : j / 2 = m / 2
              · rw [if_pos he, if_pos (by omega)]
              · rw [if_neg he, if_neg (by omega)]
theorem get_set (t : PT α) (n : Nat) (x : Option α) (i : Nat) : (t.set n x).get i = if i = n then x else t.get i := get_setF (n + 1) t n x (by omega) i

/-- entries of the first where the second has one -/
def mask {β : Type} : PT α → PT β → PT α
  | leaf, _ => leaf
  | node _ _ _, leaf => leaf
  | node v l r, node u l' r' => node (match u with | some _ => v | none => none) (mask l l') (mask r r')
theorem get_mask {β : Type} : ∀ (t : PT α) (u : PT β) (i : Nat) (x : α), (t.mask u).get i = some x → t.get i = some x
  | leaf, _, i, x, h => by simp [mask, get] at h
  | node _ _ _, leaf, i, x, h => by simp [mask, get] at h
  | node v l r, node u l' r', 0, x, h => by
    simp only [mask, get] at h ⊢
    cases u with
    | none => simp at h
    | some _ => exact h
  | node v l r, node u l' r', j + 1, x, h => by
    simp only [mask, get] at h ⊢
    split at h
    · rename_i hj; rw [if_pos hj]; exact get_mask l l' _ x h
    · rename_i hj; rw [if_neg hj]; exact get_mask r r' _ x h

/-- a node, or nothing where it holds nothing -/
def mk : Option α → PT α → PT α → PT α
  | none, leaf, leaf => leaf
  | v, l, r => node v l r
theorem get_mk (v : Option α) (l r : PT α) (i : Nat) : (mk v l r).get i = (node v l r).get i := by
  cases v <;> cases l <;> cases r <;> first | rfl | (cases i <;> simp [mk, get])
/-- entries whose number (a * place + b) is in the set m -/
def only (m : Nat) : Nat → Nat → PT α → PT α
  | _, _, leaf => leaf
  | a, b, node v l r => mk (if Nat.testBit m b then v else none) (only m (2 * a) (a + b) l) (only m (2 * a) (2 * a + b) r)
theorem get_only (m : Nat) : ∀ (t : PT α) (a b i : Nat), (only m a b t).get i = if Nat.testBit m (a * i + b) then t.get i else none
  | leaf, _, _, _ => by simp [only, get_mk, get]
  | node v l r, a, b, 0 => by simp [only, get_mk, get]
  | node v l r, a, b, j + 1 => by
    simp only [only, get_mk, get]
    cases hj : Nat.beq (j % 2) 0 with
    | true =>
      have hj' : j % 2 = 0 := Nat.eq_of_beq_eq_true hj
      simp only [if_true]
      rw [get_only m l]
      have : 2 * a * (j / 2) + (a + b) = a * (j + 1) + b := by
        have e : j = 2 * (j / 2) := by omega
        calc 2 * a * (j / 2) + (a + b) = a * (2 * (j / 2)) + a + b := by rw [Nat.mul_comm 2 a, Nat.mul_assoc]; omega
          _ = a * (j + 1) + b := by rw [← e, Nat.mul_add]; omega
      rw [this]
    | false =>
      have hj' : ¬ j % 2 = 0 := Nat.ne_of_beq_eq_false hj
      simp only [Bool.false_eq_true, if_false]
      rw [get_only m r]
      have : 2 * a * (j / 2) + (2 * a + b) = a * (j + 1) + b := by
        have e : j = 2 * (j / 2) + 1 := by omega
        have h2 : a * (j + 1) = a * (2 * (j / 2)) + 2 * a := by
          calc a * (j + 1) = a * (2 * (j / 2) + 2) := by rw [show j + 1 = 2 * (j / 2) + 2 from by omega]
            _ = a * (2 * (j / 2)) + 2 * a := by rw [Nat.mul_add]; omega
        have h3 : 2 * a * (j / 2) = a * (2 * (j / 2)) := by rw [Nat.mul_comm 2 a, Nat.mul_assoc]
        omega
      rw [this]

/-- entries whose number is not in the set -/
def exc (m : Nat) : Nat → Nat → PT α → PT α
  | _, _, leaf => leaf
  | a, b, node v l r => mk (if Nat.testBit m b then none else v) (exc m (2 * a) (a + b) l) (exc m (2 * a) (2 * a + b) r)
theorem get_exc (m : Nat) : ∀ (t : PT α) (a b i : Nat), (exc m a b t).get i = if Nat.testBit m (a * i + b) then none else t.get i
  | leaf, _, _, _ => by simp [exc, get_mk, get]
  | node v l r, a, b, 0 => by simp [exc, get_mk, get]
  | node v l r, a, b, j + 1 => by
    simp only [exc, get_mk, get]
    cases hj : Nat.beq (j % 2) 0 with
    | true =>
      have hj' : j % 2 = 0 := Nat.eq_of_beq_eq_true hj
      simp only [if_true]
      rw [get_exc m l]
      have : 2 * a * (j / 2) + (a + b) = a * (j + 1) + b := by
        have e : j = 2 * (j / 2) := by omega
        calc 2 * a * (j / 2) + (a + b) = a * (2 * (j / 2)) + a + b := by rw [Nat.mul_comm 2 a, Nat.mul_assoc]; omega
          _ = a * (j + 1) + b := by rw [← e, Nat.mul_add]; omega
      rw [this]
    | false =>
      have hj' : ¬ j % 2 = 0 := Nat.ne_of_beq_eq_false hj
      simp only [Bool.false_eq_true, if_false]
      rw [get_exc m r]
      have : 2 * a * (j / 2) + (2 * a + b) = a * (j + 1) + b := by
        have e : j = 2 * (j / 2) + 1 := by omega
        have h2 : a * (j + 1) = a * (2 * (j / 2)) + 2 * a := by
          calc a * (j + 1) = a * (2 * (j / 2) + 2) := by rw [show j + 1 = 2 * (j / 2) + 2 from by omega]
            _ = a * (2 * (j / 2)) + 2 * a := by rw [Nat.mul_add]; omega
        have h3 : 2 * a * (j / 2) = a * (2 * (j / 2)) := by rw [Nat.mul_comm 2 a, Nat.mul_assoc]
        omega
      rw [this]

/-- the second where the number is in the set m, the first elsewhere -/
def merge (m : Nat) : Nat → Nat → PT α → PT α → PT α
  | a, b, leaf, t => only m a b t
  | a, b, node v l r, leaf => exc m a b (node v l r)
  | a, b, node v l r, node v' l' r' => mk (if Nat.testBit m b then v' else v) (merge m (2 * a) (a + b) l l') (merge m (2 * a) (2 * a + b) r r')
theorem get_merge (m : Nat) : ∀ (t u : PT α) (a b i : Nat), (merge m a b t u).get i = if Nat.testBit m (a * i + b) then u.get i else t.get i
  | leaf, u, a, b, i => by simp [merge, get_only, get_leaf]
  | node v l r, leaf, a, b, i => by simp only [merge, get_exc, get_leaf]
  | node v l r, node v' l' r', a, b, 0 => by simp [merge, get_mk, get]
  | node v l r, node v' l' r', a, b, j + 1 => by
    simp only [merge, get_mk, get]
    cases hj : Nat.beq (j % 2) 0 with
    | true =>
      have hj' : j % 2 = 0 := Nat.eq_of_beq_eq_true hj
      simp only [if_true]
      rw [get_merge m l l']
      have : 2 * a * (j / 2) + (a + b) = a * (j + 1) + b := by
        have e : j = 2 * (j / 2) := by omega
        calc 2 * a * (j / 2) + (a + b) = a * (2 * (j / 2)) + a + b := by rw [Nat.mul_comm 2 a, Nat.mul_assoc]; omega
          _ = a * (j + 1) + b := by rw [← e, Nat.mul_add]; omega
      rw [this]
    | false =>
      have hj' : ¬ j % 2 = 0 := Nat.ne_of_beq_eq_false hj
      simp only [Bool.false_eq_true, if_false]
      rw [get_merge m r r']
      have : 2 * a * (j / 2) + (2 * a + b) = a * (j + 1) + b := by
        have e : j = 2 * (j / 2) + 1 := by omega
        have h2 : a * (j + 1) = a * (2 * (j / 2)) + 2 * a := by
          calc a * (j + 1) = a * (2 * (j / 2) + 2) := by rw [show j + 1 = 2 * (j / 2) + 2 from by omega]
            _ = a * (2 * (j / 2)) + 2 * a := by rw [Nat.mul_add]; omega
        have h3 : 2 * a * (j / 2) = a * (2 * (j / 2)) := by rw [Nat.mul_comm 2 a, Nat.mul_assoc]
        omega
      rw [this]


/-- all entries, with their numbers -/
def all (p : Nat → α → Bool) : Nat → Nat → PT α → Bool
  | _, _, leaf => true
  | a, b, node v l r => (match v with | some x => p b x | none => true) && all p (2 * a) (a + b) l && all p (2 * a) (2 * a + b) r
theorem get_all (p : Nat → α → Bool) : ∀ (t : PT α) (a b i : Nat) (x : α), all p a b t = true → t.get i = some x → p (a * i + b) x = true
  | leaf, _, _, _, _, _, h => by simp [get] at h
  | node v l r, a, b, 0, x, h, hx => by
    simp only [get] at hx; subst hx
    simp only [all, Bool.and_eq_true] at h
    rw [Nat.mul_zero, Nat.zero_add]; exact h.1.1
  | node v l r, a, b, j + 1, x, h, hx => by
    simp only [all, Bool.and_eq_true] at h
    simp only [get] at hx
    cases hj : Nat.beq (j % 2) 0 with
    | true =>
      have hj' : j % 2 = 0 := Nat.eq_of_beq_eq_true hj
      simp only [hj, if_true] at hx
      have key := get_all p l _ _ _ x h.1.2 hx
      have : 2 * a * (j / 2) + (a + b) = a * (j + 1) + b := by
        have e : j = 2 * (j / 2) := by omega
        calc 2 * a * (j / 2) + (a + b) = a * (2 * (j / 2)) + a + b := by rw [Nat.mul_comm 2 a, Nat.mul_assoc]; omega
          _ = a * (j + 1) + b := by rw [← e, Nat.mul_add]; omega
      rw [this] at key; exact key
    | false =>
      have hj' : ¬ j % 2 = 0 := Nat.ne_of_beq_eq_false hj
      simp only [hj, Bool.false_eq_true, if_false] at hx
      have key := get_all p r _ _ _ x h.2 hx
      have : 2 * a * (j / 2) + (2 * a + b) = a * (j + 1) + b := by
        have e : j = 2 * (j / 2) + 1 := by omega
        have h2 : a * (j + 1) = a * (2 * (j / 2)) + 2 * a := by
          calc a * (j + 1) = a * (2 * (j / 2) + 2) := by rw [show j + 1 = 2 * (j / 2) + 2 from by omega]
            _ = a * (2 * (j / 2)) + 2 * a := by rw [Nat.mul_add]; omega
        have h3 : 2 * a * (j / 2) = a * (2 * (j / 2)) := by rw [Nat.mul_comm 2 a, Nat.mul_assoc]
        omega
      rw [this] at key; exact key


/-- the numbers of all entries, as bits -/
def dom : Nat → Nat → PT α → Nat → Nat
  | _, _, leaf, acc => acc
  | a, b, node v l r, acc => dom (2 * a) (a + b) l (dom (2 * a) (2 * a + b) r (match v with | some _ => acc ||| (1 <<< b) | none => acc))
theorem dom_acc : ∀ (t : PT α) (a b acc i : Nat), Nat.testBit acc i = true → Nat.testBit (dom a b t acc) i = true
  | leaf, _, _, _, _, h => h
  | node v l r, a, b, acc, i, h => by
    simp only [dom]
    refine dom_acc l _ _ _ i (dom_acc r _ _ _ i ?_)
    cases v with
    | none => exact h
    | some x => simp [Nat.testBit_or, h]
theorem dom_get : ∀ (t : PT α) (a b acc i : Nat) (x : α), t.get i = some x → Nat.testBit (dom a b t acc) (a * i + b) = true
  | leaf, _, _, _, _, _, h => by simp [get] at h
  | node v l r, a, b, acc, 0, x, hx => by
    simp only [get] at hx; subst hx
    simp only [dom, Nat.mul_zero, Nat.zero_add]
    refine dom_acc l _ _ _ b (dom_acc r _ _ _ b ?_)
    rw [Nat.testBit_or, Nat.one_shiftLeft, Nat.testBit_two_pow]; simp
  | node v l r, a, b, acc, j + 1, x, hx => by
    simp only [dom]
    simp only [get] at hx
    cases hj : Nat.beq (j % 2) 0 with
    | true =>
      have hj' : j % 2 = 0 := Nat.eq_of_beq_eq_true hj
      simp only [hj, if_true] at hx
      have key := dom_get l (2 * a) (a + b) (dom (2 * a) (2 * a + b) r (match v with | some _ => acc ||| (1 <<< b) | none => acc)) (j / 2) x hx
      have : 2 * a * (j / 2) + (a + b) = a * (j + 1) + b := by
        have e : j = 2 * (j / 2) := by omega
        calc 2 * a * (j / 2) + (a + b) = a * (2 * (j / 2)) + a + b := by rw [Nat.mul_comm 2 a, Nat.mul_assoc]; omega
          _ = a * (j + 1) + b := by rw [← e, Nat.mul_add]; omega
      rw [this] at key; exact key
    | false =>
      have hj' : ¬ j % 2 = 0 := Nat.ne_of_beq_eq_false hj
      simp only [hj, Bool.false_eq_true, if_false] at hx
      have key := dom_get r (2 * a) (2 * a + b) (match v with | some _ => acc ||| (1 <<< b) | none => acc) (j / 2) x hx
      have : 2 * a * (j / 2) + (2 * a + b) = a * (j + 1) + b := by
        have h2 : a * (j + 1) = a * (2 * (j / 2)) + 2 * a := by
          calc a * (j + 1) = a * (2 * (j / 2) + 2) := by rw [show j + 1 = 2 * (j / 2) + 2 from by omega]
            _ = a * (2 * (j / 2)) + 2 * a := by rw [Nat.mul_add]; omega
        have h3 : 2 * a * (j / 2) = a * (2 * (j / 2)) := by rw [Nat.mul_comm 2 a, Nat.mul_assoc]
        omega
      rw [this] at key
      exact dom_acc l _ _ _ _ key
def emp : PT α := leaf
end PT
end Go.Proofs.YtjjplipoacljoaaDoor.AI
namespace Go.Proofs.YtjjplipoacljoaaDoor.AI
open Go.RowKit

abbrev Env := PT AV
abbrev Heap := PT Blk
abbrev NW := List (Nat × Blk)
def Env.put (e : Env) : Option Nat → AV → Env
  | none, _ => e
  | some d, x => e.set d (some x)
def nwGet : NW → HF
  | [], _ => none
  | (s, x) :: r, t => if Nat.beq s t then some x else nwGet r t
def Heap.upd (h : Heap) (wr : List Nat) (nw : NW) : Heap := match wr with
  | [] => h
  | i :: r => Heap.upd (h.set i (nwGet nw i)) r nw

theorem putE_get (e : Env) (d : Option Nat) (x : AV) : putE e.get d x = (e.put d x).get := by
  funext t
  cases d with
  | none => simp [putE, Env.put]
  | some d =>
    simp only [putE, Env.put, PT.get_set, Option.some.injEq]
    by_cases h : d = t
    · simp [h]
    · rw [if_neg h, if_neg (fun e => h e.symm)]
theorem updF_get (wr : List Nat) (nw : NW) : ∀ h : Heap, updF h.get wr (nwGet nw) = (h.upd wr nw).get := by
  induction wr with
  | nil => intro h; funext t; simp [updF, Heap.upd]
  | cons i r ih =>
    intro h
    rw [Heap.upd, ← ih]
    funext t
    unfold updF
    rw [PT.get_set]
    by_cases h1 : t ∈ r
    · simp [h1]
    · by_cases h2 : t = i
      · subst h2; simp
      · simp [h1, h2]

/-! ### what must come before, as bits -/
def befStep (acc : List Nat) (s : Nat) (e : Edge) : Nat := if Region.binds .any e then (s ||| 2 ^ e.on) ||| acc.getD e.on 0 else s
def befsGo : List Oper → List Nat → List Nat
  | [], acc => acc
  | o :: r, acc => befsGo r (acc ++ [o.after.toList.foldl (befStep acc) 0])

theorem befFold_ok {ops : Array Oper} {o : Oper} {k : Nat} {acc : List Nat} (ho : ops[k]? = some o) (ha : ∀ (j : Nat) B, acc[j]? = some B → ∀ i, B.testBit i = true → Bef ops j i) :
    ∀ (es : List Edge) (s : Nat), (∀ e ∈ es, e ∈ o.after) → (∀ i, s.testBit i = true → Bef ops k i) → ∀ i, (es.foldl (befStep acc) s).testBit i = true → Bef ops k i
  | [], s, _, hs, i, hi => hs i hi
  | e :: r, s, he, hs, i, hi => by
    refine befFold_ok ho ha r (befStep acc s e) (fun e' h' => he e' (List.mem_cons_of_mem _ h')) (fun i hi => ?_) i hi
    unfold befStep at hi
    split at hi
    · rename_i hb
      rw [Nat.testBit_or, Nat.testBit_or, Bool.or_eq_true, Bool.or_eq_true] at hi
      rcases hi with (hi | hi) | hi
      · exact hs i hi
      · rw [Nat.testBit_two_pow] at hi
        have : e.on = i := by simpa using hi
        subst this
        exact .one ho (he e (List.mem_cons_self ..)) hb
      · refine .more ho (he e (List.mem_cons_self ..)) hb ?_
        rw [List.getD_eq_getElem?_getD] at hi
        cases hx : acc[e.on]? with
        | none => rw [hx] at hi; simp at hi
        | some C => rw [hx] at hi; exact ha _ C hx i hi
    · exact hs i hi

theorem befsGo_ok {ops : Array Oper} : ∀ (rest : List Oper) (acc : List Nat), (∀ (j : Nat), ∀ o, rest[j]? = some o → ops[acc.length + j]? = some o) →
    (∀ (j : Nat) B, acc[j]? = some B → ∀ i, B.testBit i = true → Bef ops j i) → ∀ (j : Nat) B, (befsGo rest acc)[j]? = some B → ∀ i, B.testBit i = true → Bef ops j i
  | [], acc, _, ha => ha
  | o :: r, acc, ho, ha => by
    refine befsGo_ok r _ (fun j o' hj => ?_) ?_
    · rw [List.length_append, List.length_singleton, show acc.length + 1 + j = acc.length + (j + 1) from by omega]
      exact ho (j + 1) o' (by simpa using hj)
    · intro j B hj i hi
      rcases Nat.lt_or_ge j acc.length with h | h
      · rw [List.getElem?_append_left h] at hj
        exact ha j B hj i hi
      · rw [List.getElem?_append_right h] at hj
        have hj0 : j - acc.length = 0 := by
          rcases Nat.eq_zero_or_pos (j - acc.length) with h0 | h0
          · exact h0
          · rw [List.getElem?_eq_none (by simp; omega)] at hj; cases hj
        have hjl : j = acc.length := by omega
        subst hjl
        simp at hj
        subst hj
        have hoo : ops[acc.length]? = some o := by simpa using ho 0 o rfl
        rw [← Array.foldl_toList] at hi
        exact befFold_ok hoo ha _ 0 (fun e he => by simpa using he) (fun i hi => by simp at hi) i hi

end Go.Proofs.YtjjplipoacljoaaDoor.AI
namespace Go.Proofs.YtjjplipoacljoaaDoor.AI
open Go.RowKit

/-- A slim operation: what the types say is resolved. -/
inductive SOp where
  | mv (x : Operand)
  | pick (c a b : Operand)
  | alloc (ty : TypeId) (z : List Value)
  | box (ty : TypeId) (x : Operand)
  | build (z : List Value) (parts : List (Nat × Nat × Operand))
  | bsl (ty : TypeId) (sz len : Nat) (z : List Value) (parts : List (Nat × Nat × Operand))
  | load (sz : Nat) (ag : Bool) (x : Operand)
  | store (sz : Nat) (x v : Operand)
  | nilc (x : Operand)
  | bin (op : BinOp) (x y : Operand)
  | eqs (neg : Bool) (ds : List TypeDesc) (x y : Operand)
  | isnil (neg : Bool) (x : Operand)
  | eqb (neg : Bool) (x y : Operand)
  | not (x : Operand)
  | conv (k : IntKind) (x : Operand)
  | mksl (ty : TypeId) (sz bytes : Nat) (z : List Value) (l c : Operand)
  | slc (sz : Nat) (x : Operand) (lo hi mx : Option Operand)
  | fad (off : Nat) (x : Operand)
  | fld (off sz : Nat) (ag : Bool) (x : Operand)
  | iad (sz : Nat) (x i : Operand)
  | iada (n sz : Nat) (x i : Operand)
  | idx (n sz : Nat) (ag : Bool) (x i : Operand)
  | ext (x : Operand) (i : Nat)
  | len (x : Operand)
  | lens (x : Operand)
  | lenm (x : Operand)
  | max (x y : Operand)
  | app (ty : TypeId) (sz bytes : Nat) (s x : Operand)
  | copy (sz : Nat) (d x : Operand)
  | mkf (f : FuncId) (caps : List Operand)
  | mkm
  | lku (str : Bool) (z : Value) (x k : Operand)
  | mup (str : Bool) (x k v : Operand)
  | rng (x : Operand)
  | nxt (x : Operand)
  | bad

/-- an operation, or a call -/
inductive SI where
  | op (s : SOp)
  | call (f : FuncId) (args : List Operand)
  | callv (x : Operand) (args : List Operand)

def mem (t : Nat) : List Nat → Bool
  | [] => false
  | x :: r => Nat.beq x t || mem t r
def evL (e : Env) : Operand → Option AV
  | .tmp t => e.get t
  | .const v => some (.f (.raw v))
  | .func g => some (.clo g [])
  | .global g => match G g with | some cells => some (.f (.ptr cells 0)) | none => none
def evs (e : Env) : List Operand → Option (List AV)
  | [] => some []
  | x :: xs => match evL e x with | some y => (match evs e xs with | some ys => some (y :: ys) | none => none) | none => none

structure OpR where
  val : AV
  rd : List Nat
  wr : List Nat
  nw : NW
  N : List Nat
def OpR.eff (r : OpR) : Eff := ⟨r.val, r.rd, r.wr, nwGet r.nw, r.N⟩
/-- a result that touches nothing -/
def rv (x : AV) : Option OpR := some ⟨x, [], [], [], []⟩
def raw (v : Value) : AV := .f (.raw v)

/-- all frozen? -/
def allF : List AV → Option (List FV)
  | [] => some []
  | .f x :: r => match allF r with | some l => some (x :: l) | none => none
  | _ :: _ => none
def mkBC (l : List AV) : BC := match allF l with | some fs => .fz fs | none => .mx l
def mkAgg (l : List AV) : AV := match allF l with | some fs => .f (.agg fs) | none => .agg l
def splice {α : Type} (l : List α) (off : Nat) (vs : List α) : List α := l.take off ++ vs ++ l.drop (off + vs.length)
def BC.toMx : BC → List AV
  | .fz l => l.map .f
  | .mx l => l
  | _ => []
def allCell : List AV → Bool
  | [] => true
  | x :: r => x.isCell && allCell r
def BC.put (c : BC) (off : Nat) (vs : List AV) : Option BC :=
  if c.isCells && Nat.ble (off + vs.length) c.len && allCell vs then
    match c, allF vs with
    | .fz l, some ys => some (.fz (splice l off ys))
    | c, _ => some (.mx (splice c.toMx off vs))
  else none
def BC.sub? (c : BC) (off sz : Nat) : Bool → Option AV
  | false => match sz with | 1 => c.get off | _ => none
  | true => match c with
    | .fz l => if Nat.ble (off + sz) l.length then some (.f (.agg ((l.drop off).take sz))) else none
    | .mx l => if Nat.ble (off + sz) l.length then some (.agg ((l.drop off).take sz)) else none
    | _ => none
/-- the cells of a value -/
def AV.cs : AV → List AV
  | .agg l => l
  | .f (.agg l) => l.map .f
  | x => [x]

def aload (h : Heap) (sz : Nat) (ag : Bool) : AV → Option OpR
  | .ptr id off => match h.get id with
    | some b => (match b.c.sub? off sz ag with | some v => some ⟨v, [id], [], [], []⟩ | none => none)
    | none => none
  | .f (.ptr cells off) => (match (BC.fz cells).sub? off sz ag with | some v => rv v | none => none)
  | _ => none
def astore (h : Heap) (sz : Nat) (v : AV) : AV → Option OpR
  | .ptr id off => match h.get id with
    | some b => if v.cs.length == sz then (match b.c.put off v.cs with | some c => some ⟨raw undef, [id], [id], [(id, ⟨b.ty, c⟩)], []⟩ | none => none) else none
    | none => none
  | _ => none

/-- put parts into cells -/
def fillA (cells : List AV) (e : Env) : List (Nat × Nat × Operand) → Option (List AV)
  | [] => some cells
  | (off, sz, x) :: r => match evL e x with
    | some v => if v.cs.length == sz && Nat.ble (off + sz) cells.length && allCell v.cs then fillA (splice cells off v.cs) e r else none
    | none => none

def ile (a b : Int) : Bool := decide (a ≤ b)
def ilt (a b : Int) : Bool := decide (a < b)
/-- wrap without powers where nothing is to be done -/
def wrapK (k : IntKind) (n : Int) : Int :=
  match k with
  | .i64 => if ile (-9223372036854775808) n && ile n 9223372036854775807 then n else IntKind.wrap .i64 n
  | .u8 => if ile 0 n && ile n 255 then n else IntKind.wrap .u8 n
  | k => IntKind.wrap k n
def bytesEq (a b : ByteArray) : Bool := a.data.toList == b.data.toList
def binV (op : BinOp) : Value → Value → Option Value
  | .int k a, .int k' b => if k == k' then
      match op with
      | .add => some (.int k (wrapK k (a + b)))
      | .sub => some (.int k (wrapK k (a - b)))
      | .mul => some (.int k (wrapK k (a * b)))
      | .rem => if b == 0 then none else some (.int k (a.tmod b))
      | .quo => if b == 0 then none else some (.int k (wrapK k (a.tdiv b)))
      | .eql => some (.bool (a == b))
      | .neq => some (.bool (a != b))
      | .lss => some (.bool (ilt a b))
      | .leq => some (.bool (ile a b))
      | .gtr => some (.bool (ilt b a))
      | .geq => some (.bool (ile b a))
      | _ => none
    else none
  | .string a, .string b => match op with
      | .eql => some (.bool (bytesEq a b))
      | .neq => some (.bool !(bytesEq a b))
      | _ => none
  | _, _ => none
/-- equality of plain cells of a type -/
def eqCell : TypeDesc → FV → FV → Option Bool
  | .int _, .raw (.int k a), .raw (.int k' b) => if k == k' then some (a == b) else none
  | .bool, .raw (.bool a), .raw (.bool b) => some (a == b)
  | .string, .raw (.string a), .raw (.string b) => some (bytesEq a b)
  | _, _, _ => none
def eqCells : List TypeDesc → List FV → List FV → Option Bool
  | [], [], [] => some true
  | d :: ds, x :: xs, y :: ys => match eqCell d x y with
    | some true => eqCells ds xs ys
    | some false => some false
    | none => none
  | _, _, _ => none

/-- the cells of a slice's first n elements, and the blocks read -/
def AV.row? (h : Heap) (sz : Nat) : AV → Option (List AV × Nat × List Nat)
  | .f (.sl cells n) => if Nat.ble (n * sz) cells.length then some ((cells.take (n * sz)).map .f, n, []) else none
  | .f (.raw (.slice none 0 0)) => some ([], 0, [])
  | .emp => some ([], 0, [])
  | .row id sz' n => if sz' == sz then (match h.get id with | some b => if b.c.isCells && Nat.ble (n * sz) b.c.len then some (b.c.toMx.take (n * sz), n, [id]) else none | none => none) else none
  | .sl id off n => match h.get id with | some b => if b.c.isCells && Nat.ble (off + n * sz) b.c.len then some ((b.c.toMx.drop off).take (n * sz), n, [id]) else none | none => none
  | _ => none
def AV.slen : AV → Option Nat
  | .f (.sl _ n) => some n
  | .f (.raw (.slice _ n _)) => some n
  | .emp => some 0
  | .row _ _ n => some n
  | .sl _ _ n => some n
  | _ => none
def roomy (n bytes : Nat) : Bool := Nat.ble n 1099511627776 && Nat.ble (n * bytes) 1099511627776
def repl (z : List Value) : Nat → List FV
  | 0 => []
  | n + 1 => z.map .raw ++ repl z n
def isNilSl : Value → Bool
  | .slice none 0 0 => true
  | _ => false

def isEmpB : AV → Bool
  | .emp => true
  | .f (.raw v) => isNilSl v
  | _ => false

def mapFind (k : Value) : List (Value × AV) → Option (Option AV)
  | [] => some none
  | (k', v) :: r => match binV .eql k k' with
    | some (.bool true) => some (some v)
    | some (.bool false) => mapFind k r
    | _ => none
def mapPut (k : Value) (v : AV) : List (Value × AV) → Option (List (Value × AV))
  | [] => some [(k, v)]
  | (k', v') :: r => match binV .eql k k' with
    | some (.bool true) => some ((k, v) :: r)
    | some (.bool false) => (match mapPut k v r with | some r' => some ((k', v') :: r') | none => none)
    | _ => none
def keyOK : Bool → Value → Bool
  | false, .int _ _ => true
  | true, .string _ => true
  | _, _ => false

def aop (s : SOp) (e : Env) (h : Heap) (nx : Nat) : Option OpR :=
  match s with
  | .mv x => match evL e x with | some v => rv v | none => none
  | .pick c a b => match evL e c with
    | some (.f (.raw (.bool t))) => (match evL e (if t then a else b) with | some v => rv v | none => none)
    | _ => none
  | .alloc ty z => some ⟨.ptr nx 0, [], [nx], [(nx, ⟨ty, .fz (z.map .raw)⟩)], [nx]⟩
  | .box ty x => match evL e x with
    | some v => if allCell v.cs then some ⟨.ptr nx 0, [], [nx], [(nx, ⟨ty, mkBC v.cs⟩)], [nx]⟩ else none
    | none => none
  | .build z parts => match fillA (z.map raw) e parts with | some cs => rv (mkAgg cs) | none => none
  | .bsl ty sz len z parts => match fillA ((repl z len).map .f) e parts with
    | some cs => some ⟨if len = 0 then .emp else .row nx sz len, [], [nx], [(nx, ⟨ty, mkBC cs⟩)], [nx]⟩
    | none => none
  | .load sz ag x => match evL e x with | some p => aload h sz ag p | none => none
  | .store sz x v => match evL e x, evL e v with | some p, some y => astore h sz y p | _, _ => none
  | .nilc x => match evL e x with
    | some (.ptr id off) => rv (.ptr id off)
    | some (.f (.ptr cells off)) => rv (.f (.ptr cells off))
    | some (.clo g cap) => rv (.clo g cap)
    | _ => none
  | .bin op x y => match evL e x, evL e y with
    | some (.f (.raw u)), some (.f (.raw v)) => (match binV op u v with | some r => rv (raw r) | none => none)
    | _, _ => none
  | .eqs neg ds x y => match evL e x, evL e y with
    | some (.f (.agg a)), some (.f (.agg b)) => (match eqCells ds a b with | some r => rv (raw (.bool (r != neg))) | none => none)
    | _, _ => none
  | .eqb neg x y => match evL e x, evL e y with
    | some (.f (.raw (.bool a))), some (.f (.raw (.bool b))) => rv (raw (.bool ((a == b) != neg)))
    | _, _ => none
  | .isnil neg x => match evL e x with
    | some (.row _ _ _) => rv (raw (.bool neg))
    | some (.sl _ _ _) => rv (raw (.bool neg))
    | some (.f (.sl _ (_ + 1))) => rv (raw (.bool neg))
    | some (.f (.sl _ 0)) => rv .anyb
    | some .emp => rv .anyb
    | some (.f (.raw v)) => if isNilSl v then rv (raw (.bool !neg)) else none
    | _ => none
  | .not x => match evL e x with | some (.f (.raw (.bool b))) => rv (raw (.bool !b)) | _ => none
  | .conv k x => match evL e x with | some (.f (.raw (.int _ n))) => rv (raw (.int k (wrapK k n))) | _ => none
  | .mksl ty sz bytes z l c => match evL e l, evL e c with
    | some (.f (.raw (.int _ a))), some (.f (.raw (.int _ b))) =>
      if ile 0 a && ile a b && roomy b.toNat bytes then some ⟨.row nx sz a.toNat, [], [nx], [(nx, ⟨ty, .fz (repl z a.toNat)⟩)], [nx]⟩ else none
    | _, _ => none
  | .slc sz x lo hi mx => match evL e x with
    | some v => match lo, hi, mx with
      | none, some (.const (.int _ 0)), some (.const (.int _ 0)) => if v.slen.isSome then rv .emp else none
      | none, some b, none => match v, evL e b with
        | .row id sz' n, some (.f (.raw (.int _ j))) => if sz' == sz && ile 0 j && ile j n then rv (.row id sz j.toNat) else none
        | _, _ => none
      | some b, none, none => match v, evL e b with
        | .row id sz' n, some (.f (.raw (.int _ j))) => if sz' == sz && ile 0 j && ilt j n then rv (.sl id (j.toNat * sz) (n - j.toNat)) else none
        | _, _ => none
      | _, _, _ => none
    | none => none
  | .fad off x => match evL e x with
    | some (.ptr id o) => rv (.ptr id (o + off))
    | some (.f (.ptr cells o)) => rv (.f (.ptr cells (o + off)))
    | _ => none
  | .fld off sz ag x => match evL e x with
    | some (.agg l) => (match (BC.mx l).sub? off sz ag with | some v => rv v | none => none)
    | some (.f (.agg l)) => (match (BC.fz l).sub? off sz ag with | some v => rv v | none => none)
    | _ => none
  | .iad sz x i => match evL e x, evL e i with
    | some v, some (.f (.raw (.int _ j))) => match v with
      | .row id sz' n => if sz' == sz && ile 0 j && ilt j n then rv (.ptr id (j.toNat * sz)) else none
      | .sl id off n => if ile 0 j && ilt j n then rv (.ptr id (off + j.toNat * sz)) else none
      | .f (.sl cells n) => if ile 0 j && ilt j n then rv (.f (.ptr cells (j.toNat * sz))) else none
      | _ => none
    | _, _ => none
  | .iada n sz x i => match evL e x, evL e i with
    | some v, some (.f (.raw (.int _ j))) => if ile 0 j && ilt j n then (match v with
      | .ptr id off => rv (.ptr id (off + j.toNat * sz))
      | .f (.ptr cells off) => rv (.f (.ptr cells (off + j.toNat * sz)))
      | _ => none) else none
    | _, _ => none
  | .idx n sz ag x i => match evL e x, evL e i with
    | some v, some (.f (.raw (.int _ j))) => if ile 0 j && ilt j n then (match v with
      | .agg l => (match (BC.mx l).sub? (j.toNat * sz) sz ag with | some v => rv v | none => none)
      | .f (.agg l) => (match (BC.fz l).sub? (j.toNat * sz) sz ag with | some v => rv v | none => none)
      | _ => none) else none
    | _, _ => none
  | .ext x i => match evL e x with | some (.tup l) => (match l[i]? with | some v => rv v | none => none) | _ => none
  | .len x => match evL e x with
    | some v => (match v.slen with | some n => rv (raw (.int .i64 n)) | none => none)
    | none => none
  | .lens x => match evL e x with
    | some (.f (.raw (.string s))) => rv (raw (.int .i64 s.data.toList.length))
    | _ => none
  | .lenm x => match evL e x with
    | some (.mp id) => (match h.get id with | some ⟨_, .mp es⟩ => some ⟨raw (.int .i64 es.length), [id], [], [], []⟩ | _ => none)
    | _ => none
  | .max x y => match evL e x, evL e y with
    | some (.f (.raw (.int k a))), some (.f (.raw (.int _ b))) => rv (raw (.int k (if ilt a b then b else a)))
    | _, _ => none
  | .app ty sz bytes s x => match evL e s, evL e x with
    | some b, some y => match y.row? h sz with
      | some (src, m, rd) => match b with
        | .row id sz' n => match h.get id with
          | some blk => if sz' == sz && !(mem id rd) && blk.c.isCells && Nat.ble (n * sz) blk.c.len && blk.ty == ty && roomy (n + m) bytes then
              some ⟨.row nx sz (n + m), id :: rd, [nx, id], [(nx, ⟨ty, mkBC (blk.c.toMx.take (n * sz) ++ src)⟩)], [nx]⟩ else none
          | none => none
        | b => if isEmpB b && roomy m bytes then
            (if m == 0 then some ⟨b, rd, [], [], []⟩ else some ⟨.row nx sz m, rd, [nx], [(nx, ⟨ty, mkBC src⟩)], [nx]⟩) else none
      | none => none
    | _, _ => none
  | .copy sz d x => match evL e d, evL e x with
    | some (.row id sz' n), some y => (match h.get id, y.row? h sz with
      | some blk, some (src, m, rd) => if sz' == sz && !(mem id rd) && Nat.ble (n * sz) blk.c.len then
          (match blk.c.put 0 (src.take (Nat.min m n * sz)) with
          | some c => some ⟨raw (.int .i64 (Nat.min m n)), id :: rd, [id], [(id, ⟨blk.ty, c⟩)], []⟩
          | none => none) else none
      | _, _ => none)
    | _, _ => none
  | .mkf f caps => match evs e caps with | some l => rv (.clo f l) | none => none
  | .mkm => some ⟨.mp nx, [], [nx], [(nx, ⟨0, .mp []⟩)], [nx]⟩
  | .lku str z x k => match evL e x, evL e k with
    | some (.mp id), some (.f (.raw key)) => (match h.get id with
      | some ⟨_, .mp es⟩ => if keyOK str key then (match mapFind key es with | some (some v) => some ⟨v, [id], [], [], []⟩ | some none => some ⟨raw z, [id], [], [], []⟩ | none => none) else none
      | _ => none)
    | _, _ => none
  | .mup str x k v => match evL e x, evL e k, evL e v with
    | some (.mp id), some (.f (.raw key)), some y => (match h.get id with
      | some ⟨ty, .mp es⟩ => if keyOK str key then (match mapPut key y es with | some es' => some ⟨raw undef, [id], [id], [(id, ⟨ty, .mp es'⟩)], []⟩ | none => none) else none
      | _ => none)
    | _, _, _ => none
  | .rng x => match evL e x with
    | some (.f (.raw (.string s))) => some ⟨.ptr nx 0, [], [nx], [(nx, ⟨0, .it s 0⟩)], [nx]⟩
    | _ => none
  | .nxt x => match evL e x with
    | some (.ptr id 0) => (match h.get id with
      | some ⟨ty, .it s p⟩ => (match s.data.toList[p]? with
        | some b => if Nat.blt b.toNat 128 then some ⟨.tup [raw (.bool true), raw (.int .i64 p), raw (.int .i32 b.toNat)], [id], [id], [(id, ⟨ty, .it s (p + 1)⟩)], []⟩ else none
        | none => some ⟨.tup [raw (.bool false)], [id], [id], [(id, ⟨ty, .it s p⟩)], []⟩)
      | _ => none)
    | _ => none
  | .bad => none

/-- One operation of a slim region: where the result goes, what is done, under which guard (the guard's slot, the wanted truth). -/
structure SOper where
  dst : Option Nat
  op : SI
  guard : Option (Nat × Bool)

inductive SC where
  | skip
  | reg (ops : List SOper) (prs : List (Nat × Nat))
  | seq (a b : SC)
  | cond (c : Nat) (a b : SC)
  | block (id : Nat) (b : SC)
  | loop (b : SC)
  | exit (id : Nat)
  | ret
  | defer (f : FuncId) (caps : List Operand) (t : Nat)
  | bad

structure CallR where
  val : AV
  h : Heap
  nx : Nat
  wr : Nat
abbrev CallF := FuncId → List AV → Heap → Nat → Option CallR

/-! names, as bits -/
mutual
def AV.ids : AV → Nat → Nat
  | .ptr id _, acc => acc ||| (1 <<< id)
  | .sl id _ _, acc => acc ||| (1 <<< id)
  | .row id _ _, acc => acc ||| (1 <<< id)
  | .mp id, acc => acc ||| (1 <<< id)
  | .agg l, acc => AV.idsL l acc
  | .tup l, acc => AV.idsL l acc
  | .clo _ l, acc => AV.idsL l acc
  | .f _, acc => acc
  | .emp, acc => acc
  | .anyb, acc => acc
def AV.idsL : List AV → Nat → Nat
  | [], acc => acc
  | x :: r, acc => AV.idsL r (AV.ids x acc)
end
mutual
/-- all names satisfy p -/
def AV.all (p : Nat → Bool) : AV → Bool
  | .ptr id _ => p id
  | .sl id _ _ => p id
  | .row id _ _ => p id
  | .mp id => p id
  | .agg l => AV.allL p l
  | .tup l => AV.allL p l
  | .clo _ l => AV.allL p l
  | .f _ => true
  | .emp => true
  | .anyb => true
def AV.allL (p : Nat → Bool) : List AV → Bool
  | [] => true
  | x :: r => AV.all p x && AV.allL p r
end
def BC.ids : BC → Nat → Nat
  | .mx l, acc => AV.idsL l acc
  | .mp es, acc => AV.idsL (es.map (·.2)) acc
  | _, acc => acc
def BC.all (p : Nat → Bool) : BC → Bool
  | .mx l => AV.allL p l
  | .mp es => AV.allL p (es.map (·.2))
  | _ => true
def Heap.all (p : Nat → Bool) (h : Heap) : Bool := PT.all (fun i b => p i && b.c.all p) 1 0 h
def reach : Nat → Heap → Nat → Nat → Nat
  | 0, _, _, seen => seen
  | n + 1, h, todo, seen =>
    if Nat.beq todo 0 then seen else
    match Nat.log2 todo with
    | id => if Nat.testBit seen id then reach n h (todo ^^^ (1 <<< id)) seen else
      match h.get id with
      | some b => reach n h (b.c.ids (todo ^^^ (1 <<< id))) (seen ||| (1 <<< id))
      | none => reach n h (todo ^^^ (1 <<< id)) seen

/-! evaluation to normal form, for computing: each is the identity -/
section force
variable {α : Type}
def frcN (n : Nat) (k : Nat → α) : α := match n with | 0 => k 0 | m + 1 => k (m + 1)
def frcI (n : Int) (k : Int → α) : α := match n with | .ofNat m => frcN m fun m => k (.ofNat m) | .negSucc m => frcN m fun m => k (.negSucc m)
def frcB (b : Bool) (k : Bool → α) : α := match b with | true => k true | false => k false
def frcV (v : Value) (k : Value → α) : α := match v with
  | .int kd n => frcI n fun n => k (.int kd n)
  | .bool b => frcB b fun b => k (.bool b)
  | v => k v
def frcF (x : FV) (k : FV → α) : α := match x with
  | .raw v => frcV v fun v => k (.raw v)
  | .ptr cells off => frcN off fun off => k (.ptr cells off)
  | .sl cells n => frcN n fun n => k (.sl cells n)
  | .agg l => k (.agg l)
def frcFL : List FV → (List FV → α) → α
  | [], k => k []
  | x :: r, k => frcF x fun x => frcFL r fun r => k (x :: r)
def frcF2 (x : FV) (k : FV → α) : α := match x with
  | .agg l => frcFL l fun l => k (.agg l)
  | x => frcF x k
def frcA1 (x : AV) (k : AV → α) : α := match x with
  | .f x => frcF2 x fun x => k (.f x)
  | .ptr id off => frcN id fun id => frcN off fun off => k (.ptr id off)
  | .sl id off n => frcN id fun id => frcN off fun off => frcN n fun n => k (.sl id off n)
  | .row id sz n => frcN id fun id => frcN sz fun sz => frcN n fun n => k (.row id sz n)
  | .mp id => frcN id fun id => k (.mp id)
  | x => k x
def frcAL : List AV → (List AV → α) → α
  | [], k => k []
  | x :: r, k => frcA1 x fun x => frcAL r fun r => k (x :: r)
def frcA (x : AV) (k : AV → α) : α := match x with
  | .agg l => frcAL l fun l => k (.agg l)
  | .tup l => frcAL l fun l => k (.tup l)
  | .clo f l => frcAL l fun l => k (.clo f l)
  | x => frcA1 x k
def frcC (c : BC) (k : BC → α) : α := match c with
  | .fz l => frcFL l fun l => k (.fz l)
  | .mx l => frcAL l fun l => k (.mx l)
  | .it s p => frcN p fun p => k (.it s p)
  | .mp es => k (.mp es)
def frcP {β : Type} : PT β → (PT β → α) → α
  | .leaf, k => k .leaf
  | .node v l r, k => (match v with
    | none => fun (k : Option β → α) => k none
    | some x => fun k => k (some x)) fun v => frcP l fun l => frcP r fun r => k (.node v l r)
/-- set, evaluated along the path -/
def setK {β : Type} : Nat → PT β → Nat → Option β → (PT β → α) → α
  | 0, t, _, _, k => k t
  | f + 1, t, n, x, k => match t with
    | .leaf => (match n with
      | 0 => k (.node x .leaf .leaf)
      | m + 1 => if Nat.beq (m % 2) 0 then frcN (m / 2) fun q => setK f .leaf q x fun u => k (.node none u .leaf) else frcN (m / 2) fun q => setK f .leaf q x fun u => k (.node none .leaf u))
    | .node v l r => (match n with
      | 0 => k (.node x l r)
      | m + 1 => if Nat.beq (m % 2) 0 then frcN (m / 2) fun q => setK f l q x fun u => k (.node v u r) else frcN (m / 2) fun q => setK f r q x fun u => k (.node v l u))
theorem frcN_eq (n : Nat) (k : Nat → α) : frcN n k = k n := by cases n <;> rfl
theorem frcI_eq (n : Int) (k : Int → α) : frcI n k = k n := by cases n <;> simp only [frcI, frcN_eq]
theorem frcB_eq (n : Bool) (k : Bool → α) : frcB n k = k n := by cases n <;> rfl
theorem frcV_eq (n : Value) (k : Value → α) : frcV n k = k n := by cases n <;> simp only [frcV, frcI_eq, frcB_eq]
theorem frcF_eq (x : FV) (k : FV → α) : frcF x k = k x := by cases x <;> simp only [frcF, frcV_eq, frcN_eq]
theorem frcFL_eq : ∀ (x : List FV) (k : List FV → α), frcFL x k = k x
  | [], _ => rfl
  | x :: r, k => by rw [frcFL, frcF_eq, frcFL_eq r]
theorem frcF2_eq (x : FV) (k : FV → α) : frcF2 x k = k x := by cases x <;> simp only [frcF2, frcF_eq, frcFL_eq]
theorem frcA1_eq (x : AV) (k : AV → α) : frcA1 x k = k x := by cases x <;> simp only [frcA1, frcN_eq, frcF2_eq]
theorem frcAL_eq : ∀ (x : List AV) (k : List AV → α), frcAL x k = k x
  | [], _ => rfl
  | x :: r, k => by rw [frcAL, frcA1_eq, frcAL_eq r]
theorem frcA_eq (x : AV) (k : AV → α) : frcA x k = k x := by cases x <;> simp only [frcA, frcA1_eq, frcAL_eq]
theorem frcC_eq (x : BC) (k : BC → α) : frcC x k = k x := by cases x <;> simp only [frcC, frcFL_eq, frcAL_eq, frcN_eq]
theorem frcP_eq {β : Type} : ∀ (x : PT β) (k : PT β → α), frcP x k = k x
  | .leaf, _ => rfl
  | .node v l r, k => by cases v <;> simp only [frcP, frcP_eq l, frcP_eq r]
theorem setK_eq {β : Type} : ∀ (f : Nat) (t : PT β) (n : Nat) (x : Option β) (k : PT β → α), setK f t n x k = k (PT.setF f t n x)
  | 0, _, _, _, _ => rfl
  | f + 1, t, n, x, k => by
    cases t <;> cases n <;> simp only [setK, PT.setF, frcN_eq] <;> split <;> rw [setK_eq f]
end force

/-- a state: slots, heap, the next name -/
structure IS where
  e : Env
  h : Heap
  nx : Nat
  wr : Nat
/-- what an operation did -/
structure StepR where
  val : AV
  rd : Nat
  wr : Nat
  h : Heap
  nx : Nat

def bits : List Nat → Nat → Nat
  | [], acc => acc
  | x :: r, acc => bits r (acc ||| (1 <<< x))
def updK {α : Type} (h : Heap) (nw : NW) : List Nat → (Heap → α) → α
  | [], k => k h
  | i :: r, k => match nwGet nw i with
    | none => setK (i + 1) h i none fun h => updK h nw r k
    | some ⟨ty, c⟩ => frcC c fun c => setK (i + 1) h i (some ⟨ty, c⟩) fun h => updK h nw r k
theorem updK_eq {α : Type} (nw : NW) : ∀ (wr : List Nat) (h : Heap) (k : Heap → α), updK h nw wr k = k (h.upd wr nw)
  | [], _, _ => rfl
  | i :: r, h, k => by
    unfold updK Heap.upd PT.set
    cases hn : nwGet nw i with
    | none => simp only [setK_eq, updK_eq nw r]
    | some b => obtain ⟨ty, c⟩ := b; simp only [frcC_eq, setK_eq, updK_eq nw r]

def callA (call : CallF) (f : FuncId) (args : List AV) (h : Heap) (nx : Nat) : Option StepR :=
  frcN (reach 1000000 h (AV.idsL args 0) 0) fun ids => frcP (PT.only ids 1 0 h) fun hc =>
  if AV.allL (Nat.blt · nx) args && Heap.all (Nat.blt · nx) hc then
    match call f args hc nx with
    | some ⟨val, h', nx', wr⟩ => frcA val fun val => frcN nx' fun nx' => frcN wr fun wr => frcP (PT.merge wr 1 0 h h') fun hm => some ⟨val, ids, wr, hm, nx'⟩
    | none => none
  else none

def opA (call : CallF) (o : SI) (e : Env) (h : Heap) (nx : Nat) : Option StepR :=
  match o with
  | .call f args => match evs e args with | some l => callA call f l h nx | none => none
  | .callv x args => match evL e x, evs e args with | some (.clo f cap), some l => callA call f (l ++ cap) h nx | _, _ => none
  | .op o => match aop o e h nx with
    | some ⟨val, rd, wr, nw, N⟩ => frcA val fun val => frcN (bits rd 0) fun rd => frcN (bits wr 0) fun wm => frcN (nx + N.length) fun nx' => updK h nw wr fun h => some ⟨val, rd, wm, h, nx'⟩
    | none => none

/-- is the operation carried out? -/
def wantA (e : Env) : Option (Nat × Bool) → Option Bool
  | none => some true
  | some (t, want) => match e.get t with
    | some (.f (.raw (.bool b))) => some (b == want)
    | some (.f (.raw (.tuple _))) => some false
    | _ => none
def putK {α : Type} (e : Env) (dst : Option Nat) (v : AV) (k : Env → α) : α := match dst with
  | none => k e
  | some d => setK (d + 1) e d (some v) k
theorem putK_eq {α : Type} (e : Env) (dst : Option Nat) (v : AV) (k : Env → α) : putK e dst v k = k (e.put dst v) := by
  cases dst with
  | none => rfl
  | some d => exact setK_eq _ _ _ _ _
structure FPm where
  rd : Nat
  wr : Nat
def runOps (call : CallF) : List SOper → IS → Option (IS × List FPm)
  | [], s => some (s, [])
  | o :: r, ⟨e, h, nx, wr⟩ =>
    match wantA e o.guard with
    | some true => (match opA call o.op e h nx with
      | some ⟨val, rd, w, h', nx'⟩ => putK e o.dst val fun e' => frcN (wr ||| w) fun wr' => (match runOps call r ⟨e', h', nx', wr'⟩ with
        | some (s', fs) => some (s', ⟨rd, w⟩ :: fs)
        | none => none)
      | none => none)
    | some false => putK e o.dst (raw undef) fun e' => (match runOps call r ⟨e', h, nx, wr⟩ with
      | some (s', fs) => some (s', ⟨0, 0⟩ :: fs)
      | none => none)
    | none => none

def fpAt : List FPm → Nat → Option FPm
  | [], _ => none
  | f :: _, 0 => some f
  | _ :: r, n + 1 => fpAt r n
def disjM (a b : Nat) : Bool := Nat.beq (a &&& b) 0
def prsOK (fs : List FPm) : List (Nat × Nat) → Bool
  | [] => true
  | (i, j) :: r => (match fpAt fs i, fpAt fs j with
    | some a, some b => disjM a.wr b.rd && disjM a.wr b.wr && disjM b.wr a.rd
    | _, _ => false) && prsOK fs r

inductive Ex where
  | normal
  | exit (id : Nat)
  | ret

def loopN (body : IS → Option (Ex × IS)) (e0 : Env) : Nat → IS → Option (Ex × IS)
  | 0, _ => none
  | n + 1, s => match body s with
    | some (.normal, ⟨e, h, nx, wr⟩) => frcP (PT.mask e e0) fun e => loopN body e0 n ⟨e, h, nx, wr⟩
    | r => r

def run (call : CallF) (inert : FuncId → Bool) (fuel : Nat) : SC → IS → Option (Ex × IS)
  | .skip, s => some (.normal, s)
  | .reg ops prs, s => match runOps call ops s with
    | some (s', fs) => if prsOK fs prs then some (.normal, s') else none
    | none => none
  | .seq a b, s => match run call inert fuel a s with
    | some (.normal, s') => run call inert fuel b s'
    | r => r
  | .cond c a b, s => match s.e.get c with
    | some (.f (.raw (.bool true))) => run call inert fuel a s
    | some (.f (.raw (.bool false))) => run call inert fuel b s
    | _ => none
  | .block id b, s => match run call inert fuel b s with
    | some (.exit i, s') => if Nat.beq i id then some (.normal, s') else some (.exit i, s')
    | r => r
  | .loop b, s => loopN (run call inert fuel b) s.e fuel s
  | .exit id, s => some (.exit id, s)
  | .ret, s => some (.ret, s)
  | .defer f caps t, ⟨e, h, nx, wr⟩ => match evs e caps with
    | some l => if inert f then putK e (some t) (.clo f l) fun e' => some (.normal, ⟨e', h, nx, wr⟩) else none
    | none => none
  | .bad, _ => none

inductive RV where
  | tmp (t : Nat)
  | cell (a : Nat) (sz : Nat) (ag : Bool)
structure SF where
  code : SC
  res : List RV
  nt : Nat

def resA (e : Env) (h : Heap) : List RV → Option (List AV)
  | [] => some []
  | .tmp t :: r => match e.get t, resA e h r with | some v, some l => some (v :: l) | _, _ => none
  | .cell a sz ag :: r => match e.get a with
    | some p => (match aload h sz ag p, resA e h r with | some v, some l => some (v.val :: l) | _, _ => none)
    | none => none
def tupA : List AV → AV
  | [x] => x
  | l => .tup l

def argE : Nat → List AV → Env
  | _, [] => PT.leaf
  | k, x :: xs => (argE (k + 1) xs).set k (some x)

/-- leave a function: the result, and what is still wanted of the heap -/
def leave (nx0 : Nat) (ids0 : Nat) (res : List RV) (s : IS) : Option CallR :=
  match resA s.e s.h res with
  | some l =>
    frcA (tupA l) fun v => frcN (reach 1000000 s.h (AV.ids v ids0) 0 ||| ids0) fun ids => frcP (PT.only ids 1 0 s.h) fun h' =>
    frcN (((PT.dom 1 0 h' 0) >>> nx0) <<< nx0) fun ex =>
    if Nat.beq (ids0 >>> nx0) 0 && AV.all (fun i => Nat.blt i nx0 || Nat.testBit ex i) v && Heap.all (fun i => Nat.blt i nx0 || Nat.testBit ex i) h' then some ⟨v, h', (if Nat.beq ex 0 then nx0 else Nat.log2 ex + 1), s.wr % (1 <<< nx0) ||| ex⟩ else none
  | none => none

def runF (tbl : FuncId → Option SF) (intr : CallF) (inert : FuncId → Bool) (fuel : Nat) : Nat → CallF
  | 0, _, _, _, _ => none
  | n + 1, f, args, h, nx => match intr f args h nx with
    | some r => some r
    | none => (match tbl f with
      | some sf => if Nat.ble args.length sf.nt then frcP (argE 0 args) fun e => (match run (runF tbl intr inert fuel n) inert fuel sf.code ⟨e, h, nx, 0⟩ with
        | some (.ret, s) => leave nx (PT.dom 1 0 h 0) sf.res s
        | some (.normal, s) => leave nx (PT.dom 1 0 h 0) sf.res s
        | _ => none) else none
      | none => none)

/-! equality, for looking calls up -/
def beqV : Value → Value → Bool
  | .bool a, .bool b => a == b
  | .int k a, .int k' b => k == k' && a == b
  | .string a, .string b => bytesEq a b
  | .slice none n c, .slice none n' c' => Nat.beq n n' && Nat.beq c c'
  | .pointer none, .pointer none => true
  | .tuple a, .tuple b => a.isEmpty && b.isEmpty
  | _, _ => false
mutual
def beqF : FV → FV → Bool
  | .raw a, .raw b => beqV a b
  | .sl l n, .sl l' n' => Nat.beq n n' && beqFL l l'
  | .ptr l n, .ptr l' n' => Nat.beq n n' && beqFL l l'
  | .agg l, .agg l' => beqFL l l'
  | _, _ => false
def beqFL : List FV → List FV → Bool
  | [], [] => true
  | x :: xs, y :: ys => beqF x y && beqFL xs ys
  | _, _ => false
end
mutual
def beqA : AV → AV → Bool
  | .f a, .f b => beqF a b
  | .ptr a b, .ptr a' b' => Nat.beq a a' && Nat.beq b b'
  | .sl a b c, .sl a' b' c' => Nat.beq a a' && Nat.beq b b' && Nat.beq c c'
  | .row a b c, .row a' b' c' => Nat.beq a a' && Nat.beq b b' && Nat.beq c c'
  | .mp a, .mp b => Nat.beq a b
  | .emp, .emp => true
  | .anyb, .anyb => true
  | .agg l, .agg l' => beqAL l l'
  | .tup l, .tup l' => beqAL l l'
  | .clo f l, .clo f' l' => Nat.beq f f' && beqAL l l'
  | _, _ => false
def beqAL : List AV → List AV → Bool
  | [], [] => true
  | x :: xs, y :: ys => beqA x y && beqAL xs ys
  | _, _ => false
end
def beqB : Blk → Blk → Bool
  | ⟨t, .fz l⟩, ⟨t', .fz l'⟩ => Nat.beq t t' && beqFL l l'
  | ⟨t, .mx l⟩, ⟨t', .mx l'⟩ => Nat.beq t t' && beqAL l l'
  | _, _ => false
def beqH : Heap → Heap → Bool
  | .leaf, .leaf => true
  | .node (some v) l r, .node (some v') l' r' => beqB v v' && beqH l l' && beqH r r'
  | .node none l r, .node none l' r' => beqH l l' && beqH r r'
  | _, _ => false
structure Memo where
  f : FuncId
  args : List AV
  h : Heap
  nx : Nat
  r : CallR
def memoF : List Memo → CallF
  | [], _, _, _, _ => none
  | m :: ms, f, args, h, nx => if Nat.beq m.f f && Nat.beq m.nx nx && beqAL m.args args && beqH m.h h then some m.r else memoF ms f args h nx

/-! from the program's code -/
def sizeT (P : Program) (t : TypeId) : Option Nat := (P.info? t).map (·.size)
def bytesT (P : Program) (t : TypeId) : Option Nat := (P.info? t).map (·.bytes)
def zeroT (P : Program) (t : TypeId) : Option (List Value) := ((P.info? t).bind (·.zero)).map (·.cells.toList)
def aggT (P : Program) (t : TypeId) : Option Bool := (P.underlying t).map fun | .struct _ => true | .array _ _ => true | _ => false
def elemT (P : Program) (t : TypeId) : Option TypeId := match P.underlying t with | some (.slice e) => some e | _ => none
def placeT (P : Program) (t : TypeId) (i : Nat) : Option (Nat × Nat) := match P.underlying t with
  | some (.struct fs) => (fs[i]?).bind fun f => (sizeT P f.type).map (f.offset, ·)
  | some (.array _ el) => (sizeT P el).map fun s => (i * s, s)
  | some (.slice el) => (sizeT P el).map fun s => (i * s, s)
  | _ => none
def partsT (P : Program) (t : TypeId) : List (Nat × Operand) → Option (List (Nat × Nat × Operand))
  | [] => some []
  | (i, x) :: r => match placeT P t i, partsT P t r with | some (o, s), some l => some ((o, s, x) :: l) | _, _ => none
def cellsOK (z : List Value) : Bool := z.all fun v => v.oneCell'
def plainD : TypeDesc → Bool
  | .int _ => true
  | .bool => true
  | .string => true
  | _ => false
def plainFs (P : Program) : Nat → List Field → Option (List TypeDesc)
  | _, [] => some []
  | k, f :: r => match P.underlying f.type, plainFs P (k + 1) r with
    | some d, some ds => if f.name != "_" && f.offset == k && plainD d then some (d :: ds) else none
    | _, _ => none
/-- a struct of plain fields, each one cell -/
def plainT (P : Program) (t : TypeId) : Option (List TypeDesc) := match P.underlying t with
  | some (.struct fs) => if P.stoodInHeld t then none else plainFs P 0 fs.toList
  | _ => none

def compCall (P : Program) (c : Call) : Option SOp :=
  match c.callee with
  | .builtin .len => (match c.args.toList, c.argTypes.toList with
    | [x], [t] => (match P.underlying t with
      | some (.slice _) => some (.len x)
      | some .string => some (.lens x)
      | some (.map _ _) => some (.lenm x)
      | _ => none)
    | _, _ => none)
  | .builtin .max => (match c.args.toList with
    | [x, y] => some (.max x y)
    | _ => none)
  | .builtin .copy => (match c.args.toList, c.argTypes.toList with
    | [d, x], [t, u] => (match elemT P t, elemT P u with
      | some el, some _ => (sizeT P el).bind fun sz => if sz != 0 then some (.copy sz d x) else none
      | _, _ => none)
    | _, _ => none)
  | .builtin .append => (match c.args.toList, c.argTypes.toList with
    | [s, x], [t, u] => (match elemT P t, elemT P u with
      | some el, some _ => (sizeT P el).bind fun sz => (bytesT P el).bind fun b => (zeroT P el).bind fun z => if sz != 0 && z.length == sz then some (.app el sz b s x) else none
      | _, _ => none)
    | _, _ => none)
  | _ => none

def compOp (P : Program) : Op → Option SOp
  | .move x => some (.mv x)
  | .assign x => some (.mv x)
  | .pick c a b => some (.pick c a b)
  | .alloc t => (zeroT P t).bind fun z => if cellsOK z then some (.alloc t z) else none
  | .box t x => some (.box t x)
  | .build t ps => match P.underlying t with
    | some (.struct fs) => (zeroT P t).bind fun z => if cellsOK z && (fs.toList.all fun f => (sizeT P f.type).isSome) then (partsT P t ps.toList).map (.build z) else none
    | some (.array _ el) => (zeroT P t).bind fun z => if cellsOK z && (sizeT P el).isSome then (partsT P t ps.toList).map (.build z) else none
    | _ => none
  | .buildSlice t n ps => (elemT P t).bind fun el => (zeroT P el).bind fun z => (sizeT P el).bind fun sz => if cellsOK z && z.length == sz && Nat.ble (n * sz) 65536 && sz != 0 then (partsT P t ps.toList).map (.bsl el sz n z) else none
  | .load t x => (sizeT P t).bind fun sz => (aggT P t).map fun ag => .load sz ag x
  | .store t x v => (sizeT P t).map fun sz => .store sz x v
  | .nilCheck x => some (.nilc x)
  | .binOp op t x y _ => match P.underlying t with
    | some (.int _) | some .string => some (.bin op x y)
    | some .bool => (match op with | .eql => some (.eqb false x y) | .neq => some (.eqb true x y) | _ => none)
    | some (.slice _) => (match op, y with
      | .eql, .const (.slice none 0 0) => some (.isnil false x)
      | .neq, .const (.slice none 0 0) => some (.isnil true x)
      | _, _ => none)
    | some (.struct _) => (plainT P t).bind fun ds => (match op with | .eql => some (.eqs false ds x y) | .neq => some (.eqs true ds x y) | _ => none)
    | _ => none
  | .unOp .not _ x => some (.not x)
  | .convert s d x => match P.underlying s, P.underlying d with | some (.int _), some (.int k) => some (.conv k x) | _, _ => none
  | .makeSlice t l c => (elemT P t).bind fun el => (zeroT P el).bind fun z => (sizeT P el).bind fun sz => (bytesT P el).bind fun b => if cellsOK z && z.length == sz && sz != 0 then some (.mksl el sz b z l c) else none
  | .slice t x lo hi mx => (elemT P t).bind fun el => (sizeT P el).map fun sz => .slc sz x lo hi mx
  | .fieldAddr t x k => match P.underlying t with
    | some (.struct fs) => (fs[k]?).bind fun f => (sizeT P f.type).bind fun sz => if sz != 0 then some (.fad f.offset x) else none
    | _ => none
  | .field t x k => match P.underlying t with
    | some (.struct fs) => (fs[k]?).bind fun f => (sizeT P f.type).bind fun sz => (aggT P f.type).map fun ag => .fld f.offset sz ag x
    | _ => none
  | .indexAddr t x i => match P.underlying t with
    | some (.slice el) => (sizeT P el).map fun sz => .iad sz x i
    | some (.array n el) => (sizeT P el).map fun sz => .iada n sz x i
    | _ => none
  | .index t x i => match P.underlying t with
    | some (.array n el) => (sizeT P el).bind fun sz => (aggT P el).map fun ag => .idx n sz ag x i
    | _ => none
  | .extract x i => some (.ext x i)
  | .makeFunc (.func f) first caps => if first.isEmpty then some (.mkf f caps.toList) else none
  | .makeMap t none => match P.underlying t with | some (.map _ _) => some .mkm | _ => none
  | .lookup t x k false => match P.underlying t with
    | some (.map kt el) => (match P.underlying kt, (P.info? el).bind (·.zero) with
      | some (.int _), some z => if z.oneCell' then some (.lku false z x k) else none
      | some .string, some z => if z.oneCell' then some (.lku true z x k) else none
      | _, _ => none)
    | _ => none
  | .mapUpdate t m k v => match P.underlying t with
    | some (.map kt _) => (match P.underlying kt with
      | some (.int _) => some (.mup false m k v)
      | some .string => some (.mup true m k v)
      | _ => none)
    | _ => none
  | .range t x => match P.underlying t with | some .string => some (.rng x) | _ => none
  | .next x true => some (.nxt x)
  | .call c => compCall P c
  | _ => none

def callOf : Op → Option SI
  | .call c => (match c.callee with
    | .value (.func f) => some (.call f c.args.toList)
    | .value (.tmp t) => some (.callv (.tmp t) c.args.toList)
    | _ => none)
  | _ => none
def compI (P : Program) (op : Op) : SI := match callOf op with
  | some i => i
  | none => (match compOp P op with | some s => .op s | none => .op .bad)

def SOp.still : SOp → Bool
  | .mv _ | .pick _ _ _ | .build _ _ | .nilc _ | .bin _ _ _ | .eqs _ _ _ _ | .isnil _ _ | .eqb _ _ _ | .not _ | .conv _ _ | .slc _ _ _ _ _ | .fad _ _ | .fld _ _ _ _ | .iad _ _ _ | .iada _ _ _ _ | .idx _ _ _ _ _ | .ext _ _ | .max _ _ | .mkf _ _ | .bad => true
  | _ => false

def SI.still : SI → Bool
  | .op s => s.still
  | _ => false

def compOps (P : Program) (ops : Array Oper) : List Oper → Option (List SOper)
  | [] => some []
  | o :: r => match compOps P ops r with
    | some l => (match o.guard with
      | none => some (⟨o.dst, compI P o.op, none⟩ :: l)
      | some (j, want) => (match (ops[j]?).bind (·.dst) with
        | some t => some (⟨o.dst, compI P o.op, some (t, want)⟩ :: l)
        | none => none))
    | none => none
/-- the pairs that are not ordered; none where something cannot be checked -/
def prsOf (ops : Array Oper) (l : List SOper) : Option (List (Nat × Nat)) :=
  let B := befsGo ops.toList []
  if (List.range ops.size).all fun j => ((ops[j]?).all fun oj => oj.after.toList.all fun e => !Region.binds .any e || decide (e.on < j)) &&
      (List.range j).all fun i => Nat.testBit (B.getD j 0) i || (match ops[i]?, ops[j]? with | some oi, some oj => oi.apart ops oj | _, _ => false)
  then some ((List.range ops.size).flatMap fun j => (List.range j).filterMap fun i =>
      if Nat.testBit (B.getD j 0) i || (match l[i]?, l[j]? with | some a, some b => a.op.still || b.op.still | _, _ => false) then none else some (i, j))
  else none
/-- a region of two operations: a closure is made, and its call deferred -/
def deferOf (ops : Array Oper) (dr : Bool) : Option (FuncId × List Operand × Nat) := match ops.toList, dr with
  | [p, q], false => (match p.op, p.guard, p.dst, q.op, q.guard, q.dst with
    | .makeFunc (.func f) first caps, none, some t, .defer c, none, none => (match c.callee, c.args.toList with
      | .value (.tmp t'), [] => if Nat.beq t t' && first.isEmpty then some (f, caps.toList, t) else none
      | _, _ => none)
    | _, _, _, _, _, _ => none)
  | _, _ => none
def compCode (P : Program) (nt : Nat) : Code → SC
  | .skip => .skip
  | .region _ ops dr => if ops.toList.all fun o => match o.dst with | some d => decide (d < nt) | none => true then
      (match deferOf ops dr with
      | some (f, caps, t) => .defer f caps t
      | none => (match compOps P ops ops.toList with
        | some l => (match prsOf ops l with | some prs => .reg l prs | none => .bad)
        | none => .bad)) else .bad
  | .seq a b => .seq (compCode P nt a) (compCode P nt b)
  | .cond (.tmp c) a b => .cond c (compCode P nt a) (compCode P nt b)
  | .block id b => .block id (compCode P nt b)
  | .loop b => .loop (compCode P nt b)
  | .exit id => .exit id
  | .ret => .ret
  | _ => .bad
def compRes (P : Program) : List ResultVar → Option (List RV)
  | [] => some []
  | .tmp t :: r => match compRes P r with | some l => some (.tmp t :: l) | none => none
  | .cell a t :: r => match compRes P r, sizeT P t, aggT P t with | some l, some sz, some ag => some (.cell a sz ag :: l) | _, _, _ => none
def compF (P : Program) (f : FuncId) : Option SF :=
  match P.funcs[f]? with
  | some fn => if fn.name == "runtime.NumGoroutine" then none else (match fn.body, compRes P fn.results.toList with
    | some c, some r => some ⟨compCode P fn.ntmps c, r, fn.ntmps⟩
    | _, _ => none)
  | none => none

end Go.Proofs.YtjjplipoacljoaaDoor.AI
namespace Go.Proofs.YtjjplipoacljoaaDoor.AI
open Go.RowKit

/-! recursive data: expressions and statements -/
inductive Xp where
  | mk (op n : Int) (name : List UInt8) (l : List Xp)
inductive Sx where
  | mk (op line : Int) (name arg : List UInt8) (index : List Xp) (expr : Xp) (body els : List Sx)
def Xp.op : Xp → Int | .mk a _ _ _ => a
def Xp.n : Xp → Int | .mk _ a _ _ => a
def Xp.name : Xp → List UInt8 | .mk _ _ a _ => a
def Xp.l : Xp → List Xp | .mk _ _ _ a => a
def Sx.op : Sx → Int | .mk a _ _ _ _ _ _ _ => a
def Sx.line : Sx → Int | .mk _ a _ _ _ _ _ _ => a
def Sx.name : Sx → List UInt8 | .mk _ _ a _ _ _ _ _ => a
def Sx.arg : Sx → List UInt8 | .mk _ _ _ a _ _ _ _ => a
def Sx.index : Sx → List Xp | .mk _ _ _ _ a _ _ _ => a
def Sx.expr : Sx → Xp | .mk _ _ _ _ _ a _ _ => a
def Sx.body : Sx → List Sx | .mk _ _ _ _ _ _ a _ => a
def Sx.els : Sx → List Sx | .mk _ _ _ _ _ _ _ a => a

inductive Ty where
  | int (k : IntKind)
  | bool
  | str
  | sl (t : Ty)
  | st (t : Ty)
  | pr (a b : Ty)
  | un
  | ex
  | sm
  deriving DecidableEq
@[reducible] def Ty.den : Ty → Type
  | .int _ => Int
  | .bool => Bool
  | .str => List UInt8
  | .sl t => List t.den
  | .st t => t.den
  | .pr a b => a.den × b.den
  | .un => Unit
  | .ex => Xp
  | .sm => Sx
def Ty.size : Ty → Nat
  | .st t => t.size
  | .pr a b => a.size + b.size
  | .un => 0
  | .ex => 4
  | .sm => 11
  | _ => 1
def Ty.zero : (t : Ty) → t.den
  | .int _ => (0 : Int)
  | .bool => false
  | .str => []
  | .sl _ => []
  | .st t => t.zero
  | .pr a b => (a.zero, b.zero)
  | .un => ()
  | .ex => .mk 0 0 [] []
  | .sm => .mk 0 0 [] [] [] (.mk 0 0 [] []) [] []
/-- one cell -/
def Ty.one : Ty → Bool
  | .int _ => true
  | .bool => true
  | .str => true
  | .sl _ => true
  | _ => false
def exF : Ty := .pr (.int .i64) (.pr (.int .i64) (.pr .str (.sl .ex)))
def smF : Ty := .pr (.int .i64) (.pr (.int .i64) (.pr .str (.pr .str (.pr (.sl .ex) (.pr .ex (.pr (.sl .sm) (.sl .sm)))))))
def unEx (e : Xp) : exF.den := (e.op, e.n, e.name, e.l)
def mkEx (x : exF.den) : Xp := .mk x.1 x.2.1 x.2.2.1 x.2.2.2
def unSm (e : Sx) : smF.den := (e.op, e.line, e.name, e.arg, e.index, e.expr, e.body, e.els)
def mkSm (x : smF.den) : Sx := .mk x.1 x.2.1 x.2.2.1 x.2.2.2.1 x.2.2.2.2.1 x.2.2.2.2.2.1 x.2.2.2.2.2.2.1 x.2.2.2.2.2.2.2

/-! the cells of a value -/
mutual
def encEx : Xp → List FV
  | .mk op n name l => [.raw (.int .i64 op), .raw (.int .i64 n), .raw (.string ⟨name.toArray⟩), .sl (encExs l) l.length]
def encExs : List Xp → List FV
  | [] => []
  | x :: r => encEx x ++ encExs r
end
mutual
def encSm : Sx → List FV
  | .mk op line name arg index expr body els => [.raw (.int .i64 op), .raw (.int .i64 line), .raw (.string ⟨name.toArray⟩), .raw (.string ⟨arg.toArray⟩), .sl (encExs index) index.length] ++ encEx expr ++ [.sl (encSms body) body.length, .sl (encSms els) els.length]
def encSms : List Sx → List FV
  | [] => []
  | x :: r => encSm x ++ encSms r
end
def encC : (T : Ty) → T.den → List FV
  | .int k, n => [.raw (.int k n)]
  | .bool, b => [.raw (.bool b)]
  | .str, s => [.raw (.string ⟨s.toArray⟩)]
  | .sl t, xs => [.sl (List.flatMap (encC t) xs) (List.length xs)]
  | .st t, v => encC t v
  | .pr a b, v => encC a v.1 ++ encC b v.2
  | .un, _ => []
  | .ex, v => encEx v
  | .sm, v => encSm v
def enc1 : (T : Ty) → T.den → FV
  | .int k, n => .raw (.int k n)
  | .bool, b => .raw (.bool b)
  | .str, s => .raw (.string ⟨s.toArray⟩)
  | .sl t, xs => .sl (List.flatMap (encC t) xs) (List.length xs)
  | .st t, v => .agg (encC t v)
  | .pr a b, v => .agg (encC a v.1 ++ encC b v.2)
  | .un, _ => .agg []
  | .ex, v => .agg (encEx v)
  | .sm, v => .agg (encSm v)
/-- equality of plain values -/
def eqT : (T : Ty) → T.den → T.den → Bool
  | .int _, a, b => decide ((a : Int) = b)
  | .bool, a, b => (a : Bool) == b
  | .str, a, b => decide ((a : List UInt8) = b)
  | .st t, a, b => eqT t a b
  | .pr x y, a, b => eqT x a.1 b.1 && eqT y a.2 b.2
  | _, _, _ => true
def castT {S : Ty} (T : Ty) (v : S.den) : Option T.den := if h : S = T then some (h ▸ v) else none

def inB (j : Int) (n : Nat) : Bool := ile 0 j && ilt j n
def geti {T : Ty} (xs : List T.den) (j : Int) : T.den := xs.getD j.toNat T.zero
def seti {α : Type} (xs : List α) (j : Int) (x : α) : List α := xs.set j.toNat x
def cpy {α : Type} (xs ys : List α) : List α := ys.take xs.length ++ xs.drop ys.length
def imax (a b : Int) : Int := if ilt a b then b else a

/-! what a walk branches on -/
def bcase {R : Type} (b : Bool) (t f : Option R) : Option R := match b with | true => t | false => f
def chk {R : Type} (b : Bool) (k : b = true → Option R) : Option R := match b, k with | true, k => k rfl | false, _ => none
open Classical in
noncomputable def both {R : Type} (a b : Option R) : Option R := if a = b then a else none
open Classical in
noncomputable def same {α R : Type} (a b : α) (r : Option R) : Option R := if a = b then r else none
def obind {α R : Type} (o : Option α) (k : α → Option R) : Option R := match o with | some x => k x | none => none
def jn {α R : Type} (o : Option (R ⊕ α)) (k : α → Option R) : Option R := match o with | some (.inr x) => k x | some (.inl r) => some r | none => none
def iterN {σ R : Type} (step : σ → Option (σ ⊕ R)) : Nat → σ → Option R
  | 0, _ => none
  | n + 1, x => match step x with
    | some (.inl y) => iterN step n y
    | some (.inr r) => some r
    | none => none
open Classical in
noncomputable def iter {σ R : Type} (step : σ → Option (σ ⊕ R)) (x : σ) : Option R :=
  if h : ∃ n, (iterN step n x).isSome = true then iterN step (Classical.choose h) x else none
/-- a loop of at most so many rounds -/
def iterC {σ R : Type} (step : σ → Option (σ ⊕ R)) (x : σ) : Option R := iterN step 18446744073709551616 x
abbrev Itr : Type 1 := ∀ σ R : Type, (σ → Option (σ ⊕ R)) → σ → Option R
/-- what the one answers, the other answers -/
def Ole {R : Type} (a b : Option R) : Prop := ∀ y, a = some y → b = some y
theorem Ole.rfl {R : Type} {a : Option R} : Ole a a := fun _ h => h
theorem Ole.bcase {R : Type} {b : Bool} {t f t' f' : Option R} (h1 : Ole t t') (h2 : Ole f f') : Ole (AI.bcase b t f) (AI.bcase b t' f') := by cases b <;> assumption
theorem Ole.chk {R : Type} {b : Bool} {k k' : Option R} (h : Ole k k') : Ole (AI.chk b fun _ => k) (AI.chk b fun _ => k') := by
  cases b with
  | true => exact h
  | false => exact fun _ h => by cases h
theorem Ole.obind {α R : Type} {o o' : Option α} {k k' : α → Option R} (h : Ole o o') (hk : ∀ x, Ole (k x) (k' x)) : Ole (AI.obind o k) (AI.obind o' k') := by
  intro y hy
  cases o with
  | none => cases hy
  | some x => rw [h x (by exact Eq.refl _)]; exact hk x y hy
theorem Ole.jn {α R : Type} {o o' : Option (R ⊕ α)} {k k' : α → Option R} (h : Ole o o') (hk : ∀ x, Ole (k x) (k' x)) : Ole (AI.jn o k) (AI.jn o' k') := by
  intro y hy
  cases o with
  | none => cases hy
  | some x =>
    rw [h x (by exact Eq.refl _)]
    cases x with
    | inl r => exact hy
    | inr a => exact hk a y hy
theorem Ole.iterN {σ R : Type} {f g : σ → Option (σ ⊕ R)} (h : ∀ x, Ole (f x) (g x)) : ∀ (n : Nat) (x : σ), Ole (AI.iterN f n x) (AI.iterN g n x)
  | 0, _ => fun _ h => by cases h
  | n + 1, x => by
    intro y hy
    cases hf : f x with
    | none => rw [AI.iterN, hf] at hy; cases hy
    | some s =>
      rw [AI.iterN, hf] at hy
      rw [AI.iterN, h x s hf]
      cases s with
      | inl z => exact Ole.iterN h n z y hy
      | inr r => exact hy
theorem iterN_more {σ R : Type} {f : σ → Option (σ ⊕ R)} : ∀ {n : Nat} {x : σ} {r : R}, iterN f n x = some r → iterN f (n + 1) x = some r
  | 0, x, r, h => by cases h
  | n + 1, x, r, h => by
    cases hf : f x with
    | none => rw [iterN, hf] at h; cases h
    | some s =>
      cases s with
      | inl y => rw [iterN, hf] at h; rw [iterN, hf]; exact iterN_more h
      | inr q => rw [iterN, hf] at h; rw [iterN, hf]; exact h
theorem iterN_le {σ R : Type} {f : σ → Option (σ ⊕ R)} {n m : Nat} {x : σ} {r : R} (h : iterN f n x = some r) (hle : n ≤ m) : iterN f m x = some r := by
  induction hle with
  | refl => exact h
  | step _ ih => exact iterN_more ih
theorem iter_of' {σ R : Type} {f : σ → Option (σ ⊕ R)} {n : Nat} {x : σ} {r : R} (h : iterN f n x = some r) : iter f x = some r := by
  have hx : ∃ n, (iterN f n x).isSome = true := ⟨n, by rw [h]; exact Eq.refl _⟩
  unfold iter
  rw [dif_pos hx]
  have hc := Classical.choose_spec hx
  obtain ⟨r', hr'⟩ := Option.isSome_iff_exists.1 hc
  rw [hr']
  rcases Nat.le_total n (Classical.choose hx) with hl | hl
  · rw [iterN_le h hl] at hr'; exact hr'.symm
  · rw [iterN_le hr' hl] at h; exact h
theorem Ole.iter {σ R : Type} {f g : σ → Option (σ ⊕ R)} {x : σ} (h : ∀ x, Ole (f x) (g x)) : Ole (iterC f x) (AI.iter g x) := fun y hy => iter_of' (Ole.iterN h _ x y hy)

/-! pairs without nothing -/
def sprN (a : Ty) : Ty → Ty
  | .un => a
  | .int k => .pr a (.int k)
  | .bool => .pr a .bool
  | .str => .pr a .str
  | .sl t => .pr a (.sl t)
  | .st t => .pr a (.st t)
  | .pr x y => .pr a (.pr x y)
  | .ex => .pr a .ex
  | .sm => .pr a .sm
def spr : Ty → Ty → Ty
  | .un, b => b
  | .int k, b => sprN (.int k) b
  | .bool, b => sprN .bool b
  | .str, b => sprN .str b
  | .sl t, b => sprN (.sl t) b
  | .st t, b => sprN (.st t) b
  | .pr x y, b => sprN (.pr x y) b
  | .ex, b => sprN .ex b
  | .sm, b => sprN .sm b
def mkpN (a : Ty) : (b : Ty) → a.den → b.den → (sprN a b).den
  | .un, x, _ => x
  | .int _, x, y => (x, y)
  | .bool, x, y => (x, y)
  | .str, x, y => (x, y)
  | .sl _, x, y => (x, y)
  | .st _, x, y => (x, y)
  | .pr _ _, x, y => (x, y)
  | .ex, x, y => (x, y)
  | .sm, x, y => (x, y)
def fsN (a : Ty) : (b : Ty) → (sprN a b).den → a.den
  | .un, z => z
  | .int _, z => z.1
  | .bool, z => z.1
  | .str, z => z.1
  | .sl _, z => z.1
  | .st _, z => z.1
  | .pr _ _, z => z.1
  | .ex, z => z.1
  | .sm, z => z.1
def snN (a : Ty) : (b : Ty) → (sprN a b).den → b.den
  | .un, _ => ()
  | .int _, z => z.2
  | .bool, z => z.2
  | .str, z => z.2
  | .sl _, z => z.2
  | .st _, z => z.2
  | .pr _ _, z => z.2
  | .ex, z => z.2
  | .sm, z => z.2
def mkp : (a b : Ty) → a.den → b.den → (spr a b).den
  | .un, _, _, y => y
  | .int k, b, x, y => mkpN (.int k) b x y
  | .bool, b, x, y => mkpN .bool b x y
  | .str, b, x, y => mkpN .str b x y
  | .sl t, b, x, y => mkpN (.sl t) b x y
  | .st t, b, x, y => mkpN (.st t) b x y
  | .pr u v, b, x, y => mkpN (.pr u v) b x y
  | .ex, b, x, y => mkpN .ex b x y
  | .sm, b, x, y => mkpN .sm b x y
def fsp : (a b : Ty) → (spr a b).den → a.den
  | .un, _, _ => ()
  | .int k, b, z => fsN (.int k) b z
  | .bool, b, z => fsN .bool b z
  | .str, b, z => fsN .str b z
  | .sl t, b, z => fsN (.sl t) b z
  | .st t, b, z => fsN (.st t) b z
  | .pr u v, b, z => fsN (.pr u v) b z
  | .ex, b, z => fsN .ex b z
  | .sm, b, z => fsN .sm b z
def snp : (a b : Ty) → (spr a b).den → b.den
  | .un, _, z => z
  | .int k, b, z => snN (.int k) b z
  | .bool, b, z => snN .bool b z
  | .str, b, z => snN .str b z
  | .sl t, b, z => snN (.sl t) b z
  | .st t, b, z => snN (.st t) b z
  | .pr u v, b, z => snN (.pr u v) b z
  | .ex, b, z => snN .ex b z
  | .sm, b, z => snN .sm b z
theorem fsp_mkp (a b : Ty) (x : a.den) (y : b.den) : fsp a b (mkp a b x y) = x := by cases a <;> cases b <;> rfl
theorem snp_mkp (a b : Ty) (x : a.den) (y : b.den) : snp a b (mkp a b x y) = y := by cases a <;> cases b <;> rfl

/-! values of a typed walk -/
inductive TV where
  | f (T : Ty) (v : T.den)
  | fel (T : Ty) (xs : List T.den) (j : Int) (h : inB j xs.length = true) (off : Nat)
  | pel (id sz : Nat) (j : Int) (off : Nat)
  | ptr (id off : Nat)
  | row (id : Nat)
  | emp
  | nil
  | mp (id : Nat)
  | agg (l : List TV)
  | tup (l : List TV)
  | clo (g : FuncId) (l : List TV)
  | undef
  | anyb
/-- blocks: rows (p: where they are none there is no block), cells, a map; dead: given away, of known length -/
inductive TBlk where
  | rows (ty : TypeId) (p : Bool) (T : Ty) (xs : List T.den)
  | cells (ty : TypeId) (l : List TV)
  | dead (p : Bool) (sz n : Nat)
  | mp (K V : Ty) (es : List (K.den × V.den))
abbrev TEnv := PT TV
abbrev THeap := PT TBlk

def cst : Value → Option TV
  | .int k n => some (.f (.int k) n)
  | .bool b => some (.f .bool b)
  | .string s => some (.f .str s.data.toList)
  | .slice none 0 0 => some .nil
  | _ => none
def csts : List Value → Option (List TV)
  | [] => some []
  | v :: r => match cst v, csts r with | some x, some l => some (x :: l) | _, _ => none
/-- the pieces of a value: as deep as fuel goes -/
def cellsOf : Nat → (T : Ty) → T.den → Option (List TV)
  | 0, _, _ => none
  | n + 1, .st t, v => cellsOf n t v
  | n + 1, .pr a b, v => match cellsOf n a v.1, cellsOf n b v.2 with | some x, some y => some (x ++ y) | _, _ => none
  | _ + 1, .un, _ => some []
  | n + 1, .ex, v => cellsOf n exF (unEx v)
  | n + 1, .sm, v => cellsOf n smF (unSm v)
  | _ + 1, .int k, v => some [.f (.int k) v]
  | _ + 1, .bool, v => some [.f .bool v]
  | _ + 1, .str, v => some [.f .str v]
  | _ + 1, .sl t, v => some [.f (.sl t) v]
def TV.isC : TV → Bool
  | .f T _ => T.one
  | .fel _ _ _ _ _ => true
  | .pel _ _ _ _ => true
  | .ptr _ _ => true
  | .row _ => true
  | .emp => true
  | .nil => true
  | .mp _ => true
  | .clo _ _ => true
  | _ => false
def allC : List TV → Bool
  | [] => true
  | x :: r => x.isC && allC r
def TV.cs (v : TV) : Option (List TV) := match v with
  | .agg l => if allC l then some l else none
  | .f T x => cellsOf 40 T x
  | x => if x.isC then some [x] else none
def bit (i : Nat) : Nat := 1 <<< i
/-- a cell as a value of a type, with the blocks that are read -/
def asC (h : THeap) (T : Ty) : TV → Option (T.den × Nat)
  | .f _ v => match castT T v with | some x => some (x, 0) | none => none
  | .emp => (match T with | .sl _ => some ([], 0) | _ => none)
  | .nil => (match T with | .sl _ => some ([], 0) | _ => none)
  | .row id => match h.get id with
    | some (.rows _ _ S xs) => (match castT (S := .sl S) T xs with | some x => some (x, bit id) | none => none)
    | _ => none
  | _ => none
def packC (h : THeap) : Nat → (T : Ty) → List TV → Option (T.den × Nat × List TV)
  | 0, _, _ => none
  | n + 1, .st t, l => packC h n t l
  | n + 1, .pr a b, l => match packC h n a l with
    | some (x, m, r) => (match packC h n b r with | some (y, m', r') => some ((x, y), m ||| m', r') | none => none)
    | none => none
  | _ + 1, .un, l => some ((), 0, l)
  | n + 1, .ex, l => match packC h n exF l with | some (x, m, r) => some (mkEx x, m, r) | none => none
  | n + 1, .sm, l => match packC h n smF l with | some (x, m, r) => some (mkSm x, m, r) | none => none
  | _ + 1, .int k, l => match l with | c :: r => (match asC h (.int k) c with | some (x, m) => some (x, m, r) | none => none) | [] => none
  | _ + 1, .bool, l => match l with | c :: r => (match asC h .bool c with | some (x, m) => some (x, m, r) | none => none) | [] => none
  | _ + 1, .str, l => match l with | c :: r => (match asC h .str c with | some (x, m) => some (x, m, r) | none => none) | [] => none
  | _ + 1, .sl t, l => match l with | c :: r => (match asC h (.sl t) c with | some (x, m) => some (x, m, r) | none => none) | [] => none
/-- a value as one of a type -/
def asT (h : THeap) (T : Ty) (v : TV) : Option (T.den × Nat) := match v with
  | .agg l => if T.one then none else (match packC h 40 T l with | some (x, m, []) => some (x, m) | _ => none)
  | x => asC h T x
/-- the part of a value at a place -/
def getAt : Nat → (T : Ty) → T.den → Nat → Nat → Bool → Option TV
  | 0, _, _, _, _, _ => none
  | n + 1, .st t, v, off, sz, ag => if Nat.beq off 0 && Nat.beq sz t.size && ag then some (.f (.st t) v) else getAt n t v off sz ag
  | n + 1, .pr a b, v, off, sz, ag => if Nat.blt off a.size then getAt n a v.1 off sz ag else getAt n b v.2 (off - a.size) sz ag
  | _ + 1, .un, _, _, _, _ => none
  | n + 1, .ex, v, off, sz, ag => if Nat.beq off 0 && Nat.beq sz 4 && ag then some (.f .ex v) else getAt n exF (unEx v) off sz ag
  | n + 1, .sm, v, off, sz, ag => if Nat.beq off 0 && Nat.beq sz 11 && ag then some (.f .sm v) else getAt n smF (unSm v) off sz ag
  | _ + 1, .int k, v, off, sz, ag => if Nat.beq off 0 && Nat.beq sz 1 && !ag then some (.f (.int k) v) else none
  | _ + 1, .bool, v, off, sz, ag => if Nat.beq off 0 && Nat.beq sz 1 && !ag then some (.f .bool v) else none
  | _ + 1, .str, v, off, sz, ag => if Nat.beq off 0 && Nat.beq sz 1 && !ag then some (.f .str v) else none
  | _ + 1, .sl t, v, off, sz, ag => if Nat.beq off 0 && Nat.beq sz 1 && !ag then some (.f (.sl t) v) else none
/-- put a value at a place -/
def setAt (h : THeap) (x : TV) : Nat → (T : Ty) → T.den → Nat → Nat → Option (T.den × Nat)
  | 0, _, _, _, _ => none
  | n + 1, .st t, v, off, sz => match (if Nat.beq off 0 && Nat.beq sz t.size then asT h (.st t) x else none) with
    | some y => some y
    | none => setAt h x n t v off sz
  | n + 1, .pr a b, v, off, sz => if Nat.blt off a.size then (match setAt h x n a v.1 off sz with | some (y, m) => some ((y, v.2), m) | none => none) else (match setAt h x n b v.2 (off - a.size) sz with | some (y, m) => some ((v.1, y), m) | none => none)
  | _ + 1, .un, _, _, _ => none
  | n + 1, .ex, v, off, sz => match (if Nat.beq off 0 && Nat.beq sz 4 then asT h .ex x else none) with
    | some y => some y
    | none => (match setAt h x n exF (unEx v) off sz with | some (y, m) => some (mkEx y, m) | none => none)
  | n + 1, .sm, v, off, sz => match (if Nat.beq off 0 && Nat.beq sz 11 then asT h .sm x else none) with
    | some y => some y
    | none => (match setAt h x n smF (unSm v) off sz with | some (y, m) => some (mkSm y, m) | none => none)
  | _ + 1, .int k, _, off, sz => if Nat.beq off 0 && Nat.beq sz 1 then asC h (.int k) x else none
  | _ + 1, .bool, _, off, sz => if Nat.beq off 0 && Nat.beq sz 1 then asC h .bool x else none
  | _ + 1, .str, _, off, sz => if Nat.beq off 0 && Nat.beq sz 1 then asC h .str x else none
  | _ + 1, .sl t, _, off, sz => if Nat.beq off 0 && Nat.beq sz 1 then asC h (.sl t) x else none
def packN (h : THeap) (T : Ty) : Nat → List TV → Option (List T.den × Nat)
  | 0, [] => some ([], 0)
  | 0, _ :: _ => none
  | n + 1, l => match packC h 40 T l with
    | some (x, m, r) => (match packN h T n r with | some (xs, m') => some (x :: xs, m ||| m') | none => none)
    | none => none
/-- the zero cells of a type -/
def zeroV : Ty → List Value
  | .int k => [.int k 0]
  | .bool => [.bool false]
  | .str => [.string ⟨#[]⟩]
  | .sl _ => [.slice none 0 0]
  | .st t => zeroV t
  | .pr a b => zeroV a ++ zeroV b
  | .un => []
  | .ex => [.int .i64 0, .int .i64 0, .string ⟨#[]⟩, .slice none 0 0]
  | .sm => [.int .i64 0, .int .i64 0, .string ⟨#[]⟩, .string ⟨#[]⟩, .slice none 0 0, .int .i64 0, .int .i64 0, .string ⟨#[]⟩, .slice none 0 0, .slice none 0 0, .slice none 0 0]
def beqVs : List Value → List Value → Bool
  | [], [] => true
  | x :: xs, y :: ys => beqV x y && beqVs xs ys
  | _, _ => false
/-- no slice inside -/
def Ty.flat : Ty → Bool
  | .int _ => true
  | .bool => true
  | .str => true
  | .st t => t.flat
  | .pr a b => a.flat && b.flat
  | .un => true
  | _ => false
def descT : List TypeDesc → Option Ty
  | [] => some .un
  | .int k :: r => match descT r with | some t => some (.pr (.int k) t) | none => none
  | .bool :: r => match descT r with | some t => some (.pr .bool t) | none => none
  | .string :: r => match descT r with | some t => some (.pr .str t) | none => none
  | _ => none

/-! patterns of values, of blocks -/
inductive PV where
  | d (T : Ty)
  | ptr (id off : Nat)
  | row (id : Nat)
  | mp (id : Nat)
  | nil
  | emp
  | agg (l : List PV)
inductive PB where
  | rows (ty : TypeId) (p : Bool) (T : Ty)
  | cells (ty : TypeId) (l : List PV)
  | mp (K V : Ty)
  | gone
mutual
def PV.ty : PV → Ty
  | .d T => T
  | .agg l => PV.tyL l
  | .ptr _ _ => .un
  | .row _ => .un
  | .mp _ => .un
  | .nil => .un
  | .emp => .un
def PV.tyL : List PV → Ty
  | [] => .un
  | p :: r => spr p.ty (PV.tyL r)
end
def PB.ty : PB → Ty
  | .rows _ _ T => .sl T
  | .cells _ l => PV.tyL l
  | .mp K V => .sl (.pr K V)
  | .gone => .un
def PB.tyL : List PB → Ty
  | [] => .un
  | p :: r => spr p.ty (PB.tyL r)
/-- values and blocks; the blocks are numbered from 0 on -/
structure Tm where
  vs : List PV
  bs : List PB
def Tm.ty (t : Tm) : Ty := spr (PV.tyL t.vs) (PB.tyL t.bs)

mutual
def getC (g : Nat → Nat) (h : THeap) : (p : PV) → List TV → Option (p.ty.den × Nat × List TV)
  | .d T, l => packC h 40 T l
  | .ptr i o, l => match l with | .ptr i' o' :: r => if Nat.beq (g i) i' && Nat.beq o o' then some ((), 0, r) else none | _ => none
  | .row i, l => match l with | .row i' :: r => if Nat.beq (g i) i' then some ((), 0, r) else none | _ => none
  | .mp i, l => match l with | .mp i' :: r => if Nat.beq (g i) i' then some ((), 0, r) else none | _ => none
  | .nil, l => match l with | .nil :: r => some ((), 0, r) | _ => none
  | .emp, l => match l with | .nil :: r => some ((), 0, r) | .emp :: r => some ((), 0, r) | _ => none
  | .agg ps, l => getCs g h ps l
def getCs (g : Nat → Nat) (h : THeap) : (ps : List PV) → List TV → Option ((PV.tyL ps).den × Nat × List TV)
  | [], l => some ((), 0, l)
  | p :: r, l => match getC g h p l with
    | some (x, m, l') => (match getCs g h r l' with | some (y, m', l'') => some (mkp p.ty (PV.tyL r) x y, m ||| m', l'') | none => none)
    | none => none
end
def getV (g : Nat → Nat) (h : THeap) : (p : PV) → TV → Option (p.ty.den × Nat)
  | .d T, v => asT h T v
  | .agg ps, v => if v.isC then none else (match v.cs with
    | some l => (match getCs g h ps l with | some (x, m, []) => some (x, m) | _ => none)
    | none => none)
  | .ptr i o, v => match getC g h (.ptr i o) [v] with | some (x, m, _) => some (x, m) | none => none
  | .row i, v => match getC g h (.row i) [v] with | some (x, m, _) => some (x, m) | none => none
  | .mp i, v => match getC g h (.mp i) [v] with | some (x, m, _) => some (x, m) | none => none
  | .nil, v => match getC g h .nil [v] with | some (x, m, _) => some (x, m) | none => none
  | .emp, v => match getC g h .emp [v] with | some (x, m, _) => some (x, m) | none => none
def getVs (g : Nat → Nat) (h : THeap) : (ps : List PV) → List TV → Option ((PV.tyL ps).den × Nat)
  | [], [] => some ((), 0)
  | p :: r, v :: vs => match getV g h p v with
    | some (x, m) => (match getVs g h r vs with | some (y, m') => some (mkp p.ty (PV.tyL r) x y, m ||| m') | none => none)
    | none => none
  | [], _ :: _ => none
  | _ :: _, [] => none
def getB (g : Nat → Nat) (h : THeap) (i : Nat) : (b : PB) → Option (b.ty.den × Nat)
  | .rows ty p T => match h.get (g i) with
    | some (.rows ty' p' S xs) => if ty == ty' && p == p' then (match castT (S := .sl S) (.sl T) xs with | some x => some (x, 0) | none => none) else none
    | _ => none
  | .cells ty ps => match h.get (g i) with
    | some (.cells ty' l) => if ty == ty' then (match getCs g h ps l with | some (x, m, []) => some (x, m) | _ => none) else none
    | _ => none
  | .mp K V => match h.get (g i) with
    | some (.mp K' V' es) => (match castT (S := .sl (.pr K' V')) (.sl (.pr K V)) es with | some x => some (x, 0) | none => none)
    | _ => none
  | .gone => some ((), 0)
def getBs (g : Nat → Nat) (h : THeap) : Nat → (bs : List PB) → Option ((PB.tyL bs).den × Nat)
  | _, [] => some ((), 0)
  | i, b :: r => match getB g h i b with
    | some (x, m) => (match getBs g h (i + 1) r with | some (y, m') => some (mkp b.ty (PB.tyL r) x y, m ||| m') | none => none)
    | none => none

mutual
def putC (g : Nat → Nat) : (p : PV) → p.ty.den → Option (List TV)
  | .d T, x => cellsOf 40 T x
  | .ptr i o, _ => some [.ptr (g i) o]
  | .row i, _ => some [.row (g i)]
  | .mp i, _ => some [.mp (g i)]
  | .nil, _ => some [.nil]
  | .emp, _ => some [.emp]
  | .agg ps, x => putCs g ps x
def putCs (g : Nat → Nat) : (ps : List PV) → (PV.tyL ps).den → Option (List TV)
  | [], _ => some []
  | p :: r, x => match putC g p (fsp p.ty (PV.tyL r) x) with
    | some a => (match putCs g r (snp p.ty (PV.tyL r) x) with | some b => some (a ++ b) | none => none)
    | none => none
end
def putV (g : Nat → Nat) : (p : PV) → p.ty.den → Option TV
  | .d T, x => some (.f T x)
  | .ptr i o, _ => some (.ptr (g i) o)
  | .row i, _ => some (.row (g i))
  | .mp i, _ => some (.mp (g i))
  | .nil, _ => some .nil
  | .emp, _ => some .emp
  | .agg ps, x => match putCs g ps x with | some l => some (.agg l) | none => none
def putVs (g : Nat → Nat) : (ps : List PV) → (PV.tyL ps).den → Option (List TV)
  | [], _ => some []
  | p :: r, x => match putV g p (fsp p.ty (PV.tyL r) x) with
    | some a => (match putVs g r (snp p.ty (PV.tyL r) x) with | some b => some (a :: b) | none => none)
    | none => none
/-- the block of a pattern; a block that is gone leaves what was there as dead -/
def putB (g : Nat → Nat) : (b : PB) → b.ty.den → Option (Option TBlk)
  | .rows ty p T, x => some (some (.rows ty p T x))
  | .cells ty ps, x => match putCs g ps x with | some l => some (some (.cells ty l)) | none => none
  | .mp K V, x => some (some (.mp K V x))
  | .gone, _ => some none
def killB : TBlk → TBlk
  | .rows _ p T xs => .dead p T.size xs.length
  | .cells _ _ => .dead true 0 0
  | .mp _ _ _ => .dead true 0 0
  | .dead p sz n => .dead p sz n
def kill (h : THeap) (i : Nat) : THeap := match h.get i with
  | some b => h.set i (some (killB b))
  | none => h
def putBl (g : Nat → Nat) : (bs : List PB) → (PB.tyL bs).den → Option (List (Option TBlk))
  | [], _ => some []
  | b :: r, x => match putB g b (fsp b.ty (PB.tyL r) x) with
    | some c => (match putBl g r (snp b.ty (PB.tyL r) x) with | some l => some (c :: l) | none => none)
    | none => none
def layH (g : Nat → Nat) : Nat → List (Option TBlk) → THeap → THeap
  | _, [], h => h
  | i, some c :: r, h => layH g (i + 1) r (h.set (g i) (some c))
  | i, none :: r, h => layH g (i + 1) r (kill h (g i))
def putBs (g : Nat → Nat) (bs : List PB) (x : (PB.tyL bs).den) (h : THeap) : Option THeap := match putBl g bs x with
  | some l => some (layH g 0 l h)
  | none => none

/-! maps; a package-level variable -/
def mfind {K V : Ty} (k : K.den) : List (K.den × V.den) → Option V.den
  | [] => none
  | (k', v) :: r => if eqT K k k' then some v else mfind k r
def mput {K V : Ty} (k : K.den) (v : V.den) : List (K.den × V.den) → List (K.den × V.den)
  | [] => [(k, v)]
  | (k', v') :: r => if eqT K k k' then (k, v) :: r else (k', v') :: mput k v r

def mgetD {K V : Ty} (k : K.den) (es : List (K.den × V.den)) (z : V.den) : V.den := match mfind k es with | some v => v | none => z
/-- the words of token.keywords -/
def prsT (T : Ty) : Nat → Ty
  | 0 => .un
  | 1 => T
  | n + 2 => .pr T (prsT T (n + 1))
def kwT : Ty := .st (prsT .str 22)
def kwV : kwT.den := ([118, 97, 114], [118, 111, 108, 97, 116, 105, 108, 101], [109, 117, 116, 101, 120], [114, 119, 108, 111, 99, 107], [99, 111, 110, 100], [102, 117, 116, 117, 114, 101], [116, 104, 114, 101, 97, 100], [105, 102], [101, 108, 115, 101], [119, 104, 105, 108, 101], [108, 111, 99, 107], [114, 101, 97, 100], [119, 114, 105, 116, 101], [116, 114, 97, 110, 115, 97, 99, 116, 105, 111, 110], [97, 116, 111, 109, 105, 99], [119, 97, 105, 116], [110, 111, 116, 105, 102, 121], [110, 111, 116, 105, 102, 121, 97, 108, 108], [115, 112, 97, 119, 110], [106, 111, 105, 110], [115, 101, 116], [103, 101, 116])
end Go.Proofs.YtjjplipoacljoaaDoor.AI
namespace Go.Proofs.YtjjplipoacljoaaDoor.AI
open Go.RowKit

structure Con where
  pre : Tm
  post : Tm
  m : pre.ty.den → Option post.ty.den

/-! which block is which -/
mutual
def bindC : PV → List TV → PT Nat → PT Nat × List TV
  | .d T, l, σ => (σ, l.drop T.size)
  | .ptr i _, l, σ => match l with | .ptr a _ :: r => (σ.set i (some a), r) | l => (σ, l.drop 1)
  | .row i, l, σ => match l with | .row a :: r => (σ.set i (some a), r) | l => (σ, l.drop 1)
  | .mp i, l, σ => match l with | .mp a :: r => (σ.set i (some a), r) | l => (σ, l.drop 1)
  | .nil, l, σ => (σ, l.drop 1)
  | .emp, l, σ => (σ, l.drop 1)
  | .agg ps, l, σ => bindCs ps l σ
def bindCs : List PV → List TV → PT Nat → PT Nat × List TV
  | [], l, σ => (σ, l)
  | p :: r, l, σ => match bindC p l σ with | (σ', l') => bindCs r l' σ'
end
def bindV (p : PV) (v : TV) (σ : PT Nat) : PT Nat := match p with
  | .d _ => σ
  | p => match v.cs with | some l => (bindC p l σ).1 | none => σ
def bindVs : List PV → List TV → PT Nat → PT Nat
  | p :: r, v :: vs, σ => bindVs r vs (bindV p v σ)
  | _, _, σ => σ
def bindBs (h : THeap) : Nat → List PB → PT Nat → PT Nat
  | _, [], σ => σ
  | i, b :: r, σ => bindBs h (i + 1) r (match b with
    | .cells _ ps => (match σ.get i with
      | some a => (match h.get a with | some (.cells _ l) => (bindCs ps l σ).1 | _ => σ)
      | none => σ)
    | _ => σ)
def gOf (σ : PT Nat) (i : Nat) : Nat := match σ.get i with | some a => a | none => 0
def sigM (σ : PT Nat) : Nat → Nat → Nat → Option Nat
  | 0, _, acc => some acc
  | n + 1, i, acc => match σ.get i with
    | some a => if Nat.testBit acc a then none else sigM σ n (i + 1) (acc ||| bit a)
    | none => none
def idn : Nat → PT Nat
  | 0 => .leaf
  | n + 1 => (idn n).set n (some n)
def fixed (σ : PT Nat) : Nat → Bool
  | 0 => true
  | n + 1 => (match σ.get n with | some a => Nat.beq a n | none => false) && fixed σ n
structure Match (t : Tm) where
  x : t.ty.den
  m : Nat
  σ : PT Nat
  sm : Nat
def matchT (np : Nat) (t : Tm) (vs : List TV) (h : THeap) : Option (Match t) :=
  frcP (bindBs h 0 t.bs (bindBs h 0 t.bs (bindVs t.vs vs (idn np)))) fun σ =>
  match sigM σ t.bs.length 0 0 with
  | some sm => (match getVs (gOf σ) h t.vs vs with
    | some (x, m) => (match getBs (gOf σ) h 0 t.bs with
      | some (y, m') => if disjM (m ||| m') sm && fixed σ np then some ⟨mkp _ _ x y, m ||| m', σ, sm⟩ else none
      | none => none)
    | none => none)
  | none => none

/-! heaps -/
def PT.updI {α : Type} (f : Nat → α → α) : Nat → Nat → PT α → PT α
  | _, _, .leaf => .leaf
  | a, b, .node v l r => .node (match v with | some x => some (f b x) | none => none) (PT.updI f (2 * a) (a + b) l) (PT.updI f (2 * a) (2 * a + b) r)
def killM (m : Nat) (h : THeap) : THeap := if Nat.beq m 0 then h else PT.updI (fun i b => if Nat.testBit m i then killB b else b) 1 0 h

def opnd (e : TEnv) : Operand → Option TV
  | .tmp t => e.get t
  | .const v => cst v
  | .func g => some (.clo g [])
  | .global g => match G g with | some _ => some (.fel kwT [kwV] 0 (Eq.refl true) 0) | none => none
def opnds (e : TEnv) : List Operand → Option (List TV)
  | [] => some []
  | x :: xs => match opnd e x with | some y => (match opnds e xs with | some ys => some (y :: ys) | none => none) | none => none
def fillT (cells : List TV) (e : TEnv) : List (Nat × Nat × Operand) → Option (List TV)
  | [] => some cells
  | (off, sz, x) :: r => match opnd e x with
    | some v => (match v.cs with
      | some cs => if cs.length == sz && Nat.ble (off + sz) cells.length then fillT (splice cells off cs) e r else none
      | none => none)
    | none => none
def subL (l : List TV) (off sz : Nat) : Bool → Option TV
  | false => if Nat.beq sz 1 then l[off]? else none
  | true => if Nat.ble (off + sz) l.length then some (.agg ((l.drop off).take sz)) else none
def rowOf (h : THeap) (id : Nat) : Option (Bool × Nat × Nat) := match h.get id with
  | some (.rows _ p T xs) => some (p, T.size, xs.length)
  | some (.dead p sz n) => some (p, sz, n)
  | _ => none
def lenOf (h : THeap) : TV → Option Nat
  | .f (.sl _) xs => some (List.length xs)
  | .emp => some 0
  | .nil => some 0
  | .row id => match rowOf h id with | some (_, _, n) => some n | none => none
  | _ => none
/-! the rows that a value names are there -/
mutual
def okV (h : THeap) : TV → Bool
  | .row id => (rowOf h id).isSome
  | .agg l => okVs h l
  | .tup l => okVs h l
  | .clo _ l => okVs h l
  | .f _ _ => true
  | .fel _ _ _ _ _ => true
  | .pel _ _ _ _ => true
  | .ptr _ _ => true
  | .emp => true
  | .nil => true
  | .mp _ => true
  | .undef => true
  | .anyb => true
def okVs (h : THeap) : List TV → Bool
  | [] => true
  | x :: r => okV h x && okVs h r
end

/-! the names of a value are below n -/
mutual
def ltV (n : Nat) : TV → Bool
  | .row id => Nat.blt id n
  | .pel id _ _ _ => Nat.blt id n
  | .ptr id _ => Nat.blt id n
  | .mp id => Nat.blt id n
  | .agg l => ltVs n l
  | .tup l => ltVs n l
  | .clo _ l => ltVs n l
  | .f _ _ => true
  | .fel _ _ _ _ _ => true
  | .emp => true
  | .nil => true
  | .undef => true
  | .anyb => true
def ltVs (n : Nat) : List TV → Bool
  | [] => true
  | x :: r => ltV n x && ltVs n r
end
/-- a pattern with its data: values and blocks -/
def instT (t : Tm) (x : t.ty.den) : Option (List TV × THeap) :=
  match putVs (fun i => i) t.vs (fsp _ _ x) with
  | some vs => (match putBs (fun i => i) t.bs (snp _ _ x) PT.leaf with
    | some h => if okVs h vs && ltVs t.bs.length vs && PT.all (fun _ b => match b with | .cells _ l => okVs h l && ltVs t.bs.length l | _ => true) 1 0 h then some (vs, h) else none
    | none => none)
  | none => none

abbrev KO (R : Type) := TV → Nat → Nat → THeap → Nat → Option R
def resT : List TV → TV
  | [x] => x
  | l => .tup l
def noGone : List PB → Bool
  | [] => true
  | .gone :: _ => false
  | _ :: r => noGone r
def allRows : List PB → Bool
  | [] => true
  | .rows _ _ _ :: r => allRows r
  | _ :: _ => false
/-- rows that are handed in and come back keep their length -/
def sameRows (h h2 : THeap) (g : Nat → Nat) : Nat → Bool
  | 0 => true
  | n + 1 => (match rowOf h (g n) with
    | some (p, s, k) => (match rowOf h2 (g n) with | some (p', s', k') => (p == p') && Nat.beq s s' && Nat.beq k k' | none => false)
    | none => true) && sameRows h h2 g n
def callK {R : Type} (con : FuncId → Option Con) (f : FuncId) (l : List TV) (h : THeap) (nx : Nat) (K : KO R) : Option R :=
  match con f with
  | some c => (match matchT 0 c.pre l h with
    | some ⟨x, m, σ, sm⟩ => (match instT c.pre x with
      | some _ => obind (c.m x) fun y => (match instT c.post y with
        | some _ => if Nat.ble c.pre.bs.length c.post.bs.length && noGone c.pre.bs then
            let np := c.pre.bs.length
            let nn := c.post.bs.length - np
            let g := fun i => if Nat.blt i np then gOf σ i else nx + (i - np)
            (match putVs g c.post.vs (fsp _ _ y) with
            | some rs => if !(Nat.beq m 0) && Nat.beq c.post.bs.length 0 && (PV.tyL c.post.vs).flat then K (resT rs) m 0 h nx else
              (match putBs g c.post.bs (snp _ _ y) (killM m h) with
              | some h2 => chk (sameRows h h2 g np) fun _ => K (resT rs) (sm ||| m) (sm ||| m ||| (((1 <<< nn) - 1) <<< nx)) h2 (nx + nn)
              | none => none)
            | none => none) else if Nat.beq c.post.bs.length 0 && allRows c.pre.bs then
            -- the rows are only read
            let np := c.pre.bs.length
            let g := fun i => if Nat.blt i np then gOf σ i else nx + (i - np)
            (match putVs g c.post.vs (fsp _ _ y) with
            | some rs => (match putBs g c.pre.bs (snp _ _ x) (killM m h) with
              | some h2 => K (resT rs) (sm ||| m) m h2 nx
              | none => none)
            | none => none) else none
        | none => none)
      | none => none)
    | none => none)
  | none => none

def binK {R : Type} (op : BinOp) (x y : TV) (q : TV → Option R) : Option R :=
  match x, y with
  | .f (.int k) a, .f (.int k') b => if k == k' then
      (match op with
      | .add => q (.f (.int k) (wrapK k (a + b)))
      | .sub => q (.f (.int k) (wrapK k (a - b)))
      | .mul => q (.f (.int k) (wrapK k (a * b)))
      | .rem => chk (!decide ((b : Int) = 0)) fun _ => q (.f (.int k) (Int.tmod a b))
      | .quo => chk (!decide ((b : Int) = 0)) fun _ => q (.f (.int k) (wrapK k (Int.tdiv a b)))
      | .eql => q (.f .bool (decide ((a : Int) = b)))
      | .neq => q (.f .bool (!decide ((a : Int) = b)))
      | .lss => q (.f .bool (ilt a b))
      | .leq => q (.f .bool (ile a b))
      | .gtr => q (.f .bool (ilt b a))
      | .geq => q (.f .bool (ile b a))
      | _ => none)
    else none
  | .f .str a, .f .str b => match op with
      | .eql => q (.f .bool (decide ((a : List UInt8) = b)))
      | .neq => q (.f .bool (!decide ((a : List UInt8) = b)))
      | _ => none
  | _, _ => none

def keyT : Bool → Ty → Bool
  | false, .int _ => true
  | true, .str => true
  | _, _ => false
/-- a map of which nothing is known but that it is empty -/
def mpE : (K V : Ty) → List (K.den × V.den) → Bool
  | .un, .un, [] => true
  | _, _, _ => false
/-- the elements of an array of cells of one type -/
def arrL (T : Ty) : List TV → Option (List T.den)
  | [] => some []
  | .f S v :: r => match castT (S := S) T v with
    | some x => (match arrL T r with | some l => some (x :: l) | none => none)
    | none => none
  | _ :: _ => none
def arrT : List TV → Option ((T : Ty) × List T.den)
  | .f T v :: r => match arrL T (.f T v :: r) with | some l => some ⟨T, l⟩ | none => none
  | _ => none
def idxA (n sz : Nat) (v : TV) : Bool → Option ((T : Ty) × List T.den)
  | true => none
  | false => if Nat.beq sz 1 && !v.isC then (match v.cs with | some l => if Nat.beq l.length n then arrT l else none | none => none) else none
/-- a block that is an array of cells of one type -/
def arrB (n sz off : Nat) : Option TBlk → Option ((T : Ty) × List T.den)
  | some (.cells _ l) => if Nat.beq sz 1 && Nat.beq off 0 && Nat.beq l.length n then arrT l else none
  | _ => none
def topK {R : Type} (con : FuncId → Option Con) (tyv : TypeId → Option Ty) (o : SI) (e : TEnv) (h : THeap) (nx : Nat) (K : KO R) : Option R :=
  match o with
  | .call f args => match opnds e args with | some l => callK con f l h nx K | none => none
  | .callv x args => match opnd e x, opnds e args with
    | some (.clo f cap), some l => callK con f (l ++ cap) h nx K
    | _, _ => none
  | .op s => match s with
    | .mksl ty sz bytes z l c => match tyv ty, opnd e l, opnd e c with
      | some T, some (.f (.int _) a), some (.f (.int _) b) => if Nat.beq sz T.size && beqVs z (zeroV T) then
          chk (ile 0 a && ile a b && roomy (Int.toNat b) bytes) fun _ => K (.row nx) 0 (bit nx) (h.set nx (some (.rows ty false T (List.replicate (Int.toNat a) T.zero)))) (nx + 1) else none
      | _, _, _ => none
    | .bsl ty sz len z parts => match tyv ty, csts z with
      | some T, some zc => if Nat.beq sz T.size then (match fillT ((List.replicate len zc).flatten) e parts with
        | some cs => (match packN h T len cs with
          | some (xs, m) => K (.row nx) m (m ||| bit nx) ((killM m h).set nx (some (.rows ty (Nat.beq len 0) T xs))) (nx + 1)
          | none => none)
        | none => none) else none
      | _, _ => none
    | .app ty sz bytes s x => match tyv ty, opnd e s, opnd e x with
      | some T, some b, some y => if Nat.beq sz T.size then (match asT h (.sl T) y with
        | some (ys, m) => (match b with
          | .row id => (match h.get id with
            | some (.rows ty' p S xs) => (match castT (S := .sl S) (.sl T) xs with
              | some xs => if ty' == ty && !(Nat.testBit m id) then
                  chk (roomy (List.length xs + List.length ys) bytes) fun _ => K (.row nx) (bit id ||| m) (bit id ||| bit nx) ((h.set id (some (.dead p sz (List.length xs)))).set nx (some (.rows ty p T (xs ++ ys)))) (nx + 1)
                else none
              | none => none)
            | _ => none)
          | .emp => chk (roomy (List.length ys) bytes) fun _ => K (.row nx) m (bit nx) (h.set nx (some (.rows ty true T ys))) (nx + 1)
          | .nil => chk (roomy (List.length ys) bytes) fun _ => K (.row nx) m (bit nx) (h.set nx (some (.rows ty true T ys))) (nx + 1)
          | _ => none)
        | none => none) else none
      | _, _, _ => none
    | .copy sz d x => match opnd e d, opnd e x with
      | some (.row id), some y => (match h.get id with
        | some (.rows ty p T xs) => if Nat.beq sz T.size then (match asT h (.sl T) y with
          | some (ys, m) => if !(Nat.testBit m id) && !p then
              K (.f (.int .i64) (Int.ofNat (Nat.min (List.length ys) (List.length xs)))) (bit id ||| m) (bit id) (h.set id (some (.rows ty p T (cpy xs ys)))) nx else none
          | none => none) else none
        | _ => none)
      | _, _ => none
    | .mv x => match opnd e x with | some v => K v 0 0 h nx | none => none
    | .pick c a b => match opnd e c with
      | some (.f .bool t) => bcase t (match opnd e a with | some v => K v 0 0 h nx | none => none) (match opnd e b with | some v => K v 0 0 h nx | none => none)
      | _ => none
    | .alloc ty z => match csts z with
      | some l => K (.ptr nx 0) 0 (bit nx) (h.set nx (some (.cells ty l))) (nx + 1)
      | none => none
    | .box ty x => match opnd e x with
      | some v => (match v.cs with | some l => K (.ptr nx 0) 0 (bit nx) (h.set nx (some (.cells ty l))) (nx + 1) | none => none)
      | none => none
    | .build z parts => match csts z with
      | some l => (match fillT l e parts with | some cs => K (.agg cs) 0 0 h nx | none => none)
      | none => none
    | .load sz ag x => match opnd e x with
      | some (.ptr id off) => (match h.get id with
        | some (.cells _ l) => (match subL l off sz ag with | some v => K v (bit id) 0 h nx | none => none)
        | _ => none)
      | some (.pel id sz' j off) => (match h.get id with
        | some (.rows _ _ T xs) => if Nat.beq sz' T.size then chk (inB j xs.length) fun _ => (match getAt 40 T (geti xs j) off sz ag with | some v => K v (bit id) 0 h nx | none => none) else none
        | some (.cells _ l) => (match ag with
          | true => none
          | false => if Nat.beq sz 1 && Nat.beq sz' 1 && Nat.beq off 0 then (match arrT l with
            | some ⟨T, xs⟩ => chk (inB j l.length) fun _ => K (.f T (geti xs j)) (bit id) 0 h nx
            | none => none) else none)
        | _ => none)
      | some (.fel T xs j _ off) => (match getAt 40 T (geti xs j) off sz ag with | some v => K v 0 0 h nx | none => none)
      | _ => none
    | .store sz x v => match opnd e x, opnd e v with
      | some (.ptr id off), some y => (match h.get id with
        | some (.cells ty l) => (match y.cs with
          | some cs => if cs.length == sz && Nat.ble (off + sz) l.length then K .undef (bit id) (bit id) (h.set id (some (.cells ty (splice l off cs)))) nx else none
          | none => none)
        | _ => none)
      | some (.pel id sz' j off), some y => (match h.get id with
        | some (.rows ty p T xs) => if Nat.beq sz' T.size then chk (inB j xs.length) fun _ => (match setAt h y 40 T (geti xs j) off sz with
          | some (z, m) => if Nat.testBit m id then none else K .undef (m ||| bit id) (m ||| bit id) ((killM m h).set id (some (.rows ty p T (seti xs j z)))) nx
          | none => none) else none
        | _ => none)
      | _, _ => none
    | .nilc x => match opnd e x with
      | some (.ptr id off) => K (.ptr id off) 0 0 h nx
      | some (.pel id sz j off) => K (.pel id sz j off) 0 0 h nx
      | some (.fel T xs j hj off) => K (.fel T xs j hj off) 0 0 h nx
      | some (.clo g cap) => K (.clo g cap) 0 0 h nx
      | _ => none
    | .bin op x y => match opnd e x, opnd e y with
      | some u, some v => binK op u v fun r => K r 0 0 h nx
      | _, _ => none
    | .eqs neg ds x y => match descT ds, opnd e x, opnd e y with
      | some T, some u, some v => if u.isC || v.isC then none else (match u.cs, v.cs with
        | some lu, some lv => (match packC PT.leaf 40 T lu, packC PT.leaf 40 T lv with
          | some (a, _, []), some (b, _, []) => K (.f .bool (eqT T a b != neg)) 0 0 h nx
          | _, _ => none)
        | _, _ => none)
      | _, _, _ => none
    | .isnil neg x => match opnd e x with
      | some .nil => K (.f .bool (!neg)) 0 0 h nx
      | some .emp => K .anyb 0 0 h nx
      | some (.f (.sl _) xs) => bcase (Nat.beq (List.length xs) 0) (K .anyb 0 0 h nx) (K (.f .bool neg) 0 0 h nx)
      | some (.row id) => (match h.get id with
        | some (.rows _ false _ _) => K (.f .bool neg) 0 0 h nx
        | _ => none)
      | _ => none
    | .eqb neg x y => match opnd e x, opnd e y with
      | some (.f .bool a), some (.f .bool b) => K (.f .bool ((a == b) != neg)) 0 0 h nx
      | _, _ => none
    | .not x => match opnd e x with | some (.f .bool b) => K (.f .bool (!b)) 0 0 h nx | _ => none
    | .conv k x => match opnd e x with | some (.f (.int _) n) => K (.f (.int k) (wrapK k n)) 0 0 h nx | _ => none
    | .slc _ x lo hi mx => match opnd e x with
      | some v => (match lo, hi, mx with
        | none, some (.const (.int _ 0)), some (.const (.int _ 0)) => if (lenOf h v).isSome then K .emp 0 0 h nx else none
        | _, _, _ => none)
      | none => none
    | .fad off x => match opnd e x with
      | some (.ptr id o) => K (.ptr id (o + off)) 0 0 h nx
      | some (.pel id sz j o) => K (.pel id sz j (o + off)) 0 0 h nx
      | some (.fel T xs j hj o) => K (.fel T xs j hj (o + off)) 0 0 h nx
      | _ => none
    | .fld off sz ag x => match opnd e x with
      | some (.agg l) => (match subL l off sz ag with | some v => K v 0 0 h nx | none => none)
      | some (.f T v) => if T.one then none else (match getAt 40 T v off sz ag with | some v => K v 0 0 h nx | none => none)
      | _ => none
    | .iad sz x i => match opnd e x, opnd e i with
      | some (.row id), some (.f (.int _) j) => (match h.get id with
        | some (.rows _ _ T xs) => if Nat.beq sz T.size then chk (inB j xs.length) fun _ => K (.pel id sz j 0) 0 0 h nx else none
        | _ => none)
      | some (.f (.sl T) xs), some (.f (.int _) j) => if Nat.beq sz T.size then chk (inB j (List.length xs)) fun hj => K (.fel T xs j hj 0) 0 0 h nx else none
      | _, _ => none
    | .iada n sz x i => match opnd e x, opnd e i with
      | some (.ptr id off), some (.f (.int _) j) => (match arrB n sz off (h.get id) with
        | some _ => chk (ile 0 j && ilt j n) fun _ => K (.pel id sz j off) 0 0 h nx
        | none => chk (ile 0 j && ilt j n) fun _ => K (.ptr id (off + Int.toNat j * sz)) 0 0 h nx)
      | _, _ => none
    | .idx n sz ag x i => match opnd e x, opnd e i with
      | some v, some (.f (.int _) j) => (match idxA n sz v ag with
        | some ⟨T, xs⟩ => chk (ile 0 j && ilt j n) fun _ => K (.f T (geti xs j)) 0 0 h nx
        | none => (match v with
          | .agg l => chk (ile 0 j && ilt j n) fun _ => (match subL l (Int.toNat j * sz) sz ag with | some v => K v 0 0 h nx | none => none)
          | .f T v => if T.one then none else chk (ile 0 j && ilt j n) fun _ => (match getAt 40 T v (Int.toNat j * sz) sz ag with | some v => K v 0 0 h nx | none => none)
          | _ => none))
      | _, _ => none
    | .ext x i => match opnd e x with | some (.tup l) => (match l[i]? with | some v => K v 0 0 h nx | none => none) | _ => none
    | .len x => match opnd e x with
      | some v => (match lenOf h v with | some n => K (.f (.int .i64) (Int.ofNat n)) 0 0 h nx | none => none)
      | none => none
    | .lens x => match opnd e x with
      | some (.f .str s) => K (.f (.int .i64) (Int.ofNat (List.length s))) 0 0 h nx
      | _ => none
    | .max x y => match opnd e x, opnd e y with
      | some (.f (.int k) a), some (.f (.int k') b) => if k == k' then K (.f (.int k) (imax a b)) 0 0 h nx else none
      | _, _ => none
    | .mkm => K (.mp nx) 0 (0 ||| bit nx) ((killM 0 h).set nx (some (.mp .un .un []))) (nx + 1)
    | .lku str z x k => match opnd e x, opnd e k with
      | some (.mp id), some (.f KT kv) => (match h.get id with
        | some (.mp K' V es) => if keyT str KT then (match mpE K' V es with
          | true => (match cst z with | some v => K v (bit id) 0 h nx | none => none)
          | false => (match castT (S := KT) K' kv, cst z with
            | some kv', some (.f Z zv) => (match castT (S := Z) V zv with
              | some zv' => K (.f V (mgetD kv' es zv')) (bit id) 0 h nx
              | none => none)
            | _, _ => none)) else none
        | _ => none)
      | _, _ => none
    | .mup str x k v => match opnd e x, opnd e k, opnd e v with
      | some (.mp id), some (.f KT kv), some (.f VT vv) => (match h.get id with
        | some (.mp K' V es) => if keyT str KT && VT.one then (match mpE K' V es with
          | true => K .undef (bit id) (0 ||| bit id) ((killM 0 h).set id (some (.mp KT VT [(kv, vv)]))) nx
          | false => (match castT (S := KT) K' kv, castT (S := VT) V vv with
            | some kv', some vv' => K .undef (bit id) (0 ||| bit id) ((killM 0 h).set id (some (.mp K' V (mput kv' vv' es)))) nx
            | _, _ => none)) else none
        | _ => none)
      | _, _, _ => none
    | .lenm x => match opnd e x with
      | some (.mp id) => (match h.get id with
        | some (.mp _ _ es) => K (.f (.int .i64) (Int.ofNat es.length)) (bit id) 0 h nx
        | _ => none)
      | _ => none
    | .mkf f caps => match opnds e caps with | some l => K (.clo f l) 0 0 h nx | none => none
    | _ => none

/-- is the operation carried out? the guard's slot is known behind -/
def wantK {R : Type} (e : TEnv) (g : Option (Nat × Bool)) (K : Bool → TEnv → Option R) : Option R := match g with
  | none => K true e
  | some (t, want) => match e.get t with
    | some (.f .bool b) => (match want with
      | true => bcase b (K true (e.set t (some (.f .bool true)))) (K false (e.set t (some (.f .bool false))))
      | false => bcase b (K false (e.set t (some (.f .bool true)))) (K true (e.set t (some (.f .bool false)))))
    | some .undef => K false e
    | _ => none
def putT (e : TEnv) (d : Option Nat) (v : TV) : TEnv := match d with
  | none => e
  | some d => e.set d (some v)
structure TS where
  e : TEnv
  h : THeap
  nx : Nat
def opsK {R : Type} (con : FuncId → Option Con) (tyv : TypeId → Option Ty) : List SOper → TS → List FPm → (TS → List FPm → Option R) → Option R
  | [], s, fs, K => K s fs.reverse
  | o :: r, s, fs, K => wantK s.e o.guard fun run e => match run with
    | true => topK con tyv o.op e s.h s.nx fun v rd wr h nx => if okV h v then opsK con tyv r ⟨putT e o.dst v, h, nx⟩ (⟨rd, wr⟩ :: fs) K else none
    | false => opsK con tyv r ⟨putT e o.dst .undef, s.h, s.nx⟩ (⟨0, 0⟩ :: fs) K

/-! a change of view -/
inductive Adj where
  | nil (k : Nat) (ty : TypeId) (T : Ty)
  | cel (k : Nat) (off : Nat) (ty : TypeId) (T : Ty)
  | mpt (k : Nat) (K V : Ty)
def isNl : TV → Bool
  | .nil => true
  | .emp => true
  | _ => false
def adj1 (s : TS) : Adj → Option TS
  | .nil k ty T => match s.e.get k with
    | some v => if isNl v then some ⟨s.e.set k (some (.row s.nx)), s.h.set s.nx (some (.rows ty true T [])), s.nx + 1⟩ else some s
    | none => none
  | .cel k off ty T => match s.e.get k with
    | some (.ptr id o) => (match s.h.get id with
      | some (.cells cty l) => (match l[o + off]? with
        | some v => if isNl v then some ⟨s.e, (s.h.set s.nx (some (.rows ty true T []))).set id (some (.cells cty (splice l (o + off) [.row s.nx]))), s.nx + 1⟩ else some s
        | none => none)
      | _ => none)
    | _ => none
  | .mpt k K V => match s.e.get k with
    | some (.mp id) => (match s.h.get id with
      | some (.mp K' V' es) => (match mpE K' V' es with
        | true => some ⟨s.e, s.h.set id (some (.mp K V [])), s.nx⟩
        | false => some s)
      | _ => none)
    | _ => none
def adjs (s : TS) : List Adj → Option TS
  | [] => some s
  | a :: r => match adj1 s a with | some s' => adjs s' r | none => none

/-! what is known at a place where ways meet -/
structure Ann where
  keep : List Nat
  ks : List Nat
  t : Tm
  pre : List Adj
abbrev Ann.D (A : Ann) : Type := A.t.ty.den
mutual
def idFree : TV → Bool
  | .f _ _ => true
  | .fel _ _ _ _ _ => true
  | .emp => true
  | .nil => true
  | .undef => true
  | .anyb => true
  | .agg l => idFrees l
  | .tup l => idFrees l
  | .pel _ _ _ _ => false
  | .ptr _ _ => false
  | .row _ => false
  | .mp _ => false
  | .clo _ _ => false
def idFrees : List TV → Bool
  | [] => true
  | x :: r => idFree x && idFrees r
end
def keepE (am : Nat) (e : TEnv) : List Nat → TEnv
  | [] => PT.leaf
  | k :: r => match e.get k with | some v => if idFree v && !(Nat.testBit am k) then (keepE am e r).set k (some v) else keepE am e r | none => keepE am e r
def gets (e : TEnv) : List Nat → Option (List TV)
  | [] => some []
  | k :: r => match e.get k with | some v => (match gets e r with | some l => some (v :: l) | none => none) | none => none
def sets (e : TEnv) : List Nat → List TV → TEnv
  | k :: r, v :: l => (sets e r l).set k (some v)
  | _, _ => e
/-- what is kept is still there -/
def keepChk (am : Nat) (e0 e : TEnv) : List Nat → Bool
  | [] => true
  | k :: r => (match e0.get k with
    | some v => !(idFree v) || Nat.testBit am k || (match e.get k with | some _ => true | none => false)
    | none => true) && keepChk am e0 e r
def extS (np : Nat) (A : Ann) (am : Nat) (s0 s : TS) : Option A.D := if Nat.ble np A.t.bs.length && keepChk am s0.e s.e A.keep then (match adjs s A.pre with
  | some s => (match gets s.e A.ks with
    | some vs => (match matchT np A.t vs s.h with
      | some ⟨x, _, _, _⟩ => some x
      | none => none)
    | none => none)
  | none => none) else none
/-- the state at a meeting place: s is the state ahead, am the slots that were assigned since -/
def rstS (A : Ann) (am : Nat) (s : TS) (x : A.D) : Option TS := match instT A.t x with
  | some (vs, h) => if Nat.beq vs.length A.ks.length then some ⟨sets (keepE am s.e A.keep) A.ks vs, h, A.t.bs.length⟩ else none
  | none => none

inductive TC where
  | skip
  | reg (ops : List SOper) (prs : List (Nat × Nat))
  | seq (a b : TC)
  | jseq (A : Ann) (a b : TC)
  | cond (c : Nat) (a b : TC)
  | block (id : Nat) (b : TC)
  | jblock (A : Ann) (id : Nat) (b : TC)
  | loop (A : Ann) (b : TC)
  | exit (id : Nat)
  | ret
  | defer (f : FuncId) (caps : List Operand) (t : Nat)
  | adj (l : List Adj) (c : TC)
  | bad
def asgO : List SOper → Nat → Nat
  | [], acc => acc
  | o :: r, acc => asgO r (match o.dst with | some d => acc ||| bit d | none => acc)
def ksB : List Nat → Nat → Nat
  | [], acc => acc
  | k :: r, acc => ksB r (acc ||| bit k)
def adjB : List Adj → Nat → Nat
  | [], acc => acc
  | .nil k _ _ :: r, acc => adjB r (acc ||| bit k)
  | .cel _ _ _ _ :: r, acc => adjB r acc
  | .mpt _ _ _ :: r, acc => adjB r acc
/-- the slots that are assigned -/
def TC.asg : TC → Nat → Nat
  | .reg ops _, acc => asgO ops acc
  | .seq a b, acc => b.asg (a.asg acc)
  | .jseq A a b, acc => b.asg (a.asg (ksB A.ks acc))
  | .cond _ a b, acc => b.asg (a.asg acc)
  | .block _ b, acc => b.asg acc
  | .jblock A _ b, acc => b.asg (ksB A.ks acc)
  | .loop A b, acc => b.asg (ksB A.ks acc)
  | .defer _ _ t, acc => acc ||| bit t
  | .adj l c, acc => c.asg (adjB l acc)
  | .skip, acc => acc
  | .exit _, acc => acc
  | .ret, acc => acc
  | .bad, acc => acc
inductive Hint where
  | j (A : Ann)
  | a (l : List Adj)
def wrapH (H : PT Hint) (n : Nat) (c : TC) : TC := match H.get n with | some (.a l) => .adj l c | _ => c
/-- code with hints; the nodes are numbered, a node ahead of its parts -/
def deco (H : PT Hint) : SC → Nat → TC × Nat
  | .skip, n => (wrapH H n .skip, n + 1)
  | .reg o p, n => (wrapH H n (.reg o p), n + 1)
  | .seq a b, n => match deco H a (n + 1) with
    | (a', k) => (match deco H b k with | (b', k') => ((match H.get n with | some (.j A) => .jseq A a' b' | _ => .seq a' b'), k'))
  | .cond c a b, n => match deco H a (n + 1) with
    | (a', k) => (match deco H b k with | (b', k') => (wrapH H n (.cond c a' b'), k'))
  | .block id b, n => match deco H b (n + 1) with | (b', k) => ((match H.get n with | some (.j A) => .jblock A id b' | _ => .block id b'), k)
  | .loop b, n => match deco H b (n + 1) with | (b', k) => ((match H.get n with | some (.j A) => .loop A b' | _ => .bad), k)
  | .exit id, n => (wrapH H n (.exit id), n + 1)
  | .ret, n => (wrapH H n .ret, n + 1)
  | .defer f c t, n => (.defer f c t, n + 1)
  | .bad, n => (.bad, n + 1)

noncomputable def trun {R : Type} (np : Nat) (con : FuncId → Option Con) (tyv : TypeId → Option Ty) (inert : FuncId → Bool) : TC → TS → (Ex → TS → Option R) → Option R
  | .skip, s, K => K .normal s
  | .reg ops prs, s, K => opsK con tyv ops s [] fun s' fs => if prsOK fs prs then K .normal s' else none
  | .seq a b, s, K => trun np con tyv inert a s fun ex s' => match ex with | .normal => trun np con tyv inert b s' K | ex => K ex s'
  | .jseq A a b, s, K => jn (trun np con tyv inert a s fun ex s' => match ex with
      | .normal => obind (extS np A (a.asg 0) s s') fun x => some (.inr x)
      | ex => obind (K ex s') fun r => some (.inl r)) fun x => (match rstS A (a.asg 0) s x with | some s' => trun np con tyv inert b s' K | none => none)
  | .cond c a b, s, K => match s.e.get c with
    | some (.f .bool t) => bcase t (trun np con tyv inert a s K) (trun np con tyv inert b s K)
    | some .anyb => both (trun np con tyv inert a s K) (trun np con tyv inert b s K)
    | _ => none
  | .block id b, s, K => trun np con tyv inert b s fun ex s' => match ex with
    | .exit i => if Nat.beq i id then K .normal s' else K (.exit i) s'
    | ex => K ex s'
  | .jblock A id b, s, K => jn (trun np con tyv inert b s fun ex s' => match ex with
      | .normal => obind (extS np A (b.asg 0) s s') fun x => some (.inr x)
      | .exit i => if Nat.beq i id then obind (extS np A (b.asg 0) s s') fun x => some (.inr x) else obind (K (.exit i) s') fun r => some (.inl r)
      | .ret => obind (K .ret s') fun r => some (.inl r)) fun x => (match rstS A (b.asg 0) s x with | some s' => K .normal s' | none => none)
  | .loop A b, s, K => obind (extS np A (b.asg 0) s s) fun x => iter (fun x => match rstS A (b.asg 0) s x with
      | some s' => trun np con tyv inert b s' fun ex s' => (match ex with
        | .normal => obind (extS np A (b.asg 0) s s') fun y => some (.inl y)
        | ex => obind (K ex s') fun r => some (.inr r))
      | none => none) x
  | .exit id, s, K => K (.exit id) s
  | .ret, s, K => K .ret s
  | .defer f caps t, s, K => match opnds s.e caps with
    | some l => if inert f then K .normal ⟨s.e.set t (some (.clo f l)), s.h, s.nx⟩ else none
    | none => none
  | .adj l c, s, K => match adjs s l with | some s' => trun np con tyv inert c s' K | none => none
  | .bad, _, _ => none

def argsT : Nat → List TV → TEnv
  | _, [] => PT.leaf
  | k, x :: r => (argsT (k + 1) r).set k (some x)
/-- the results -/
def rvT (s : TS) : RV → Option TV
  | .tmp t => s.e.get t
  | .cell a sz ag => match s.e.get a with
    | some (.ptr id off) => (match s.h.get id with | some (.cells _ l) => subL l off sz ag | _ => none)
    | _ => none
def rvsT (s : TS) : List RV → Option (List TV)
  | [] => some []
  | x :: r => match rvT s x with | some v => (match rvsT s r with | some l => some (v :: l) | none => none) | none => none
structure FT where
  pre : Tm
  post : Tm
  hints : PT Hint
noncomputable def tfun (con : FuncId → Option Con) (tyv : TypeId → Option Ty) (inert : FuncId → Bool) (F : Option SF) (D : FT) (x : D.pre.ty.den) : Option D.post.ty.den :=
  match F with
  | some sf => (match instT D.pre x with
    | some (args, h) => if Nat.ble args.length sf.nt && Nat.ble D.pre.bs.length D.post.bs.length then
        trun D.pre.bs.length con tyv inert (deco D.hints sf.code 0).1 ⟨argsT 0 args, h, D.pre.bs.length⟩ fun ex s => (match ex with
        | .exit _ => none
        | _ => (match rvsT s sf.res with
          | some l => (match matchT D.pre.bs.length D.post l s.h with
            | some ⟨y, _, _, _⟩ => (match instT D.post y with | some _ => some y | none => none)
            | none => none)
          | none => none)) else none
    | none => none)
  | none => none
end Go.Proofs.YtjjplipoacljoaaDoor.AI
namespace Go.Proofs.YtjjplipoacljoaaDoor.AI
open Go.RowKit

theorem raw_eq {φ : PM} {O : Nat → Prop} {w : World} {v u : Value} (h : RelV φ O w (.f (.raw v)) u) : u = v := by
  cases h with
  | f h => cases h; rfl
theorem updF_nil (h : HF) (nw : HF) : updF h [] nw = h := by funext t; simp [updF]

theorem evL_rel {φ : PM} {E : Nat → Prop} {h' : HF} {w : World} {e : Env} {a : Act} {xs : Array Operand} (hrep : Rep φ E h' w) (h : ∀ t, .tmp t ∈ xs → ∀ y, e.get t = some y → RelV φ (tot E φ h') w y (a.tmps.getD t undef)) {x : Operand} {y : AV} (hx : x ∈ xs) (hy : evL e x = some y) : RelV φ (tot E φ h') w y (a.eval x) := by
  cases x with
  | tmp t => exact h t hx y hy
  | const v => simp only [evL, Option.some.injEq] at hy; subst hy; exact .f (.raw v)
  | func g =>
    simp only [evL, Option.some.injEq] at hy; subst hy
    exact RelV.clo (vs := []) (g := g) (cells := []) rfl (by intro j x v hx; simp at hx)
  | global g =>
    simp only [evL] at hy
    cases hg : G g with
    | none => rw [hg] at hy; cases hy
    | some cells => rw [hg] at hy; simp only [Option.some.injEq] at hy; subst hy; exact .f (hrep.gl g cells hg)

abbrev Rel (φ : PM) (E : Nat → Prop) (h' : HF) (w : World) (a : Act) (e : Env) (o : Oper) : Prop := ∀ x y, x ∈ o.op.operands → evL e x = some y → RelV φ (tot E φ h') w y (a.eval x)

/-- An operation that leaves the world alone. -/
theorem OpT.reads {P : Program} {o : Oper} {e : Env} {h : HF} {val : AV} {rd : List Nat} {nw : HF}
    (hv : ∀ (φ : PM) (E : Nat → Prop) (h' : HF) (w : World) (a : Act), (∀ i ∈ rd, h' i = h i) → Rel φ E h' w a e o → Rep φ E h' w →
      ∃ v, (execOp a.eval o).run P w = .ok (.value v) w ∧ RelV φ (tot E φ h') w val v) : OpT P o e.get h ⟨val, rd, [], nw, []⟩ := by
  intro φ E h' w a h1 h2 h3 h4 h5
  obtain ⟨v, r, rel⟩ := hv φ E h' w a h1 (fun x y hx hy => evL_rel h4 h3 hx hy) h4
  unfold Oper.wp
  rw [r]
  refine ⟨v, φ, rfl, ?_, fun _ _ h => .inl h, ?_, ?_⟩ <;> rw [updF_nil]
  · exact Moves.refl _ _ _
  · exact h4
  · exact rel

theorem rv_some {x : AV} {R : OpR} (h : rv x = some R) : R = ⟨x, [], [], [], []⟩ := by simp only [rv, Option.some.injEq] at h; exact h.symm

section pure
variable {P : Program} {o : Oper} {e : Env} {h : Heap} {nx : Nat} {R : OpR}

theorem T_mv {x : Operand} (ho : o.op = .move x ∨ o.op = .assign x) (ha : aop (.mv x) e h nx = some R) : OpT P o e.get h.get R.eff := by
  simp only [aop] at ha
  split at ha
  · rename_i v hv
    rw [rv_some ha]
    exact OpT.reads fun φ E h' w a _ hop _ => ⟨a.eval x, by unfold execOp; rcases ho with ho | ho <;> rw [ho] <;> rfl, hop x v (by rcases ho with ho | ho <;> rw [ho] <;> simp [Op.operands]) hv⟩
  · cases ha

theorem T_pick {c x y : Operand} (ho : o.op = .pick c x y) (ha : aop (.pick c x y) e h nx = some R) : OpT P o e.get h.get R.eff := by
  simp only [aop] at ha
  split at ha
  · rename_i t hc
    split at ha
    · rename_i v hv
      rw [rv_some ha]
      refine OpT.reads fun φ E h' w a _ hop _ => ?_
      have hcv := raw_eq (hop c _ (by rw [ho]; simp [Op.operands]) hc)
      refine ⟨a.eval (if t then x else y), ?_, hop _ v (by rw [ho]; cases t <;> simp [Op.operands]) hv⟩
      unfold execOp; rw [ho]
      simp only [hcv]
      cases t <;> rfl
    · cases ha
  · cases ha

theorem T_nilc {x : Operand} (ho : o.op = .nilCheck x) (ha : aop (.nilc x) e h nx = some R) : OpT P o e.get h.get R.eff := by
  simp only [aop] at ha
  split at ha
  · rename_i id off hx
    rw [rv_some ha]
    refine OpT.reads fun φ E h' w a _ hop _ => ?_
    have h1 := hop x _ (by rw [ho]; simp [Op.operands]) hx
    generalize hz : a.eval x = z at h1
    cases h1 with
    | ptr hφ => exact ⟨_, by unfold execOp; rw [ho]; simp only [hz]; rfl, .ptr hφ⟩
  · rename_i cells off hx
    rw [rv_some ha]
    refine OpT.reads fun φ E h' w a _ hop _ => ?_
    have h1 := hop x _ (by rw [ho]; simp [Op.operands]) hx
    generalize hz : a.eval x = z at h1
    cases h1 with
    | f h1 =>
      have h2 := h1
      cases h2 with
      | ptr _ _ b base us hO hb hcl hu hr => exact ⟨_, by unfold execOp; rw [ho]; simp only [hz]; rfl, .f h1⟩
  · rename_i g cap hx
    rw [rv_some ha]
    refine OpT.reads fun φ E h' w a _ hop _ => ?_
    have h1 := hop x _ (by rw [ho]; simp [Op.operands]) hx
    generalize hz : a.eval x = z at h1
    cases h1 with
    | clo hl hr => exact ⟨_, by unfold execOp; rw [ho]; simp only [hz]; rfl, .clo hl hr⟩
  · cases ha

theorem T_not {x : Operand} {t : TypeId} (ho : o.op = .unOp .not t x) (ha : aop (.not x) e h nx = some R) : OpT P o e.get h.get R.eff := by
  simp only [aop] at ha
  split at ha
  · rename_i b hx
    rw [rv_some ha]
    refine OpT.reads fun φ E h' w a _ hop _ => ?_
    have h1 := raw_eq (hop x _ (by rw [ho]; simp [Op.operands]) hx)
    exact ⟨_, by unfold execOp; rw [ho]; simp only [h1]; rfl, .f (.raw _)⟩
  · cases ha

theorem wrapK_eq (k : IntKind) (n : Int) : wrapK k n = k.wrap n := by
  unfold wrapK
  split
  · split
    · rename_i h
      simp only [ile, Bool.and_eq_true, decide_eq_true_eq] at h
      have : IntKind.wrap .i64 n = if n % 18446744073709551616 ≥ 9223372036854775808 then n % 18446744073709551616 - 18446744073709551616 else n % 18446744073709551616 := by
        simp [IntKind.wrap, IntKind.bits, IntKind.signed]
      rw [this]; split <;> omega
    · rfl
  · split
    · rename_i h
      simp only [ile, Bool.and_eq_true, decide_eq_true_eq] at h
      have : IntKind.wrap .u8 n = n % 256 := by
        simp [IntKind.wrap, IntKind.bits, IntKind.signed]
      rw [this]; omega
    · rfl
  · rfl

theorem T_conv {x : Operand} {s d : TypeId} {k k' : IntKind} (ho : o.op = .convert s d x) (hs : P.underlying s = some (.int k')) (hd : P.underlying d = some (.int k)) (ha : aop (.conv k x) e h nx = some R) : OpT P o e.get h.get R.eff := by
  simp only [aop] at ha
  split at ha
  · rename_i kk n hx
    rw [rv_some ha]
    refine OpT.reads fun φ E h' w a _ hop _ => ?_
    have h1 := raw_eq (hop x _ (by rw [ho]; simp [Op.operands]) hx)
    refine ⟨_, ?_, .f (.raw _)⟩
    unfold execOp; rw [ho]
    simp [h1, convert, run_underlying hs, run_underlying hd, Conv.intToInt, wrapK_eq]
  · cases ha

theorem bytes_toList (a : ByteArray) : a.toList = a.data.toList := by
  first | exact ByteArray.toList_eq a | simp [ByteArray.toList] | rfl

theorem run_binV {op : BinOp} {t : TypeId} {u v r : Value} (hr : binV op u v = some r) (x y : Operand) (w : World) :
    (do eqGuard op t x y u v; binOp op t u v : Sem Value).run P w = .ok r w := by
  unfold binV at hr
  split at hr
  · rename_i k a k' b
    split at hr
    · rename_i hk
      have hk' : k = k' := by simpa using hk
      subst hk'
      split at hr <;> first | (simp only [Option.some.injEq] at hr; subst hr; simp [eqGuard, binOp, Op.intCmp, Op.intArith, wrapK_eq, ile, ilt]; done) | (split at hr <;> first | (cases hr; done) | (rename_i hb; simp only [Option.some.injEq] at hr; subst hr; simp [eqGuard, binOp, Op.intDiv, wrapK_eq, show b ≠ 0 from by simpa using hb]; done)) | (cases hr; done)
    · cases hr
  · rename_i a b
    split at hr <;> first | (simp only [Option.some.injEq] at hr; subst hr; simp [eqGuard, binOp, Op.stringOp, bytesEq, bytes_toList]; done) | (cases hr; done)
  · cases hr

theorem run_v {s : Sem Value} {r : Value} {w w' : World} (hs : s.run P w = .ok r w') : (do let x ← s; pure (Next.value x) : Sem Next).run P w = .ok (.value r) w' := by
  simp [hs]

theorem T_bin {op : BinOp} {x y : Operand} {t t' : TypeId} (ho : o.op = .binOp op t x y t') (ha : aop (.bin op x y) e h nx = some R) : OpT P o e.get h.get R.eff := by
  simp only [aop] at ha
  split at ha
  · rename_i u v hx hy
    split at ha
    · rename_i r hr
      rw [rv_some ha]
      refine OpT.reads fun φ E h' w a _ hop _ => ?_
      have h1 := raw_eq (hop x _ (by rw [ho]; simp [Op.operands]) hx)
      have h2 := raw_eq (hop y _ (by rw [ho]; simp [Op.operands]) hy)
      refine ⟨r, ?_, .f (.raw _)⟩
      unfold execOp; rw [ho]
      simp only [h1, h2]
      exact run_v (run_binV (P := P) (t := t) hr x y w)
    · cases ha
  · cases ha

theorem equal_bool {t : TypeId} (hu : P.underlying t = some .bool) (u v : Bool) (w : World) : (Op.equal t (.bool u) (.bool v)).run P w = .ok (u == v) w := by
  have key : ∀ d, (Op.equalIn (d + 1) t (.bool u) (.bool v)).run P w = .ok (u == v) w := fun d => by simp [Op.equalIn, run_underlying hu]
  exact key 9999
theorem equal_nilsl {t el : TypeId} (hu : P.underlying t = some (.slice el)) (A : Option Addr) (n c : Nat) (w : World) : (Op.equal t (.slice A n c) (.slice none 0 0)).run P w = .ok A.isNone w := by
  have key : ∀ d, (Op.equalIn (d + 1) t (.slice A n c) (.slice none 0 0)).run P w = .ok A.isNone w := fun d => by cases A <;> simp [Op.equalIn, run_underlying hu]
  exact key 9999
theorem T_eqb {neg : Bool} {op : BinOp} {x y : Operand} {t t' : TypeId} (ho : o.op = .binOp op t x y t') (hop : op = if neg then .neq else .eql) (hu : P.underlying t = some .bool) (ha : aop (.eqb neg x y) e h nx = some R) : OpT P o e.get h.get R.eff := by
  simp only [aop] at ha
  split at ha
  · rename_i u v hx hy
    rw [rv_some ha]
    refine OpT.reads fun φ E h' w a _ hp _ => ?_
    have h1 := raw_eq (hp x _ (by rw [ho]; simp [Op.operands]) hx)
    have h2 := raw_eq (hp y _ (by rw [ho]; simp [Op.operands]) hy)
    refine ⟨_, ?_, .f (.raw _)⟩
    unfold execOp; rw [ho]
    simp only [h1, h2]
    subst hop
    cases neg <;> simp [eqGuard, binOp, equal_bool hu]
  · cases ha

theorem T_isnil {neg : Bool} {op : BinOp} {x y : Operand} {t t' el : TypeId} (ho : o.op = .binOp op t x y t') (hop : op = if neg then .neq else .eql) (hy : y = .const (.slice none 0 0)) (hu : P.underlying t = some (.slice el)) (ha : aop (.isnil neg x) e h nx = some R) : OpT P o e.get h.get R.eff := by
  have key : ∀ (v : Value) (w : World) (ρ : Operand → Value) (A : Option Addr) (n c : Nat), ρ x = .slice A n c → ρ y = .slice none 0 0 → (execOp ρ o).run P w = .ok (.value (.bool (A.isNone != neg))) w := by
    intro v w ρ A n c h1 h2
    unfold execOp; rw [ho]
    simp only [h1, h2]
    subst hop
    cases neg <;> simp [eqGuard, binOp, equal_nilsl hu]
  have hyv : ∀ a : Act, a.eval y = .slice none 0 0 := fun a => by rw [hy]; rfl
  simp only [aop] at ha
  split at ha
  · rename_i id sz n hx
    rw [rv_some ha]
    refine OpT.reads fun φ E h' w a _ hp _ => ?_
    have h1 := hp x _ (by rw [ho]; simp [Op.operands]) hx
    generalize hz : a.eval x = z at h1
    cases h1 with
    | row hφ hn hc hs => exact ⟨_, key (.bool true) w a.eval _ _ _ hz (hyv a), by simpa [raw] using RelV.f (.raw _)⟩
  · rename_i id off n hx
    rw [rv_some ha]
    refine OpT.reads fun φ E h' w a _ hp _ => ?_
    have h1 := hp x _ (by rw [ho]; simp [Op.operands]) hx
    generalize hz : a.eval x = z at h1
    cases h1 with
    | sl hφ hn hc => exact ⟨_, key (.bool true) w a.eval _ _ _ hz (hyv a), by simpa [raw] using RelV.f (.raw _)⟩
  · rename_i cells n hx
    rw [rv_some ha]
    refine OpT.reads fun φ E h' w a _ hp _ => ?_
    have h1 := hp x _ (by rw [ho]; simp [Op.operands]) hx
    generalize hz : a.eval x = z at h1
    cases h1 with
    | f h1 =>
      cases h1 with
      | sl => exact ⟨_, key (.bool true) w a.eval _ _ _ hz (hyv a), by simpa [raw] using RelV.f (.raw _)⟩
  · rename_i cells hx
    rw [rv_some ha]
    refine OpT.reads fun φ E h' w a _ hp _ => ?_
    have h1 := hp x _ (by rw [ho]; simp [Op.operands]) hx
    generalize hz : a.eval x = z at h1
    cases h1 with
    | f h1 =>
      cases h1 with
      | nil => exact ⟨_, key (.bool true) w a.eval _ _ _ hz (hyv a), .anyb⟩
      | sl => exact ⟨_, key (.bool true) w a.eval _ _ _ hz (hyv a), .anyb⟩
  · rename_i hx
    rw [rv_some ha]
    refine OpT.reads fun φ E h' w a _ hp _ => ?_
    have h1 := hp x _ (by rw [ho]; simp [Op.operands]) hx
    generalize hz : a.eval x = z at h1
    cases h1 with
    | emp => exact ⟨_, key (.bool true) w a.eval _ _ _ hz (hyv a), .anyb⟩
  · rename_i v hx
    split at ha
    · rename_i hv
      rw [rv_some ha]
      refine OpT.reads fun φ E h' w a _ hp _ => ?_
      have h1 := raw_eq (hp x _ (by rw [ho]; simp [Op.operands]) hx)
      unfold isNilSl at hv
      split at hv
      · exact ⟨_, key (.bool true) w a.eval _ _ _ h1 (hyv a), by simpa [raw] using RelV.f (.raw _)⟩
      · cases hv
    · cases ha
  · cases ha

/-- size and kind of a type, as the walk knows them -/
theorem run_sizeT {t : TypeId} {sz : Nat} (hs : sizeT P t = some sz) (w : World) : (sizeOf t).run P w = .ok sz w := by
  unfold sizeT at hs
  cases hi : P.info? t with
  | none => rw [hi] at hs; cases hs
  | some i => rw [hi] at hs; simp at hs; simp [sizeOf, typeInfo, program, hi, Sem.run, hs]
theorem run_aggT {t : TypeId} {ag : Bool} (hs : aggT P t = some ag) (w : World) : (isAgg t).run P w = .ok ag w := by
  unfold aggT at hs
  cases hi : P.underlying t with
  | none => rw [hi] at hs; cases hs
  | some d =>
    rw [hi] at hs
    simp only [Option.map_some, Option.some.injEq] at hs
    rw [← hs]
    simp only [isAgg, Sem.run_bind, run_underlying hi, Result.andThen_ok]
    cases d <;> rfl

theorem addr_add (b off i : Nat) : (⟨b, off, none⟩ : Addr).add i = ⟨b, off + i, none⟩ := by
  unfold Addr.add; split <;> simp_all

theorem run_fieldAt {s : TypeId} {fs : Array Field} {k : Nat} {f : Field} {sz : Nat} (hu : P.underlying s = some (.struct fs)) (hf : fs[k]? = some f) (hs : sizeT P f.type = some sz) (h0 : sz ≠ 0) (w : World) (b i : Nat) :
    (Instr.fieldAt s (.pointer (some ⟨b, i, none⟩)) k).run P w = .ok (.pointer (some ⟨b, i + f.offset, none⟩)) w := by
  have h1 := run_sizeT hs w
  simp [Instr.fieldAt, run_underlying hu, hf, Instr.sureAddr, fieldPlace, h1, h0, addr_add]
theorem T_fad {s : TypeId} {fs : Array Field} {k : Nat} {f : Field} {sz : Nat} {x : Operand} (ho : o.op = .fieldAddr s x k) (hu : P.underlying s = some (.struct fs)) (hf : fs[k]? = some f) (hs : sizeT P f.type = some sz) (h0 : sz ≠ 0) (ha : aop (.fad f.offset x) e h nx = some R) : OpT P o e.get h.get R.eff := by
  have key : ∀ (w : World) (ρ : Operand → Value) (b i : Nat), ρ x = .pointer (some ⟨b, i, none⟩) → (execOp ρ o).run P w = .ok (.value (.pointer (some ⟨b, i + f.offset, none⟩))) w := by
    intro w ρ b i h1
    unfold execOp; rw [ho]
    simp only [h1]
    exact run_v (run_fieldAt hu hf hs h0 w b i)
  simp only [aop] at ha
  split at ha
  · rename_i id off hx
    rw [rv_some ha]
    refine OpT.reads fun φ E h' w a _ hp _ => ?_
    have h1 := hp x _ (by rw [ho]; simp [Op.operands]) hx
    generalize hz : a.eval x = z at h1
    cases h1 with
    | ptr hφ => exact ⟨_, key w a.eval _ _ hz, .ptr hφ⟩
  · rename_i cells off hx
    rw [rv_some ha]
    refine OpT.reads fun φ E h' w a _ hp _ => ?_
    have h1 := hp x _ (by rw [ho]; simp [Op.operands]) hx
    generalize hz : a.eval x = z at h1
    cases h1 with
    | f h1 =>
      cases h1 with
      | ptr _ _ b base us hO hb hcl hu hr =>
        refine ⟨_, key w a.eval _ _ hz, .f ?_⟩
        rw [Nat.add_assoc]
        exact .ptr cells _ b base us hO hb hcl hu hr
  · cases ha

theorem exec_iad {t el : TypeId} {x y : Operand} {sz b off n c : Nat} {k : IntKind} {i : Int} {ρ : Operand → Value} {w : World} (ho : o.op = .indexAddr t x y) (hu : P.underlying t = some (.slice el)) (hs : sizeT P el = some sz) (hx : ρ x = .slice (some ⟨b, off, none⟩) n c) (hy : ρ y = .int k i) (h0 : 0 ≤ i) (h1 : i < n) :
    (execOp ρ o).run P w = .ok (.value (.pointer (some ⟨b, off + i.toNat * sz, none⟩))) w := by
  have h2 := run_sizeT hs w
  unfold execOp; rw [ho]
  simp [hx, hy, Instr.indexAt, asIntOf, run_underlying hu, h2, h0, h1, addr_add]
theorem T_iad {t el : TypeId} {x y : Operand} {sz : Nat} (ho : o.op = .indexAddr t x y) (hu : P.underlying t = some (.slice el)) (hs : sizeT P el = some sz) (ha : aop (.iad sz x y) e h nx = some R) : OpT P o e.get h.get R.eff := by
  simp only [aop] at ha
  split at ha
  · rename_i v k j hx hy
    have hyv : ∀ {φ : PM} {E : Nat → Prop} {h' : HF} {w : World} {a : Act}, Rel φ E h' w a e o → a.eval y = .int k j := fun hp => raw_eq (hp y _ (by rw [ho]; simp [Op.operands]) hy)
    split at ha
    · split at ha
      · rename_i id sz' n hc
        simp only [ile, ilt, Bool.and_eq_true, decide_eq_true_eq, beq_iff_eq] at hc
        obtain ⟨⟨rfl, h0⟩, h1⟩ := hc
        rw [rv_some ha]
        refine OpT.reads fun φ E h' w a _ hp _ => ?_
        have hr := hp x _ (by rw [ho]; simp [Op.operands]) hx
        generalize hz : a.eval x = z at hr
        cases hr with
        | row hφ hn hc' hsh =>
          refine ⟨_, exec_iad ho hu hs hz (hyv hp) h0 h1, ?_⟩
          rw [Nat.zero_add]; exact .ptr hφ
      · cases ha
    · split at ha
      · rename_i id off n hc
        simp only [ile, ilt, Bool.and_eq_true, decide_eq_true_eq] at hc
        obtain ⟨h0, h1⟩ := hc
        rw [rv_some ha]
        refine OpT.reads fun φ E h' w a _ hp _ => ?_
        have hr := hp x _ (by rw [ho]; simp [Op.operands]) hx
        generalize hz : a.eval x = z at hr
        cases hr with
        | sl hφ hn hc' => exact ⟨_, exec_iad ho hu hs hz (hyv hp) h0 h1, .ptr hφ⟩
      · cases ha
    · split at ha
      · rename_i cells n hc
        simp only [ile, ilt, Bool.and_eq_true, decide_eq_true_eq] at hc
        obtain ⟨h0, h1⟩ := hc
        rw [rv_some ha]
        refine OpT.reads fun φ E h' w a _ hp _ => ?_
        have hr := hp x _ (by rw [ho]; simp [Op.operands]) hx
        generalize hz : a.eval x = z at hr
        cases hr with
        | f hr =>
          cases hr with
          | nil => omega
          | sl _ _ c b base us hn hc' hO hb hcl hu' hr' => exact ⟨_, exec_iad ho hu hs hz (hyv hp) h0 h1, .f (.ptr cells _ b base us hO hb hcl hu' hr')⟩
      · cases ha
    · cases ha
  · cases ha

theorem T_iada {t el : TypeId} {x y : Operand} {n sz : Nat} (ho : o.op = .indexAddr t x y) (hu : P.underlying t = some (.array n el)) (hs : sizeT P el = some sz) (ha : aop (.iada n sz x y) e h nx = some R) : OpT P o e.get h.get R.eff := by
  have key : ∀ (w : World) (ρ : Operand → Value) (b off : Nat) (k : IntKind) (i : Int), ρ x = .pointer (some ⟨b, off, none⟩) → ρ y = .int k i → 0 ≤ i → i < n → (execOp ρ o).run P w = .ok (.value (.pointer (some ⟨b, off + i.toNat * sz, none⟩))) w := by
    intro w ρ b off k i h1 h2 h3 h4
    have h5 := run_sizeT hs w
    unfold execOp; rw [ho]
    simp [h1, h2, Instr.indexAt, asIntOf, run_underlying hu, h5, h3, h4, addr_add, Instr.sureAddr]
  simp only [aop] at ha
  split at ha
  · rename_i v k j hx hy
    split at ha
    · rename_i hc
      simp only [ile, ilt, Bool.and_eq_true, decide_eq_true_eq] at hc
      obtain ⟨h0, h1⟩ := hc
      split at ha
      · rw [rv_some ha]
        refine OpT.reads fun φ E h' w a _ hp _ => ?_
        have hr := hp x _ (by rw [ho]; simp [Op.operands]) hx
        have hyv := raw_eq (hp y _ (by rw [ho]; simp [Op.operands]) hy)
        generalize hz : a.eval x = z at hr
        cases hr with
        | ptr hφ => exact ⟨_, key w a.eval _ _ k j hz hyv h0 h1, .ptr hφ⟩
      · rw [rv_some ha]
        refine OpT.reads fun φ E h' w a _ hp _ => ?_
        have hr := hp x _ (by rw [ho]; simp [Op.operands]) hx
        have hyv := raw_eq (hp y _ (by rw [ho]; simp [Op.operands]) hy)
        generalize hz : a.eval x = z at hr
        cases hr with
        | f hr =>
          cases hr with
          | ptr _ _ b base us hO hb hcl hu' hr' =>
            refine ⟨_, key w a.eval _ _ k j hz hyv h0 h1, .f ?_⟩
            rw [Nat.add_assoc]
            exact .ptr _ _ b base us hO hb hcl hu' hr'
      · cases ha
    · cases ha
  · cases ha

theorem T_ext {x : Operand} {i : Nat} (ho : o.op = .extract x i) (ha : aop (.ext x i) e h nx = some R) : OpT P o e.get h.get R.eff := by
  simp only [aop] at ha
  split at ha
  · rename_i l hx
    split at ha
    · rename_i v hv
      rw [rv_some ha]
      refine OpT.reads fun φ E h' w a _ hp _ => ?_
      have hr := hp x _ (by rw [ho]; simp [Op.operands]) hx
      generalize hz : a.eval x = z at hr
      cases hr with
      | @tup _ vs hl hrr =>
        have hlt : i < vs.length := by
          rw [hl]; exact (List.getElem?_eq_some_iff.1 hv).1
        refine ⟨vs[i], ?_, hrr i v _ hv (List.getElem?_eq_getElem hlt)⟩
        unfold execOp; rw [ho]
        simp [hz, Instr.extract, hlt]
    · cases ha
  · cases ha

theorem T_max {x y : Operand} {ts : Array TypeId} (ho : o.op = .call { callee := .builtin .max, args := #[x, y], argTypes := ts }) (ha : aop (.max x y) e h nx = some R) : OpT P o e.get h.get R.eff := by
  simp only [aop] at ha
  split at ha
  · rename_i k a b k' hx hy
    rw [rv_some ha]
    refine OpT.reads fun φ E h' w a _ hp _ => ?_
    have h1 := raw_eq (hp x _ (by rw [ho]; simp [Op.operands, Call.operands]) hx)
    have h2 := raw_eq (hp y _ (by rw [ho]; simp [Op.operands, Call.operands]) hy)
    refine ⟨_, ?_, .f (.raw _)⟩
    unfold execOp; rw [ho]
    simp [resolve, invoke, builtin, Builtin.max_, Builtin.max2, h1, h2, ilt]
  · cases ha

theorem T_mkf {f : FuncId} {caps : Array Operand} (ho : o.op = .makeFunc (.func f) #[] caps) (ha : aop (.mkf f caps.toList) e h nx = some R) : OpT P o e.get h.get R.eff := by
  simp only [aop] at ha
  split at ha
  · rename_i l hl
    rw [rv_some ha]
    refine OpT.reads fun φ E h' w a _ hp _ => ?_
    refine ⟨_, by unfold execOp; rw [ho]; rfl, ?_⟩
    have key : ∀ (xs : List Operand) (ys : List AV), (∀ x ∈ xs, x ∈ o.op.operands) → evs e xs = some ys → ys.length = xs.length ∧ ∀ (j : Nat) x v, ys[j]? = some x → (xs.map a.eval)[j]? = some v → RelV φ (tot E φ h') w x v := by
      intro xs
      induction xs with
      | nil => intro ys _ h; simp only [evs, Option.some.injEq] at h; subst h; exact ⟨rfl, fun j x v hx => by simp at hx⟩
      | cons x xs ih =>
        intro ys hm h
        simp only [evs] at h
        split at h
        · rename_i y hy
          split at h
          · rename_i ys' hys
            simp only [Option.some.injEq] at h; subst h
            obtain ⟨h1, h2⟩ := ih ys' (fun x hx => hm x (List.mem_cons_of_mem _ hx)) hys
            refine ⟨by simp [h1], fun j z v hz hv => ?_⟩
            cases j with
            | zero => simp at hz hv; subst hz; subst hv; exact hp x _ (hm x (List.mem_cons_self ..)) hy
            | succ j => exact h2 j z v (by simpa using hz) (by simpa using hv)
          · cases h
        · cases h
    obtain ⟨h1, h2⟩ := key caps.toList l (fun x hx => by rw [ho]; simpa [Op.operands] using hx) hl
    have h3 : (caps.map a.eval) = (caps.toList.map a.eval).toArray := by
      apply Array.ext'; simp
    have h4 : (#[] : Array Operand).map a.eval = #[] := by simp
    rw [h4, h3]
    exact .clo (by simp [h1]) h2
  · cases ha

end pure
end Go.Proofs.YtjjplipoacljoaaDoor.AI
namespace Go.Proofs.YtjjplipoacljoaaDoor.AI
open Go.RowKit

section
variable {P : Program} {o : Oper} {e : Env} {h : Heap} {nx : Nat} {R : OpR}

theorem sub_get {α : Type} {l cs : List α} {off sz : Nat} (h : off + sz ≤ l.length) (he : (l.drop off).take sz = cs) : cs.length = sz ∧ ∀ (j : Nat) x, cs[j]? = some x → l[off + j]? = some x := by
  subst he
  constructor
  · simp; omega
  · intro j x hx
    rw [List.getElem?_take] at hx
    split at hx
    · rw [List.getElem?_drop] at hx; exact hx
    · cases hx
theorem getD_range (f : Nat → Value) (n j : Nat) (v : Value) (h : ((List.range n).map f)[j]? = some v) : v = f j ∧ j < n := by
  rw [List.getElem?_map] at h
  rcases Nat.lt_or_ge j n with hj | hj
  · rw [List.getElem?_range hj] at h; simp at h; exact ⟨h.symm, hj⟩
  · rw [List.getElem?_eq_none (by simpa using hj)] at h; cases h

/-- cells at a place of a list of values -/
def CellsOf (φ : PM) (O : Nat → Prop) (w : World) (c : BC) (f : Nat → Option Value) : Prop := ∀ j x, c.get j = some x → x.isCell = true ∧ ∃ v, f j = some v ∧ RelV φ O w x v

/-- what a load of sz cells from place off on gives -/
theorem sub_val {φ : PM} {O : Nat → Prop} {w : World} {c : BC} {off sz : Nat} {ag : Bool} {val : AV} (hs : c.sub? off sz ag = some val) {f : Nat → Option Value} (hc : CellsOf φ O w c f) :
    ∃ cs : List Value, cs.length = sz ∧ (∀ (j : Nat) v, cs[j]? = some v → f (off + j) = some v) ∧ (ag = false → sz = 1) ∧ RelV φ O w val (if ag then .agg cs.toArray else cs.getD 0 undef) := by
  cases ag with
  | false =>
    simp only [BC.sub?] at hs
    split at hs
    · obtain ⟨h0, v, h1, h2⟩ := hc off val hs
      exact ⟨[v], rfl, fun j u hu => by cases j with | zero => simp at hu; subst hu; exact h1 | succ j => simp at hu, fun _ => rfl, by simpa using h2⟩
    · cases hs
  | true =>
    have fin : ∀ (g : Nat → Option AV), (∀ j, j < sz → ∃ x, g j = some x ∧ c.get (off + j) = some x) →
        ∃ cs : List Value, cs.length = sz ∧ (∀ (j : Nat) v, cs[j]? = some v → f (off + j) = some v) ∧ ∀ (j : Nat) x v, g j = some x → cs[j]? = some v → RelV φ O w x v := by
      intro g hg
      refine ⟨(List.range sz).map fun j => (f (off + j)).getD undef, by simp, fun j v hv => ?_, fun j x v hx hv => ?_⟩
      · obtain ⟨rfl, hj⟩ := getD_range _ _ _ _ hv
        obtain ⟨x, _, h2⟩ := hg j hj
        obtain ⟨_, v, h3, _⟩ := hc _ _ h2
        rw [h3]; rfl
      · obtain ⟨rfl, hj⟩ := getD_range _ _ _ _ hv
        obtain ⟨x', h1, h2⟩ := hg j hj
        rw [hx] at h1; cases h1
        obtain ⟨_, v, h3, h4⟩ := hc _ _ h2
        rw [h3]; exact h4
    simp only [BC.sub?] at hs
    split at hs
    · rename_i l
      split at hs
      · rename_i hle
        simp only [Option.some.injEq] at hs; subst hs
        obtain ⟨hl, hg⟩ := sub_get (Nat.le_of_ble_eq_true hle) (rfl : (l.drop off).take sz = _)
        obtain ⟨cs, h1, h2, h3⟩ := fin (fun j => (((l.drop off).take sz)[j]?).map AV.f) (fun j hj => by
          have hlt : j < ((l.drop off).take sz).length := by rw [hl]; exact hj
          refine ⟨.f ((l.drop off).take sz)[j], by simp only [List.getElem?_eq_getElem hlt, Option.map_some], ?_⟩
          simp only [BC.get, hg j _ (List.getElem?_eq_getElem hlt), Option.map_some])
        refine ⟨cs, h1, h2, (fun h => by cases h), .f (.agg _ _ (by rw [h1, hl]) ?_ ?_)⟩
        · intro x hx
          obtain ⟨j, hj⟩ := List.getElem?_of_mem hx
          exact (hc (off + j) (.f x) (by simp only [BC.get, hg j x hj, Option.map_some])).1
        · intro j x v hx hv
          have := h3 j (.f x) v (by simp only [hx, Option.map_some]) hv
          cases this with
          | f h => exact h
      · cases hs
    · rename_i l
      split at hs
      · rename_i hle
        simp only [Option.some.injEq] at hs; subst hs
        obtain ⟨hl, hg⟩ := sub_get (Nat.le_of_ble_eq_true hle) (rfl : (l.drop off).take sz = _)
        obtain ⟨cs, h1, h2, h3⟩ := fin (fun j => (((l.drop off).take sz)[j]?)) (fun j hj => by
          have hlt : j < ((l.drop off).take sz).length := by rw [hl]; exact hj
          exact ⟨_, List.getElem?_eq_getElem hlt, hg j _ (List.getElem?_eq_getElem hlt)⟩)
        refine ⟨cs, h1, h2, (fun h => by cases h), .agg (by rw [h1, hl]) ?_ ?_⟩
        · intro x hx
          obtain ⟨j, hj⟩ := List.getElem?_of_mem hx
          exact (hc (off + j) x (hg j x hj)).1
        · intro j x v hx hv
          exact h3 j x v hx hv
      · cases hs
    · cases hs

theorem run_loadVarT {t : TypeId} {sz : Nat} {ag : Bool} (hs : sizeT P t = some sz) (ha : aggT P t = some ag) (w : World) (b off : Nat) (cs : List Value) (hl : cs.length = sz) (hc : ∀ (j : Nat) v, cs[j]? = some v → w.cell? ⟨b, off + j, none⟩ = some v) (h1 : ag = false → sz = 1) :
    (loadVar t ⟨b, off, none⟩).run P w = .ok (if ag then .agg cs.toArray else cs.getD 0 undef) w := by
  unfold loadVar
  simp only [Sem.run_bind, run_aggT ha w, Result.andThen_ok]
  cases ag with
  | true =>
    simp only [if_true, Sem.run_bind, run_sizeT hs w, Result.andThen_ok]
    rw [← hl, run_loadCells_list (P := P) w ⟨b, off, none⟩ cs (fun j v hv => by rw [addr_add]; exact hc j v hv)]
    rfl
  | false =>
    have h1 := h1 rfl
    cases cs with
    | nil => simp at hl; omega
    | cons v r =>
      have := hc 0 v rfl
      simp only [Nat.add_zero] at this
      simp [load, Sem.run, this]

theorem loadVar_at {φ : PM} {O : Nat → Prop} {w : World} {t : TypeId} {sz : Nat} {ag : Bool} (hs : sizeT P t = some sz) (ha : aggT P t = some ag) {c : BC} {b base off : Nat} {val : AV} (hv : c.sub? off sz ag = some val)
    (hc : CellsOf φ O w c fun j => w.cell? ⟨b, base + j, none⟩) : ∃ v, (loadVar t ⟨b, base + off, none⟩).run P w = .ok v w ∧ RelV φ O w val v := by
  obtain ⟨cs, h1, h2, h3, h4⟩ := sub_val hv hc
  exact ⟨_, run_loadVarT hs ha w b (base + off) cs h1 (fun j v hj => by rw [Nat.add_assoc]; exact h2 j v hj) h3, h4⟩

theorem cellsOf_own {φ : PM} {E : Nat → Prop} {h' : HF} {w : World} (hrep : Rep φ E h' w) {id k : Nat} {b : Blk} (hb : h' id = some b) (hk : φ id = some k) (hc : b.c.isCells = true) : CellsOf φ (tot E φ h') w b.c fun j => w.cell? ⟨k, 0 + j, none⟩ := by
  obtain ⟨k', h1, _, h2⟩ := hrep.at_ id b hb
  rw [hk] at h1; cases h1
  obtain ⟨arr, h3, h4, h5⟩ := h2.cells hc
  intro j x hx
  obtain ⟨c1, v, c2, c3⟩ := h5 j x hx
  exact ⟨c1, v, by simp [World.cell?, h3, c2], c3⟩
theorem cellsOf_fz {φ : PM} {O : Nat → Prop} {w : World} {cells : List FV} {b base : Nat} {us : Nat → Value} (hcl : ∀ x ∈ cells, x.isCell = true) (hu : ∀ j, j < cells.length → w.cell? ⟨b, base + j, none⟩ = some (us j)) (hr : ∀ (j : Nat) x, cells[j]? = some x → RelF O w x (us j)) :
    CellsOf φ O w (.fz cells) fun j => w.cell? ⟨b, base + j, none⟩ := by
  intro j y hy
  simp only [BC.get] at hy
  cases hc : cells[j]? with
  | none => rw [hc] at hy; cases hy
  | some q =>
    rw [hc] at hy; simp at hy; subst hy
    have hj : j < cells.length := (List.getElem?_eq_some_iff.1 hc).1
    exact ⟨hcl q (List.mem_of_getElem? hc), us j, hu j hj, .f (hr j q hc)⟩
theorem sub_isCells {c : BC} {off sz : Nat} {ag : Bool} {v : AV} (h : c.sub? off sz ag = some v) : c.isCells = true := by
  cases c with
  | fz => rfl
  | mx => rfl
  | mp es => cases ag <;> simp only [BC.sub?, BC.get] at h <;> (try split at h) <;> cases h
  | it s p => cases ag <;> simp only [BC.sub?, BC.get] at h <;> (try split at h) <;> cases h

/-- the walk's load -/
theorem aload_ok {t : TypeId} {sz : Nat} {ag : Bool} (hs : sizeT P t = some sz) (hag : aggT P t = some ag) {p : AV} (ha : aload h sz ag p = some R) :
    R.wr = [] ∧ R.nw = [] ∧ R.N = [] ∧ ∀ (φ : PM) (E : Nat → Prop) (h' : HF) (w : World) (pv : Value), (∀ i ∈ R.rd, h' i = h.get i) → Rep φ E h' w → RelV φ (tot E φ h') w p pv →
      ∃ ad v, pv = .pointer (some ad) ∧ (loadVar t ad).run P w = .ok v w ∧ RelV φ (tot E φ h') w R.val v := by
  unfold aload at ha
  split at ha
  · rename_i id off
    split at ha
    · rename_i b hb
      split at ha
      · rename_i v hv
        simp only [Option.some.injEq] at ha; subst ha
        refine ⟨rfl, rfl, rfl, fun φ E h' w pv hrd hrep hr => ?_⟩
        have hh : h' id = some b := by rw [hrd id (by simp)]; exact hb
        cases hr with
        | @ptr _ _ k hφ =>
          obtain ⟨u, h1, h2⟩ := loadVar_at hs hag (w := w) (b := k) (base := 0) hv (cellsOf_own hrep hh hφ (sub_isCells hv))
          rw [Nat.zero_add] at h1
          exact ⟨_, u, rfl, h1, h2⟩
      · cases ha
    · cases ha
  · rename_i cells off
    split at ha
    · rename_i v hv
      rw [rv_some ha]
      refine ⟨rfl, rfl, rfl, fun φ E h' w pv hrd hrep hr => ?_⟩
      cases hr with
      | f hr =>
        cases hr with
        | ptr _ _ b base us hO hb hcl hu hr =>
          obtain ⟨u, h1, h2⟩ := loadVar_at (φ := φ) (O := tot E φ h') hs hag (w := w) (b := b) (base := base) hv (cellsOf_fz hcl hu hr)
          exact ⟨_, u, rfl, h1, h2⟩
    · cases ha
  · cases ha

theorem T_load {t : TypeId} {x : Operand} {sz : Nat} {ag : Bool} (ho : o.op = .load t x) (hs : sizeT P t = some sz) (hag : aggT P t = some ag) (ha : aop (.load sz ag x) e h nx = some R) : OpT P o e.get h.get R.eff := by
  simp only [aop] at ha
  split at ha
  · rename_i p hx
    obtain ⟨h1, h2, h3, h4⟩ := aload_ok hs hag ha
    obtain ⟨val, rd, wr, nw, N⟩ := R
    simp only at h1 h2 h3 h4
    subst h1; subst h2; subst h3
    refine OpT.reads fun φ E h' w a hrd hp hrep => ?_
    obtain ⟨ad, v, h5, h6, h7⟩ := h4 φ E h' w _ hrd hrep (hp x _ (by rw [ho]; simp [Op.operands]) hx)
    refine ⟨v, ?_, h7⟩
    unfold execOp; rw [ho]
    simp [Instr.loadAt, h5, Instr.sureAddr, h6]
  · cases ha

/-- a part of a value that is an aggregate -/
theorem part_ok {φ : PM} {O : Nat → Prop} {w : World} {t : TypeId} {sz : Nat} {ag : Bool} (hs : sizeT P t = some sz) (hag : aggT P t = some ag) {c : BC} {off : Nat} {val : AV} (hv : c.sub? off sz ag = some val) {vs : List Value}
    (hc : CellsOf φ O w c fun j => vs[j]?) : ∃ v, (part t vs.toArray off).run P w = .ok v w ∧ RelV φ O w val v := by
  obtain ⟨cs, h1, h2, h3, h4⟩ := sub_val hv hc
  refine ⟨_, ?_, h4⟩
  unfold part
  simp only [Sem.run_bind, run_aggT hag w, Result.andThen_ok]
  cases ag with
  | true =>
    simp only [if_true, Sem.run_bind, run_sizeT hs w, Result.andThen_ok]
    have : vs.toArray.extract off (off + sz) = cs.toArray := by
      apply Array.ext'
      simp only [Array.toList_extract, List.extract_eq_take_drop]
      apply List.ext_getElem?
      intro j
      rw [show off + sz - off = sz from by omega, List.getElem?_take, List.getElem?_drop]
      rcases Nat.lt_or_ge j sz with hj | hj
      · rw [if_pos hj]
        have := h2 j _ (List.getElem?_eq_getElem (by omega : j < cs.length))
        rw [this, List.getElem?_eq_getElem (by omega : j < cs.length)]
      · rw [if_neg (by omega), List.getElem?_eq_none (by omega)]
    rw [this]; rfl
  | false =>
    have h5 := h3 rfl
    cases cs with
    | nil => simp at h1; omega
    | cons v r =>
      have := h2 0 v rfl
      simp only [Nat.add_zero] at this
      simp [this]

theorem cellsOf_agg {φ : PM} {O : Nat → Prop} {w : World} {l : List AV} {vs : List Value} (hl : vs.length = l.length) (hcl : ∀ x ∈ l, x.isCell = true) (hr : ∀ (j : Nat) x v, l[j]? = some x → vs[j]? = some v → RelV φ O w x v) : CellsOf φ O w (.mx l) fun j => vs[j]? := by
  intro j x hx
  simp only [BC.get] at hx
  have hj : j < vs.length := by rw [hl]; exact (List.getElem?_eq_some_iff.1 hx).1
  exact ⟨hcl x (List.mem_of_getElem? hx), vs[j], List.getElem?_eq_getElem hj, hr j x _ hx (List.getElem?_eq_getElem hj)⟩
theorem cellsOf_aggF {φ : PM} {O : Nat → Prop} {w : World} {l : List FV} {vs : List Value} (hl : vs.length = l.length) (hcl : ∀ x ∈ l, x.isCell = true) (hr : ∀ (j : Nat) x v, l[j]? = some x → vs[j]? = some v → RelF O w x v) : CellsOf φ O w (.fz l) fun j => vs[j]? := by
  intro j x hx
  simp only [BC.get] at hx
  cases hc : l[j]? with
  | none => rw [hc] at hx; cases hx
  | some q =>
    rw [hc] at hx; simp at hx; subst hx
    have hj : j < vs.length := by rw [hl]; exact (List.getElem?_eq_some_iff.1 hc).1
    exact ⟨hcl q (List.mem_of_getElem? hc), vs[j], List.getElem?_eq_getElem hj, .f (hr j q _ hc (List.getElem?_eq_getElem hj))⟩

/-- part of an aggregate, whatever its form -/
theorem aggPart_ok {φ : PM} {O : Nat → Prop} {w : World} {t : TypeId} {sz : Nat} {ag : Bool} (hs : sizeT P t = some sz) (hag : aggT P t = some ag) {x : AV} {z : Value} (hr : RelV φ O w x z) {off : Nat} {val : AV}
    (hv : (∃ l, x = .agg l ∧ (BC.mx l).sub? off sz ag = some val) ∨ (∃ l, x = .f (.agg l) ∧ (BC.fz l).sub? off sz ag = some val)) : ∃ cs v, z = .agg cs ∧ (part t cs off).run P w = .ok v w ∧ RelV φ O w val v := by
  rcases hv with ⟨l, rfl, hv⟩ | ⟨l, rfl, hv⟩
  · cases hr with
    | agg hl hcl hr =>
      obtain ⟨v, h1, h2⟩ := part_ok hs hag hv (cellsOf_agg hl hcl hr)
      exact ⟨_, v, rfl, h1, h2⟩
  · cases hr with
    | f hr =>
      cases hr with
      | agg _ vs hl hcl hr =>
        obtain ⟨v, h1, h2⟩ := part_ok (φ := φ) hs hag hv (cellsOf_aggF hl hcl hr)
        exact ⟨_, v, rfl, h1, h2⟩

theorem T_fld {s : TypeId} {fs : Array Field} {k : Nat} {f : Field} {sz : Nat} {ag : Bool} {x : Operand} (ho : o.op = .field s x k) (hu : P.underlying s = some (.struct fs)) (hf : fs[k]? = some f) (hs : sizeT P f.type = some sz) (hag : aggT P f.type = some ag) (ha : aop (.fld f.offset sz ag x) e h nx = some R) : OpT P o e.get h.get R.eff := by
  have fin : ∀ (y : AV) (val : AV), evL e x = some y → ((∃ l, y = .agg l ∧ (BC.mx l).sub? f.offset sz ag = some val) ∨ (∃ l, y = .f (.agg l) ∧ (BC.fz l).sub? f.offset sz ag = some val)) → rv val = some R → OpT P o e.get h.get R.eff := by
    intro y val hx hv hR
    rw [rv_some hR]
    refine OpT.reads fun φ E h' w a _ hp _ => ?_
    obtain ⟨cs, v, h1, h2, h3⟩ := aggPart_ok hs hag (hp x _ (by rw [ho]; simp [Op.operands]) hx) hv
    refine ⟨v, ?_, h3⟩
    unfold execOp; rw [ho]
    simp [Instr.field, run_underlying hu, hf, h1, asAgg, h2]
  simp only [aop] at ha
  split at ha
  · rename_i l hx
    split at ha
    · rename_i v hv; exact fin _ v hx (.inl ⟨l, rfl, hv⟩) ha
    · cases ha
  · rename_i l hx
    split at ha
    · rename_i v hv; exact fin _ v hx (.inr ⟨l, rfl, hv⟩) ha
    · cases ha
  · cases ha

theorem T_idx {t el : TypeId} {n sz : Nat} {ag : Bool} {x y : Operand} (ho : o.op = .index t x y) (hu : P.underlying t = some (.array n el)) (hs : sizeT P el = some sz) (hag : aggT P el = some ag) (ha : aop (.idx n sz ag x y) e h nx = some R) : OpT P o e.get h.get R.eff := by
  simp only [aop] at ha
  split at ha
  · rename_i v0 k j hx hy
    split at ha
    · rename_i hc
      simp only [ile, ilt, Bool.and_eq_true, decide_eq_true_eq] at hc
      obtain ⟨h0, h1⟩ := hc
      have fin : ∀ (val : AV), ((∃ l, v0 = .agg l ∧ (BC.mx l).sub? (j.toNat * sz) sz ag = some val) ∨ (∃ l, v0 = .f (.agg l) ∧ (BC.fz l).sub? (j.toNat * sz) sz ag = some val)) → rv val = some R → OpT P o e.get h.get R.eff := by
        intro val hv hR
        rw [rv_some hR]
        refine OpT.reads fun φ E h' w a _ hp _ => ?_
        have hyv := raw_eq (hp y _ (by rw [ho]; simp [Op.operands]) hy)
        obtain ⟨cs, v, h3, h4, h5⟩ := aggPart_ok hs hag (hp x _ (by rw [ho]; simp [Op.operands]) hx) hv
        refine ⟨v, ?_, h5⟩
        have h6 := run_sizeT hs w
        unfold execOp; rw [ho]
        simp [Instr.index, run_underlying hu, hyv, asIntOf, h3, h0, h1, h6, h4]
      split at ha
      · rename_i l
        split at ha
        · rename_i v hv; exact fin v (.inl ⟨l, rfl, hv⟩) ha
        · cases ha
      · rename_i l
        split at ha
        · rename_i v hv; exact fin v (.inr ⟨l, rfl, hv⟩) ha
        · cases ha
      · cases ha
    · cases ha
  · cases ha

theorem T_len0 {t el : TypeId} {x : Operand} (ho : o.op = .call { callee := .builtin .len, args := #[x], argTypes := #[t] }) (hu : P.underlying t = some (.slice el)) (ha : aop (.len x) e h nx = some R) : OpT P o e.get h.get R.eff := by
  simp only [aop] at ha
  split at ha
  · rename_i y hx
    split at ha
    · rename_i n hn
      rw [rv_some ha]
      refine OpT.reads fun φ E h' w a _ hp _ => ?_
      have hr := hp x _ (by rw [ho]; simp [Op.operands, Call.operands]) hx
      refine ⟨_, ?_, .f (.raw _)⟩
      have hz : ∃ A c, a.eval x = .slice A n c := by
        generalize a.eval x = z at hr
        unfold AV.slen at hn
        split at hn <;> try (simp only [Option.some.injEq] at hn; subst hn)
        · cases hr with
          | f hr => cases hr with
            | nil => exact ⟨_, _, rfl⟩
            | sl => exact ⟨_, _, rfl⟩
        · cases raw_eq hr; exact ⟨_, _, rfl⟩
        · cases hr; exact ⟨_, _, rfl⟩
        · cases hr; exact ⟨_, _, rfl⟩
        · cases hr; exact ⟨_, _, rfl⟩
        · cases hn
      obtain ⟨A, c, hz⟩ := hz
      unfold execOp; rw [ho]
      simp [resolve, invoke, builtin, Builtin.len_, run_underlying hu, hz, goInt]
    · cases ha
  · cases ha
theorem T_len1 {t : TypeId} {x : Operand} (ho : o.op = .call { callee := .builtin .len, args := #[x], argTypes := #[t] }) (hu : P.underlying t = some .string) (ha : aop (.lens x) e h nx = some R) : OpT P o e.get h.get R.eff := by
  simp only [aop] at ha
  split at ha
  · rename_i s hx
    rw [rv_some ha]
    refine OpT.reads fun φ E h' w a _ hp _ => ?_
    have hr := raw_eq (hp x _ (by rw [ho]; simp [Op.operands, Call.operands]) hx)
    refine ⟨_, ?_, .f (.raw _)⟩
    unfold execOp; rw [ho]
    simp [resolve, invoke, builtin, Builtin.len_, run_underlying hu, hr, goInt]
  · cases ha
theorem T_len2 {t k v : TypeId} {x : Operand} (ho : o.op = .call { callee := .builtin .len, args := #[x], argTypes := #[t] }) (hu : P.underlying t = some (.map k v)) (ha : aop (.lenm x) e h nx = some R) : OpT P o e.get h.get R.eff := by
  simp only [aop] at ha
  split at ha
  · rename_i id hx
    split at ha
    · rename_i ty es hid
      simp only [Option.some.injEq] at ha; subst ha
      refine OpT.reads fun φ E h' w a hrd hp hrep => ?_
      have hr := hp x _ (by rw [ho]; simp [Op.operands, Call.operands]) hx
      have hh : h' id = some ⟨ty, .mp es⟩ := by rw [hrd id (by simp)]; exact hid
      generalize hz : a.eval x = z at hr
      cases hr with
      | @mp _ b hφ =>
        obtain ⟨b', h1, _, ob, h2, h3⟩ := hrep.at_ id _ hh
        rw [hφ] at h1; cases h1
        obtain ⟨ents, clock, rfl, h4, _⟩ := h3
        have h5 : ents.size = es.length := by have := congrArg List.length h4; simpa using this
        refine ⟨_, ?_, .f (.raw _)⟩
        unfold execOp; rw [ho]
        simp [resolve, invoke, builtin, Builtin.len_, run_underlying hu, hz, goInt, getObj, Sem.run, h2, h5]
    · cases ha
  · cases ha

end
end Go.Proofs.YtjjplipoacljoaaDoor.AI
namespace Go.Proofs.YtjjplipoacljoaaDoor.AI
open Go.RowKit

/-- w' is w but for object k, which keeps its shape -/
structure WSet (w w' : World) (k : Nat) (ob : Obj) : Prop where
  os : w'.os = w.os
  tape : w'.tape = w.tape
  output : w'.output = w.output
  size : w'.heap.size = w.heap.size
  at_ : w'.heap[k]? = some ob
  other : ∀ j, j ≠ k → w'.heap[j]? = w.heap[j]?
  shp : ∀ j, w'.shape? j = w.shape? j
/-- w' is w and one object more -/
structure WNew (w w' : World) (ob : Obj) : Prop where
  os : w'.os = w.os
  tape : w'.tape = w.tape
  output : w'.output = w.output
  size : w'.heap.size = w.heap.size + 1
  at_ : w'.heap[w.heap.size]? = some ob
  other : ∀ j, j < w.heap.size → w'.heap[j]? = w.heap[j]?

theorem Rep.wset {φ : PM} {E : Nat → Prop} {h : HF} {w w' : World} (r : Rep φ E h w) {id k : Nat} {b b' : Blk} {ob : Obj} (hb : h id = some b) (hk : φ id = some k) (hw : WSet w w' k ob) (hob : ObjAt φ (tot E φ h) w b' ob) (nw : HF) (hnw : nw id = some b') :
    Moves φ φ h (updF h [id] nw) w w' ∧ Rep φ E (updF h [id] nw) w' := by
  have hdom : ∀ i, (∃ x, updF h [id] nw i = some x) ↔ ∃ x, h i = some x := fun i => by
    unfold updF
    by_cases hi : i = id
    · subst hi; simp [hnw, hb]
    · simp [hi]
  have hown : ∀ j, own φ (updF h [id] nw) j ↔ own φ h j := fun j => by
    constructor
    · rintro ⟨i, x, h1, h2⟩; obtain ⟨y, hy⟩ := (hdom i).1 ⟨x, h1⟩; exact ⟨i, y, hy, h2⟩
    · rintro ⟨i, x, h1, h2⟩; obtain ⟨y, hy⟩ := (hdom i).2 ⟨x, h1⟩; exact ⟨i, y, hy, h2⟩
  have m : Moves φ φ h (updF h [id] nw) w w' := by
    refine ⟨fun _ _ h => h, ⟨hw.os, hw.tape, hw.output, by rw [hw.size]; exact Nat.le_refl _, fun j hj ho => ?_, fun j _ => hw.shp j⟩, fun j _ h => (hown j).1 h⟩
    exact hw.other j (fun e => ho (e ▸ ⟨id, b, hb, hk⟩))
  refine ⟨m, ⟨fun i j x y kk hi hj h1 h2 => ?_, fun i x hi => ?_, fun k hk => Nat.lt_of_lt_of_le (r.el k hk) m.ext.size, fun g cells hg => m.keepF (r.gl g cells hg)⟩⟩
  · obtain ⟨x', hx'⟩ := (hdom i).1 ⟨x, hi⟩
    obtain ⟨y', hy'⟩ := (hdom j).1 ⟨y, hj⟩
    exact r.inj i j x' y' kk hx' hy' h1 h2
  · by_cases hid : i = id
    · subst hid
      have : x = b' := by unfold updF at hi; simp [hnw] at hi; exact hi.symm
      subst this
      obtain ⟨k', h1, h2, _⟩ := r.at_ i b hb
      rw [hk] at h1; cases h1
      exact ⟨k, hk, h2, ob, hw.at_, hob.mono fun _ _ h => m.keep h⟩
    · have hx : h i = some x := by unfold updF at hi; simpa [hid] using hi
      obtain ⟨k', h1, h2, ob', h3, h4⟩ := r.at_ i x hx
      have hne : k' ≠ k := fun e => hid (r.inj i id x b k hx hb (e ▸ h1) hk)
      exact ⟨k', h1, h2, ob', by rw [hw.other k' hne]; exact h3, h4.mono fun _ _ h => m.keep h⟩

/-- An object is made, and maybe the names 'del' are given up. -/
theorem Rep.wnew {φ : PM} {E : Nat → Prop} {h : HF} {w w' : World} (r : Rep φ E h w) {id : Nat} (hid : φ id = none) {b : Blk} {ob : Obj} (hw : WNew w w' ob) (hob : ObjAt φ (tot E φ h) w b ob) (del : List Nat) (nw : HF) (hnw : nw id = some b) (hdel : ∀ i ∈ del, i ≠ id → nw i = none) :
    ∃ φ', φ' id = some w.heap.size ∧ Moves φ φ' h (updF h (id :: del) nw) w w' ∧ (∀ i k, φ' i = some k → φ i = some k ∨ i ∈ [id]) ∧ Rep φ' E (updF h (id :: del) nw) w' := by
  have hsub : ∀ i x, updF h (id :: del) nw i = some x → i ≠ id → h i = some x ∧ i ∉ del := fun i x hx hi => by
    unfold updF at hx
    by_cases hd : i ∈ del
    · rw [if_pos (by simp [hd]), hdel i hd hi] at hx; cases hx
    · rw [if_neg (by simp [hi, hd])] at hx; exact ⟨hx, hd⟩
  have hlt : ∀ i x k, h i = some x → φ i = some k → k < w.heap.size := fun i x k hi hk => by
    obtain ⟨k', h1, _, ob', h3, _⟩ := r.at_ i x hi
    rw [hk] at h1; cases h1
    exact (Array.getElem?_eq_some_iff.1 h3).1
  have hφ : ∀ i, i ≠ id → (if i = id then some w.heap.size else φ i) = φ i := fun i hi => by simp [hi]
  have m : Moves φ (fun i => if i = id then some w.heap.size else φ i) h (updF h (id :: del) nw) w w' := by
    refine ⟨fun i k hk => ?_, ⟨hw.os, hw.tape, hw.output, by rw [hw.size]; omega, fun j hj _ => hw.other j hj, fun j hj => ?_⟩, ?_⟩
    · have : i ≠ id := fun e => by rw [e, hid] at hk; cases hk
      rw [hφ i this]; exact hk
    · unfold World.shape?; rw [hw.other j hj]
    · rintro j hj ⟨i, x, h1, h2⟩
      by_cases hi : i = id
      · simp [hi] at h2; omega
      · have h3 : φ i = some j := by simpa [hi] using h2
        exact ⟨i, x, (hsub i x h1 hi).1, h3⟩
  refine ⟨_, by simp, m, fun i k hk => ?_, ⟨fun i j x y k hi hj h1 h2 => ?_, fun i x hi => ?_, fun k hk => Nat.lt_of_lt_of_le (r.el k hk) m.ext.size, fun g cells hg => m.keepF (r.gl g cells hg)⟩⟩
  · by_cases hi : i = id
    · right; simp [hi]
    · left; rw [hφ i hi] at hk; exact hk
  · by_cases hi' : i = id
    · by_cases hj' : j = id
      · rw [hi', hj']
      · exfalso
        rw [hφ j hj'] at h2
        have := hlt j y k (hsub j y hj hj').1 h2
        simp [hi'] at h1; omega
    · rw [hφ i hi'] at h1
      have hix := (hsub i x hi hi').1
      by_cases hj' : j = id
      · exfalso
        have := hlt i x k hix h1
        simp [hj'] at h2; omega
      · rw [hφ j hj'] at h2
        exact r.inj i j x y k hix (hsub j y hj hj').1 h1 h2
  · by_cases hi' : i = id
    · subst hi'
      have : x = b := by unfold updF at hi; simp [hnw] at hi; exact hi.symm
      subst this
      refine ⟨w.heap.size, by simp, fun he => ?_, ob, hw.at_, hob.mono fun _ _ h => m.keep h⟩
      have := r.el _ he; omega
    · obtain ⟨k, h1, h2, ob', h3, h4⟩ := r.at_ i x (hsub i x hi hi').1
      refine ⟨k, by rw [hφ i hi']; exact h1, h2, ob', ?_, h4.mono fun _ _ h => m.keep h⟩
      rw [hw.other k (hlt i x k (hsub i x hi hi').1 h1)]; exact h3

theorem wnew_push (w : World) (ob : Obj) : WNew w { w with heap := w.heap.push ob } ob := by
  refine ⟨rfl, rfl, rfl, by simp, by simp, fun j hj => ?_⟩
  rw [Array.getElem?_push, if_neg (by omega)]
theorem WNew.drawn {w w' : World} {ob : Obj} (d : Nat) (h : WNew { w with drawn := d } w' ob) : WNew w w' ob := ⟨h.os, h.tape, h.output, h.size, h.at_, h.other⟩

/-- An operation that makes one object. -/
theorem OpT.makes {P : Program} {o : Oper} {e : Env} {h : HF} {rd : List Nat} {nx : Nat} {b : Blk} {val : AV}
    (hv : ∀ (φ : PM) (E : Nat → Prop) (h' : HF) (w : World) (a : Act), (∀ i ∈ rd, h' i = h i) → Rel φ E h' w a e o → Rep φ E h' w →
      ∃ v w' ob, (execOp a.eval o).run P w = .ok (.value v) w' ∧ WNew w w' ob ∧ ObjAt φ (tot E φ h') w b ob ∧ ∀ φ' O, φ' nx = some w.heap.size → RelV φ' O w' val v) :
    OpT P o e.get h ⟨val, rd, [nx], nwGet [(nx, b)], [nx]⟩ := by
  intro φ E h' w a h1 h2 h3 h4 h5
  obtain ⟨v, w', ob, hrun, hw, hob, hval⟩ := hv φ E h' w a h1 (fun x y hx hy => evL_rel h4 h3 hx hy) h4
  obtain ⟨φ', g1, g2, g3, g4⟩ := h4.wnew (id := nx) (h5 nx (by simp)) hw hob [] (nwGet [(nx, b)]) (by simp [nwGet]) (by simp)
  unfold Oper.wp
  rw [hrun]
  exact ⟨v, φ', rfl, g2, g3, g4, hval φ' _ g1⟩

/-- An operation that writes one object. -/
theorem OpT.writes {P : Program} {o : Oper} {e : Env} {h : HF} {rd : List Nat} {id : Nat} {b b' : Blk} {val : AV} (hb : h id = some b)
    (hv : ∀ (φ : PM) (E : Nat → Prop) (h' : HF) (w : World) (a : Act), (∀ i ∈ rd, h' i = h i) → h' id = some b → Rel φ E h' w a e o → Rep φ E h' w →
      ∃ r w' k ob, (execOp a.eval o).run P w = .ok r w' ∧ φ id = some k ∧ WSet w w' k ob ∧ ObjAt φ (tot E φ h') w b' ob ∧ (∃ v, (r = .value v ∨ r = .skip ∧ v = undef) ∧ RelV φ (tot E φ (updF h' [id] (nwGet [(id, b')]))) w' val v)) :
    OpT P o e.get h ⟨val, rd, [id], nwGet [(id, b')], []⟩ := by
  intro φ E h' w a h1 h2 h3 h4 h5
  obtain ⟨r, w', k, ob, hrun, hk, hw, hob, v, hr, hval⟩ := hv φ E h' w a h1 (by rw [h2 id (by simp)]; exact hb) (fun x y hx hy => evL_rel h4 h3 hx hy) h4
  obtain ⟨g1, g2⟩ := h4.wset (id := id) (by rw [h2 id (by simp)]; exact hb) hk hw hob (nwGet [(id, b')]) (by simp [nwGet])
  unfold Oper.wp
  rw [hrun]
  rcases hr with rfl | ⟨rfl, rfl⟩
  · exact ⟨v, φ, rfl, g1, fun _ _ h => .inl h, g2, hval⟩
  · exact ⟨undef, φ, rfl, g1, fun _ _ h => .inl h, g2, hval⟩

/-! ### lists of cells -/
theorem allCell_spec {l : List AV} (h : allCell l = true) : ∀ x ∈ l, x.isCell = true := by
  induction l with
  | nil => intro x hx; cases hx
  | cons y l ih =>
    simp only [allCell, Bool.and_eq_true] at h
    intro x hx
    rcases List.mem_cons.1 hx with rfl | hx
    · exact h.1
    · exact ih h.2 x hx
theorem allF_spec : ∀ {l : List AV} {fs : List FV}, allF l = some fs → l = fs.map .f
  | [], fs, h => by simp only [allF, Option.some.injEq] at h; subst h; rfl
  | .f x :: r, fs, h => by
    simp only [allF] at h
    split at h
    · rename_i l hl
      simp only [Option.some.injEq] at h; subst h
      rw [allF_spec hl]; rfl
    · cases h
  | .ptr _ _ :: _, _, h => by simp [allF] at h
  | .sl _ _ _ :: _, _, h => by simp [allF] at h
  | .row _ _ _ :: _, _, h => by simp [allF] at h
  | .mp _ :: _, _, h => by simp [allF] at h
  | .emp :: _, _, h => by simp [allF] at h
  | .agg _ :: _, _, h => by simp [allF] at h
  | .tup _ :: _, _, h => by simp [allF] at h
  | .clo _ _ :: _, _, h => by simp [allF] at h
/-- cells and values, one by one -/
def Cs (φ : PM) (O : Nat → Prop) (w : World) (l : List AV) (vs : List Value) : Prop := vs.length = l.length ∧ (∀ x ∈ l, x.isCell = true) ∧ ∀ (j : Nat) x v, l[j]? = some x → vs[j]? = some v → RelV φ O w x v
theorem BC.get_toMx {c : BC} (hc : c.isCells = true) (j : Nat) : c.get j = c.toMx[j]? := by
  cases c with
  | fz l => simp [BC.get, BC.toMx]
  | mx l => rfl
  | mp _ => cases hc
  | it _ _ => cases hc
theorem BC.len_toMx {c : BC} (hc : c.isCells = true) : c.len = c.toMx.length := by
  cases c with
  | fz l => simp [BC.len, BC.toMx]
  | mx l => rfl
  | mp _ => cases hc
  | it _ _ => cases hc
theorem mkBC_toMx (l : List AV) : (mkBC l).toMx = l ∧ (mkBC l).isCells = true := by
  unfold mkBC
  cases h : allF l with
  | none => exact ⟨rfl, rfl⟩
  | some fs => exact ⟨(allF_spec h).symm, rfl⟩
/-- an object of cells from values -/
theorem objAt_of {φ : PM} {O : Nat → Prop} {w : World} {ty : TypeId} {c : BC} (hc : c.isCells = true) {arr : Array Value} (hl : c.toMx.length ≤ arr.size)
    (h : ∀ (j : Nat) x, c.toMx[j]? = some x → x.isCell = true ∧ ∃ v, arr[j]? = some v ∧ RelV φ O w x v) : ObjAt φ O w ⟨ty, c⟩ (.cells arr ty (0, 0)) := by
  have h2 : CellsAt φ O w c arr := ⟨by rw [BC.len_toMx hc]; exact hl, fun j x hx => h j x (by rw [← BC.get_toMx hc]; exact hx)⟩
  unfold ObjAt
  cases hb : c with
  | fz l => rw [hb] at h2; exact ⟨arr, rfl, h2⟩
  | mx l => rw [hb] at h2; exact ⟨arr, rfl, h2⟩
  | mp _ => rw [hb] at hc; cases hc
  | it _ _ => rw [hb] at hc; cases hc
theorem objAt_mkBC {φ : PM} {O : Nat → Prop} {w : World} {ty : TypeId} {l : List AV} {vs : List Value} (h : Cs φ O w l vs) : ObjAt φ O w ⟨ty, mkBC l⟩ (.cells vs.toArray ty (0, 0)) := by
  obtain ⟨h1, h2⟩ := mkBC_toMx l
  refine objAt_of h2 (by rw [h1]; simp [h.1]) fun j x hx => ?_
  rw [h1] at hx
  have hj : j < vs.length := by rw [h.1]; exact (List.getElem?_eq_some_iff.1 hx).1
  exact ⟨h.2.1 x (List.mem_of_getElem? hx), vs[j], by simp [hj], h.2.2 j x _ hx (List.getElem?_eq_getElem hj)⟩
/-- a value's cells -/
theorem cs_rel {φ : PM} {O : Nat → Prop} {w : World} {x : AV} {v : Value} (h : RelV φ O w x v) (hc : allCell x.cs = true) : Cs φ O w x.cs v.cells.toList := by
  have one : x.cs = [x] → v.cells = #[v] → Cs φ O w x.cs v.cells.toList := fun h1 h2 => by
    rw [h1] at hc ⊢
    rw [h2]
    exact ⟨rfl, allCell_spec hc, fun j y u hy hu => by cases j with | zero => simp at hy hu; subst hy; subst hu; exact h | succ j => simp at hy⟩
  cases h with
  | ptr h => exact one rfl rfl
  | sl h _ _ => exact one rfl rfl
  | row h _ _ _ => exact one rfl rfl
  | emp => exact one rfl rfl
  | anyb => exact one rfl rfl
  | mp h => exact one rfl rfl
  | clo _ _ => exact one rfl rfl
  | tup _ _ => exact absurd hc (by simp [AV.cs, allCell, AV.isCell])
  | @agg l vs hl hcl hr => exact ⟨hl, hcl, hr⟩
  | @f y u hf =>
    cases hf with
    | raw v =>
      have hv : v.oneCell' = true := by
        have : (AV.f (.raw v)).cs = [.f (.raw v)] := rfl
        rw [this] at hc; simpa [allCell, AV.isCell, FV.isCell] using hc
      refine one rfl ?_
      cases v <;> first | rfl | simp [Value.oneCell'] at hv
    | nil => exact one rfl rfl
    | sl => exact one rfl rfl
    | ptr => exact one rfl rfl
    | agg l vs hl hcl hr =>
      refine ⟨by simp [AV.cs, Value.cells, hl], allCell_spec hc, fun j y u hy hu => ?_⟩
      simp only [AV.cs, List.getElem?_map] at hy
      cases hq : l[j]? with
      | none => rw [hq] at hy; cases hy
      | some q => rw [hq] at hy; simp at hy; subst hy; exact .f (hr j q u hq (by simpa [Value.cells] using hu))

end Go.Proofs.YtjjplipoacljoaaDoor.AI
namespace Go.Proofs.YtjjplipoacljoaaDoor.AI
open Go.RowKit

theorem RelF.one {O : Nat → Prop} {w : World} {x : FV} {v : Value} (h : RelF O w x v) (hc : x.isCell = true) : v.oneCell' = true := by
  cases h with
  | raw v => exact hc
  | nil => rfl
  | sl => rfl
  | ptr => rfl
  | agg => cases hc
theorem RelV.one {φ : PM} {O : Nat → Prop} {w : World} {x : AV} {v : Value} (h : RelV φ O w x v) (hc : x.isCell = true) : v.oneCell' = true := by
  cases h with
  | f h => exact h.one hc
  | ptr => rfl
  | sl => rfl
  | row => rfl
  | emp => rfl
  | anyb => rfl
  | mp => rfl
  | agg => cases hc
  | tup => cases hc
  | clo => rfl
theorem Cs.one {φ : PM} {O : Nat → Prop} {w : World} {l : List AV} {vs : List Value} (h : Cs φ O w l vs) : ∀ v ∈ vs, v.oneCell' = true := by
  intro v hv
  obtain ⟨j, hj⟩ := List.getElem?_of_mem hv
  have hlt : j < l.length := by rw [← h.1]; exact (List.getElem?_eq_some_iff.1 hj).1
  exact (h.2.2 j _ v (List.getElem?_eq_getElem hlt) hj).one (h.2.1 _ (List.getElem_mem hlt))
theorem Cs.append {φ : PM} {O : Nat → Prop} {w : World} {l l' : List AV} {vs vs' : List Value} (h : Cs φ O w l vs) (h' : Cs φ O w l' vs') : Cs φ O w (l ++ l') (vs ++ vs') := by
  refine ⟨by simp [h.1, h'.1], fun x hx => (List.mem_append.1 hx).elim (h.2.1 x) (h'.2.1 x), fun j x v hx hv => ?_⟩
  rcases Nat.lt_or_ge j l.length with hj | hj
  · rw [List.getElem?_append_left hj] at hx
    rw [List.getElem?_append_left (by rw [h.1]; exact hj)] at hv
    exact h.2.2 j x v hx hv
  · rw [List.getElem?_append_right hj] at hx
    rw [List.getElem?_append_right (by rw [h.1]; exact hj), h.1] at hv
    exact h'.2.2 _ x v hx hv
theorem Cs.take {φ : PM} {O : Nat → Prop} {w : World} {l : List AV} {vs : List Value} (h : Cs φ O w l vs) (n : Nat) : Cs φ O w (l.take n) (vs.take n) := by
  refine ⟨by simp [h.1], fun x hx => h.2.1 x (List.mem_of_mem_take hx), fun j x v hx hv => ?_⟩
  rw [List.getElem?_take] at hx hv
  split at hx
  · rename_i hj; rw [if_pos hj] at hv; exact h.2.2 j x v hx hv
  · cases hx
theorem Cs.drop {φ : PM} {O : Nat → Prop} {w : World} {l : List AV} {vs : List Value} (h : Cs φ O w l vs) (n : Nat) : Cs φ O w (l.drop n) (vs.drop n) := by
  refine ⟨by simp [h.1], fun x hx => h.2.1 x (List.mem_of_mem_drop hx), fun j x v hx hv => ?_⟩
  rw [List.getElem?_drop] at hx hv
  exact h.2.2 _ x v hx hv
theorem Cs.splice {φ : PM} {O : Nat → Prop} {w : World} {l l' : List AV} {vs vs' : List Value} (h : Cs φ O w l vs) (h' : Cs φ O w l' vs') (off : Nat) : Cs φ O w (splice l off l') (splice vs off vs') := by
  unfold AI.splice
  rw [h'.1]
  exact ((h.take off).append h').append (h.drop _)
theorem Cs.raws {φ : PM} {O : Nat → Prop} {w : World} (z : List Value) (hz : cellsOK z = true) : Cs φ O w (z.map raw) z := by
  refine ⟨by simp, fun x hx => ?_, fun j x v hx hv => ?_⟩
  · obtain ⟨v, hv, rfl⟩ := List.mem_map.1 hx
    exact List.all_eq_true.1 hz v hv
  · rw [List.getElem?_map] at hx
    rw [hv] at hx; simp at hx; subst hx; exact .f (.raw v)
theorem Cs.mono {φ φ' : PM} {O O' : Nat → Prop} {w w' : World} {l : List AV} {vs : List Value} (h : Cs φ O w l vs) (hk : ∀ x v, RelV φ O w x v → RelV φ' O' w' x v) : Cs φ' O' w' l vs := ⟨h.1, h.2.1, fun j x v hx hv => hk _ _ (h.2.2 j x v hx hv)⟩

theorem WSet.setRow {w : World} {k : Nat} {arr arr' : Array Value} {ty : TypeId} (ha : w.heap[k]? = some (.cells arr ty (0, 0))) (hs : arr'.size = arr.size) : WSet w (w.setRow k arr') k (.cells arr' ty (0, 0)) := by
  refine ⟨rfl, rfl, rfl, by simp, setRow_heap w k arr arr' ty (0, 0) ha, fun j hj => setRow_other w k j arr' hj, fun j => ?_⟩
  unfold World.shape?
  by_cases hj : j = k
  · subst hj; rw [setRow_heap w j arr arr' ty (0, 0) ha, ha]; simp [hs]
  · rw [setRow_other w k j arr' hj]

section
variable {P : Program} {o : Oper} {e : Env} {h : Heap} {nx : Nat} {R : OpR}

theorem run_zeroT {t : TypeId} {z : List Value} (hz : zeroT P t = some z) (w : World) : ∃ v, (zeroValue t).run P w = .ok v w ∧ v.cells.toList = z ∧ ∃ i, P.info? t = some i ∧ i.zero = some v := by
  unfold zeroT at hz
  cases hi : P.info? t with
  | none => rw [hi] at hz; cases hz
  | some i =>
    rw [hi] at hz
    simp only [Option.bind_some] at hz
    cases hv : i.zero with
    | none => rw [hv] at hz; cases hz
    | some v =>
      rw [hv] at hz
      simp only [Option.map_some, Option.some.injEq] at hz
      exact ⟨v, by simp [zeroValue, typeInfo, hi, hv], hz, i, rfl, hv⟩

theorem T_alloc {t : TypeId} {z : List Value} (ho : o.op = .alloc t) (hz : zeroT P t = some z) (hc : cellsOK z = true) (ha : aop (.alloc t z) e h nx = some R) : OpT P o e.get h.get R.eff := by
  simp only [aop, Option.some.injEq] at ha
  subst ha
  refine OpT.makes fun φ E h' w a _ _ _ => ?_
  obtain ⟨v, h1, h2, _⟩ := run_zeroT hz w
  refine ⟨.pointer (some ⟨w.heap.size, 0, none⟩), { w with heap := w.heap.push (.cells v.cells t) }, .cells v.cells t (0, 0), ?_, wnew_push w _, ?_, fun φ' O hφ => .ptr hφ⟩
  · unfold execOp; rw [ho]
    simp [Instr.alloc, h1, newVar, newRow, newObj, Sem.run]
  · have hz' : BC.toMx (.fz (z.map .raw)) = z.map raw := by simp [BC.toMx, raw]
    refine objAt_of rfl (by rw [hz', ← h2]; simp) fun j x hx => ?_
    rw [hz'] at hx
    have cs := Cs.raws (φ := φ) (O := tot E φ h') (w := w) z hc
    have hj : j < z.length := by have := (List.getElem?_eq_some_iff.1 hx).1; simpa using this
    refine ⟨cs.2.1 x (List.mem_of_getElem? hx), z[j], ?_, cs.2.2 j x _ hx (List.getElem?_eq_getElem hj)⟩
    have : v.cells.toList[j]? = some z[j] := by rw [h2]; exact List.getElem?_eq_getElem hj
    simpa using this

theorem T_box {t : TypeId} {x : Operand} (ho : o.op = .box t x) (ha : aop (.box t x) e h nx = some R) : OpT P o e.get h.get R.eff := by
  simp only [aop] at ha
  split at ha
  · rename_i v hx
    split at ha
    · rename_i hc
      simp only [Option.some.injEq] at ha; subst ha
      refine OpT.makes fun φ E h' w a _ hp _ => ?_
      have hr := cs_rel (hp x _ (by rw [ho]; simp [Op.operands]) hx) hc
      refine ⟨.pointer (some ⟨w.heap.size, 0, none⟩), { w with heap := w.heap.push (.cells (a.eval x).cells t) }, .cells (a.eval x).cells t (0, 0), ?_, wnew_push w _, ?_, fun φ' O hφ => .ptr hφ⟩
      · unfold execOp; rw [ho]
        simp [Instr.box, newVar, newRow, newObj, Sem.run]
      · have := objAt_mkBC (ty := t) hr
        simpa using this
    · cases ha
  · cases ha

/-! ### filling -/
theorem splice_get {α : Type} {l vs : List α} {off : Nat} (hle : off + vs.length ≤ l.length) (j : Nat) : (splice l off vs)[j]? = if j < off then l[j]? else if j < off + vs.length then vs[j - off]? else l[j]? := by
  unfold splice
  rw [List.append_assoc]
  have h1 : (l.take off).length = off := by simp; omega
  by_cases hj : j < off
  · rw [if_pos hj, List.getElem?_append_left (by rw [h1]; exact hj), List.getElem?_take, if_pos hj]
  · rw [if_neg hj, List.getElem?_append_right (by omega), h1]
    by_cases hj2 : j < off + vs.length
    · rw [if_pos hj2, List.getElem?_append_left (by omega)]
    · rw [if_neg hj2, List.getElem?_append_right (by omega), List.getElem?_drop]
      congr 1; omega
theorem splice_length {α : Type} {l vs : List α} {off : Nat} (hle : off + vs.length ≤ l.length) : (splice l off vs).length = l.length := by
  unfold splice; simp; omega
theorem fold_set (off : Nat) : ∀ (vs : List Value) (k : Nat) (arr : Array Value), off + k + vs.length ≤ arr.size → ∀ j : Nat,
    ((vs.zipIdx k).foldl (fun cs (p : Value × Nat) => cs.setIfInBounds (off + p.2) p.1) arr)[j]? = if j < off + k then arr[j]? else if j < off + k + vs.length then vs[j - (off + k)]? else arr[j]?
  | [], k, arr, _, j => by
    simp only [List.zipIdx_nil, List.foldl_nil, List.length_nil, Nat.add_zero]
    split <;> rfl
  | v :: vs, k, arr, hle, j => by
    simp only [List.length_cons] at hle
    rw [List.zipIdx_cons, List.foldl_cons, fold_set off vs (k + 1) _ (by simp; omega) j]
    simp only [List.length_cons]
    by_cases h1 : j < off + k
    · rw [if_pos (by omega), if_pos h1, Array.getElem?_setIfInBounds_ne (by omega)]
    · by_cases h2 : j = off + k
      · subst h2
        rw [if_pos (by omega), if_neg (by omega), if_pos (by omega)]
        simp [show off + k < arr.size by omega]
      · rw [if_neg (by omega), if_neg h1]
        by_cases h3 : j < off + k + (vs.length + 1)
        · rw [if_pos (by omega), if_pos h3, show j - (off + k) = (j - (off + (k + 1))) + 1 from by omega]
          simp
        · rw [if_neg (by omega), if_neg h3, Array.getElem?_setIfInBounds_ne (by omega)]
theorem fold_splice (off : Nat) (c : Array Value) (l : List Value) (hle : off + c.size ≤ l.length) : (c.zipIdx.foldl (fun cs (p : Value × Nat) => cs.setIfInBounds (off + p.2) p.1) l.toArray) = (splice l off c.toList).toArray := by
  rw [← Array.foldl_toList, Array.toList_zipIdx]
  apply Array.ext_getElem?
  intro j
  rw [fold_set off c.toList 0 l.toArray (by simpa using hle) j]
  simp only [Nat.add_zero, List.getElem?_toArray]
  rw [splice_get (by simpa using hle)]

theorem fill_ok {φ : PM} {E : Nat → Prop} {h' : HF} {w : World} {a : Act} (hp : Rel φ E h' w a e o) {place : Nat → Option (Nat × Nat)} : ∀ (ps : List (Nat × Operand)) (ps' : List (Nat × Nat × Operand)) (cells cs : List AV) (vs : List Value),
    (ps'.length = ps.length) → (∀ (j : Nat) i x, ps[j]? = some (i, x) → ∃ of sz, ps'[j]? = some (of, sz, x) ∧ place i = some (of, sz)) → (∀ p ∈ ps, p.2 ∈ o.op.operands) → Cs φ (tot E φ h') w cells vs → fillA cells e ps' = some cs →
    ∃ vs', Instr.fill place vs.toArray (ps.map fun p => (p.1, a.eval p.2)) = some vs'.toArray ∧ Cs φ (tot E φ h') w cs vs'
  | [], ps', cells, cs, vs, hl, _, _, hcs, hf => by
    cases ps' with
    | nil => simp only [fillA, Option.some.injEq] at hf; subst hf; exact ⟨vs, rfl, hcs⟩
    | cons _ _ => simp at hl
  | (i, x) :: ps, ps', cells, cs, vs, hl, hpl, hm, hcs, hf => by
    obtain ⟨of, sz, h1, h2⟩ := hpl 0 i x rfl
    cases ps' with
    | nil => simp at h1
    | cons p ps' =>
      simp at h1; subst h1
      simp only [fillA] at hf
      split at hf
      · rename_i v hv
        split at hf
        · rename_i hc
          simp only [Bool.and_eq_true, beq_iff_eq] at hc
          obtain ⟨⟨hc1, hc2⟩, hc3⟩ := hc
          have hr := cs_rel (hp x v (hm _ (List.mem_cons_self ..)) hv) hc3
          have hsz : (a.eval x).cells.size = sz := by have := hr.1; simp at this; omega
          have hle : of + sz ≤ vs.length := by rw [hcs.1]; exact Nat.le_of_ble_eq_true hc2
          obtain ⟨vs', g1, g2⟩ := fill_ok hp ps ps' _ cs _ (by simpa using hl) (fun j i x hj => by have := hpl (j + 1) i x (by simpa using hj); simpa using this) (fun p hp => hm p (List.mem_cons_of_mem _ hp)) (hcs.splice hr of) hf
          refine ⟨vs', ?_, g2⟩
          simp only [List.map_cons, Instr.fill, h2]
          have hcd : ((decide ((a.eval x).cells.size ≠ sz)) || decide (of + (a.eval x).cells.size > vs.toArray.size)) = false := by
            rw [hsz]; simp; omega
          rw [if_neg (by rw [hcd]; simp)]
          have := fold_splice of (a.eval x).cells vs (by rw [hsz]; exact hle)
          rw [← g1, ← this]
        · cases hf
      · cases hf
theorem partsT_ok {t : TypeId} : ∀ (ps : List (Nat × Operand)) (ps' : List (Nat × Nat × Operand)), partsT P t ps = some ps' → ps'.length = ps.length ∧ ∀ (j : Nat) i x, ps[j]? = some (i, x) → ∃ of sz, ps'[j]? = some (of, sz, x) ∧ placeT P t i = some (of, sz)
  | [], ps', h => by simp only [partsT, Option.some.injEq] at h; subst h; exact ⟨rfl, fun j i x hx => by simp at hx⟩
  | (i, x) :: ps, ps', h => by
    simp only [partsT] at h
    split at h
    · rename_i of sz l h1 h2
      simp only [Option.some.injEq] at h; subst h
      obtain ⟨g1, g2⟩ := partsT_ok ps l h2
      refine ⟨by simp [g1], fun j i' x' hj => ?_⟩
      cases j with
      | zero => simp at hj; obtain ⟨rfl, rfl⟩ := hj; exact ⟨of, sz, rfl, h1⟩
      | succ j => simpa using g2 j i' x' (by simpa using hj)
    · cases h

theorem mapM_sizes (w : World) : ∀ (fs : List Field), (fs.all fun f => (sizeT P f.type).isSome) = true → (fs.mapM (fun f => do pure (f.offset, ← sizeOf f.type)) : Sem (List (Nat × Nat))).run P w = .ok (fs.map fun f => (f.offset, (sizeT P f.type).getD 0)) w
  | [], _ => by simp
  | f :: fs, h => by
    simp only [List.all_cons, Bool.and_eq_true] at h
    obtain ⟨sz, hs⟩ := Option.isSome_iff_exists.1 h.1
    have h1 := run_sizeT hs w
    have ih := mapM_sizes w fs h.2
    simp only [List.mapM_cons, Sem.run_bind, h1, Result.andThen_ok, Sem.run_pure, ih, List.map_cons, hs, Option.getD_some]

theorem T_build {t : TypeId} {ps : Array (Nat × Operand)} {z : List Value} {ps' : List (Nat × Nat × Operand)} (ho : o.op = .build t ps) (hz : zeroT P t = some z) (hc : cellsOK z = true) (hps : partsT P t ps.toList = some ps')
    (hu : (∃ fs, P.underlying t = some (.struct fs) ∧ (fs.toList.all fun f => (sizeT P f.type).isSome) = true) ∨ ∃ n el sz, P.underlying t = some (.array n el) ∧ sizeT P el = some sz) (ha : aop (.build z ps') e h nx = some R) : OpT P o e.get h.get R.eff := by
  simp only [aop] at ha
  split at ha
  · rename_i cs hf
    rw [rv_some ha]
    refine OpT.reads fun φ E h' w a _ hp _ => ?_
    obtain ⟨v, h1, h2, _⟩ := run_zeroT hz w
    have hcells : v.cells = z.toArray := by rw [← h2]
    obtain ⟨g1, g2⟩ := partsT_ok ps.toList ps' hps
    have hops : ∀ p ∈ ps.toList, p.2 ∈ o.op.operands := fun p hp => by
      rw [ho]; simp only [Op.operands, List.mem_toArray, List.mem_map]; exact ⟨p, hp, rfl⟩
    have hmap : (ps.map fun x : Nat × Operand => (x.1, a.eval x.2)).toList = ps.toList.map fun p => (p.1, a.eval p.2) := by simp
    have fin : ∀ place : Nat → Option (Nat × Nat), (∀ i, placeT P t i ≠ none → place i = placeT P t i) → ∃ vs' : List Value, Instr.fill place v.cells (ps.map fun x : Nat × Operand => (x.1, a.eval x.2)).toList = some vs'.toArray ∧ RelV φ (tot E φ h') w (mkAgg cs) (.agg vs'.toArray) := by
      intro place hpl
      obtain ⟨vs', k1, k2⟩ := fill_ok (place := place) hp ps.toList ps' _ cs z g1 (fun j i x hj => by
        obtain ⟨of, sz, q1, q2⟩ := g2 j i x hj
        exact ⟨of, sz, q1, by rw [hpl i (by rw [q2]; simp), q2]⟩) hops (Cs.raws z hc) hf
      refine ⟨vs', by rw [hmap, hcells]; exact k1, ?_⟩
      unfold mkAgg
      cases hfs : allF cs with
      | none => exact .agg k2.1 k2.2.1 k2.2.2
      | some fs =>
        have he := allF_spec hfs
        refine .f (.agg fs vs' (by rw [k2.1, he]; simp) (fun x hx => k2.2.1 (.f x) (by rw [he]; exact List.mem_map.2 ⟨x, hx, rfl⟩)) fun j x u hx hu => ?_)
        have := k2.2.2 j (.f x) u (by rw [he, List.getElem?_map, hx]; rfl) hu
        cases this with
        | f h => exact h
    rcases hu with ⟨fs, hu, hall⟩ | ⟨n, el, sz, hu, hs⟩
    · obtain ⟨vs', k1, k2⟩ := fin (fun i => (fs.map fun f => (f.offset, (sizeT P f.type).getD 0))[i]?) (fun i hi => by
        unfold placeT at hi ⊢
        rw [hu] at hi ⊢
        simp only [Array.getElem?_map] at hi ⊢
        cases hf : fs[i]? with
        | none => rw [hf] at hi; simp at hi
        | some f =>
          simp only [Option.map_some, Option.bind_some]
          cases hs : sizeT P f.type with
          | none => rw [hf] at hi; simp [hs] at hi
          | some sz => simp)
      refine ⟨_, ?_, k2⟩
      have hm := mapM_sizes w fs.toList hall
      have hm' : (fs.mapM (fun f => do pure (f.offset, ← sizeOf f.type)) : Sem (Array (Nat × Nat))).run P w = .ok (fs.map fun f => (f.offset, (sizeT P f.type).getD 0)) w := by
        rw [Array.mapM_eq_mapM_toList]
        simp only [Sem.run_map, hm, Result.andThen_ok]
        congr 1
        apply Array.ext'; simp
      unfold execOp; rw [ho]
      simp only [Instr.build, Sem.run_bind, h1, Result.andThen_ok, run_underlying hu, hm', Sem.run_pure, k1]
    · obtain ⟨vs', k1, k2⟩ := fin (fun i => some (i * sz, sz)) (fun i hi => by
        unfold placeT; rw [hu]; simp [hs])
      refine ⟨_, ?_, k2⟩
      have h3 := run_sizeT hs w
      unfold execOp; rw [ho]
      simp only [Instr.build, Sem.run_bind, h1, Result.andThen_ok, run_underlying hu, h3, Sem.run_pure, k1]
  · cases ha

end
end Go.Proofs.YtjjplipoacljoaaDoor.AI
namespace Go.Proofs.YtjjplipoacljoaaDoor.AI
open Go.RowKit

section
variable {P : Program} {o : Oper} {e : Env} {h : Heap} {nx : Nat} {R : OpR}

theorem elemT_ok {t el : TypeId} (h : elemT P t = some el) : P.underlying t = some (.slice el) := by
  unfold elemT at h
  split at h
  · rename_i e hu; simp only [Option.some.injEq] at h; subst h; exact hu
  · cases h

theorem repl_length (z : List Value) : ∀ n, (repl z n).length = n * z.length
  | 0 => by simp [repl]
  | n + 1 => by simp [repl, repl_length z n, Nat.succ_mul]; omega
theorem repl_get (z : List Value) : ∀ (n j : Nat), j < n * z.length → (repl z n)[j]? = (z[j % z.length]?).map .raw
  | 0, j, h => by simp at h
  | n + 1, j, h => by
    have hz : 0 < z.length := by
      rcases Nat.eq_zero_or_pos z.length with h0 | h0
      · rw [h0] at h; simp at h
      · exact h0
    rw [repl]
    rcases Nat.lt_or_ge j z.length with hj | hj
    · rw [List.getElem?_append_left (by simpa using hj), List.getElem?_map, Nat.mod_eq_of_lt hj]
    · rw [List.getElem?_append_right (by simpa using hj), List.length_map, repl_get z n (j - z.length) (by rw [Nat.succ_mul] at h; omega), Nat.mod_eq_sub_mod hj]
/-- the cells of n zero elements -/
theorem zeros_get {v : Value} {z : List Value} (hv : v.cells.toList = z) (n sz : Nat) (hl : z.length = sz) (hsz : sz ≠ 0) (j : Nat) (hj : j < n * sz) :
    ((Array.range (n * sz)).map (fun i => v.cells[i % v.cells.size]!))[j]? = z[j % sz]? := by
  have hs : v.cells.size = sz := by rw [← hl, ← hv]; simp
  have hlt : j % sz < v.cells.size := by rw [hs]; exact Nat.mod_lt _ (by omega)
  rw [Array.getElem?_map, Array.getElem?_range]
  simp only [hj, if_true, Option.map_some, hs]
  rw [← hv, Array.getElem?_toList, getElem!_pos v.cells _ hlt, Array.getElem?_eq_getElem hlt]
theorem Cs.repl {φ : PM} {O : Nat → Prop} {w : World} {v : Value} {z : List Value} (hv : v.cells.toList = z) (n sz : Nat) (hl : z.length = sz) (hsz : sz ≠ 0) (hc : cellsOK z = true) :
    Cs φ O w ((repl z n).map .f) ((Array.range (n * sz)).map (fun i => v.cells[i % v.cells.size]!)).toList := by
  have key : ∀ (j : Nat) (x : AV), ((AI.repl z n).map AV.f)[j]? = some x → ∃ u, z[j % sz]? = some u ∧ x = raw u ∧ j < n * sz := by
    intro j x hx
    rw [List.getElem?_map] at hx
    have hj : j < n * z.length := by
      rcases Nat.lt_or_ge j (n * z.length) with h | h
      · exact h
      · rw [List.getElem?_eq_none (by rw [repl_length]; exact h)] at hx; cases hx
    rw [repl_get z n j hj, hl] at hx
    cases hu : z[j % sz]? with
    | none => rw [hu] at hx; cases hx
    | some u => rw [hu] at hx; simp at hx; exact ⟨u, rfl, hx.symm, by rw [← hl]; exact hj⟩
  refine ⟨by simp [repl_length, hl], fun x hx => ?_, fun j x u hx hu => ?_⟩
  · obtain ⟨j, hj⟩ := List.getElem?_of_mem hx
    obtain ⟨u, h1, rfl, _⟩ := key j x hj
    exact List.all_eq_true.1 hc u (List.mem_of_getElem? h1)
  · obtain ⟨u', h1, rfl, hj⟩ := key j x hx
    rw [Array.getElem?_toList, zeros_get hv n sz hl hsz j hj, h1] at hu
    cases hu; exact .f (.raw _)

theorem T_bsl {t el : TypeId} {n sz : Nat} {ps : Array (Nat × Operand)} {z : List Value} {ps' : List (Nat × Nat × Operand)} (ho : o.op = .buildSlice t n ps) (hu : P.underlying t = some (.slice el)) (hz : zeroT P el = some z) (hs : sizeT P el = some sz) (hc : cellsOK z = true) (hl : z.length = sz) (hsz : sz ≠ 0) (hb : n * sz ≤ 65536)
    (hps : partsT P t ps.toList = some ps') (ha : aop (.bsl el sz n z ps') e h nx = some R) : OpT P o e.get h.get R.eff := by
  simp only [aop] at ha
  split at ha
  · rename_i cs hf
    simp only [Option.some.injEq] at ha; subst ha
    refine OpT.makes fun φ E h' w a _ hp _ => ?_
    obtain ⟨v, h1, h2, _⟩ := run_zeroT hz w
    obtain ⟨g1, g2⟩ := partsT_ok ps.toList ps' hps
    have hops : ∀ p ∈ ps.toList, p.2 ∈ o.op.operands := fun p hp => by
      rw [ho]; simp only [Op.operands, List.mem_toArray, List.mem_map]; exact ⟨p, hp, rfl⟩
    have hmap : (ps.map fun x : Nat × Operand => (x.1, a.eval x.2)).toList = ps.toList.map fun p => (p.1, a.eval p.2) := by simp
    obtain ⟨vs', k1, k2⟩ := fill_ok (place := fun i => some (i * sz, sz)) hp ps.toList ps' _ cs _ g1 (fun j i x hj => by
      obtain ⟨of, s', q1, q2⟩ := g2 j i x hj
      unfold placeT at q2
      rw [hu] at q2; simp [hs] at q2
      obtain ⟨rfl, rfl⟩ := q2
      exact ⟨_, _, q1, rfl⟩) hops (Cs.repl h2 n sz hl hsz hc) hf
    have hcells : (Array.range (n * sz)).map ((if n * sz = 0 then #[] else v.cells)[· % (if n * sz = 0 then #[] else v.cells).size]!) = ((Array.range (n * sz)).map (fun i => v.cells[i % v.cells.size]!)).toList.toArray := by
      by_cases h0 : n * sz = 0
      · simp [h0]
      · rw [Array.toArray_toList]; simp only [if_neg h0]
    have hlen : vs'.length = n * sz := by
      have e1 := k2.1
      have e2 : cs.length = ((AI.repl z n).map AV.f).length := by
        have : ∀ (ps' : List (Nat × Nat × Operand)) (c0 c1 : List AV), fillA c0 e ps' = some c1 → c1.length = c0.length := by
          intro ps'
          induction ps' with
          | nil => intro c0 c1 h; simp only [fillA, Option.some.injEq] at h; rw [h]
          | cons p ps' ih =>
            intro c0 c1 h
            obtain ⟨of, s', x⟩ := p
            simp only [fillA] at h
            split at h
            · split at h
              · rename_i hcc
                simp only [Bool.and_eq_true, beq_iff_eq] at hcc
                rw [ih _ _ h, splice_length (by rw [hcc.1.1]; exact Nat.le_of_ble_eq_true hcc.1.2)]
              · cases h
            · cases h
        exact this ps' _ _ hf
      rw [e1, e2]; simp [repl_length, hl]
    refine ⟨.slice (some ⟨w.heap.size, 0, none⟩) n n, { w with heap := w.heap.push (.cells vs'.toArray el) }, .cells vs'.toArray el (0, 0), ?_, wnew_push w _, objAt_mkBC k2, fun φ' O hφ => ?_⟩
    · have h3 := run_sizeT hs w
      have hk : Instr.fill (fun i => some (i * sz, sz)) ((Array.range (n * sz)).map ((if n * sz = 0 then #[] else v.cells)[· % (if n * sz = 0 then #[] else v.cells).size]!)) (ps.map fun x : Nat × Operand => (x.1, a.eval x.2)).toList = some vs'.toArray := by
        rw [hcells, hmap]; exact k1
      unfold execOp; rw [ho]
      simp only [Instr.buildSlice, Sem.run_bind, run_underlying hu, Result.andThen_ok, h3]
      rw [if_neg (by omega)]
      by_cases h0 : n * sz = 0
      · simp only [if_pos h0] at hk ⊢
        simp only [Sem.run_bind, Sem.run_pure, Result.andThen_ok, hk, newRow, newObj, Sem.run]
      · simp only [if_neg h0] at hk ⊢
        simp only [Sem.run_bind, Sem.run_pure, Result.andThen_ok, h1, hk, newRow, newObj, Sem.run]
    · simp only []
      split
      · rename_i h0; subst h0; exact .emp
      refine .row hφ (Nat.le_refl _) ?_ ⟨el, ?_⟩
      · have : n ≤ n * sz := Nat.le_mul_of_pos_right _ (by omega)
        unfold maxLen; omega
      · unfold World.shape?
        simp [hlen]
  · cases ha

end
end Go.Proofs.YtjjplipoacljoaaDoor.AI
namespace Go.Proofs.YtjjplipoacljoaaDoor.AI
open Go.RowKit

/-- A block goes on under a new name, written. -/
theorem Rep.wren {φ : PM} {E : Nat → Prop} {h : HF} {w w' : World} (r : Rep φ E h w) {id nx k : Nat} {b b' : Blk} {ob : Obj} (hb : h id = some b) (hk : φ id = some k) (hnx : φ nx = none) (hw : WSet w w' k ob) (hob : ObjAt φ (tot E φ h) w b' ob) (nw : HF) (hnw : nw nx = some b') (hnid : nw id = none) :
    ∃ φ', φ' nx = some k ∧ Moves φ φ' h (updF h [nx, id] nw) w w' ∧ (∀ i k, φ' i = some k → φ i = some k ∨ i ∈ [nx]) ∧ Rep φ' E (updF h [nx, id] nw) w' := by
  have hne : nx ≠ id := fun e => by rw [e, hk] at hnx; cases hnx
  have hsub : ∀ i x, updF h [nx, id] nw i = some x → i ≠ nx → h i = some x ∧ i ≠ id := fun i x hx hi => by
    unfold updF at hx
    by_cases hd : i = id
    · subst hd; simp [hnid] at hx
    · simp [hi, hd] at hx; exact ⟨hx, hd⟩
  have hφ : ∀ i, i ≠ nx → (if i = nx then some k else φ i) = φ i := fun i hi => by simp [hi]
  have m : Moves φ (fun i => if i = nx then some k else φ i) h (updF h [nx, id] nw) w w' := by
    refine ⟨fun i k' hk' => ?_, ⟨hw.os, hw.tape, hw.output, by rw [hw.size]; exact Nat.le_refl _, fun j hj ho => ?_, fun j _ => hw.shp j⟩, ?_⟩
    · have : i ≠ nx := fun e => by rw [e, hnx] at hk'; cases hk'
      rw [hφ i this]; exact hk'
    · exact hw.other j (fun e => ho (e ▸ ⟨id, b, hb, hk⟩))
    · rintro j hj ⟨i, x, h1, h2⟩
      by_cases hi : i = nx
      · simp [hi] at h2; subst h2; exact ⟨id, b, hb, hk⟩
      · have h3 : φ i = some j := by simpa [hi] using h2
        exact ⟨i, x, (hsub i x h1 hi).1, h3⟩
  refine ⟨_, by simp, m, fun i k' hk' => ?_, ⟨fun i j x y kk hi hj h1 h2 => ?_, fun i x hi => ?_, fun k hk => Nat.lt_of_lt_of_le (r.el k hk) m.ext.size, fun g cells hg => m.keepF (r.gl g cells hg)⟩⟩
  · by_cases hi : i = nx
    · right; simp [hi]
    · left; rw [hφ i hi] at hk'; exact hk'
  · by_cases hi' : i = nx
    · by_cases hj' : j = nx
      · rw [hi', hj']
      · exfalso
        rw [hφ j hj'] at h2
        simp [hi'] at h1; subst h1
        obtain ⟨q1, q2⟩ := hsub j y hj hj'
        exact q2 (r.inj j id y b k q1 hb h2 hk)
    · rw [hφ i hi'] at h1
      obtain ⟨p1, p2⟩ := hsub i x hi hi'
      by_cases hj' : j = nx
      · exfalso
        simp [hj'] at h2; subst h2
        exact p2 (r.inj i id x b k p1 hb h1 hk)
      · rw [hφ j hj'] at h2
        exact r.inj i j x y kk p1 (hsub j y hj hj').1 h1 h2
  · by_cases hi' : i = nx
    · subst hi'
      have : x = b' := by unfold updF at hi; simp [hnw] at hi; exact hi.symm
      subst this
      obtain ⟨k', h1, h2, _⟩ := r.at_ id b hb
      rw [hk] at h1; cases h1
      exact ⟨k, by simp, h2, ob, hw.at_, hob.mono fun _ _ h => m.keep h⟩
    · obtain ⟨p1, p2⟩ := hsub i x hi hi'
      obtain ⟨k', h1, h2, ob', h3, h4⟩ := r.at_ i x p1
      have hne' : k' ≠ k := fun e => p2 (r.inj i id x b k p1 hb (e ▸ h1) hk)
      exact ⟨k', by rw [hφ i hi']; exact h1, h2, ob', by rw [hw.other k' hne']; exact h3, h4.mono fun _ _ h => m.keep h⟩

/-- cells of an object, as lists -/
theorem Rep.cs {φ : PM} {E : Nat → Prop} {h' : HF} {w : World} (hrep : Rep φ E h' w) {id k : Nat} {b : Blk} (hb : h' id = some b) (hk : φ id = some k) (hc : b.c.isCells = true) :
    ∃ arr, w.heap[k]? = some (.cells arr b.ty (0, 0)) ∧ Cs φ (tot E φ h') w b.c.toMx (arr.toList.take b.c.toMx.length) ∧ b.c.toMx.length ≤ arr.size := by
  obtain ⟨k', h1, _, h2⟩ := hrep.at_ id b hb
  rw [hk] at h1; cases h1
  obtain ⟨arr, h3, h4, h5⟩ := h2.cells hc
  rw [BC.len_toMx hc] at h4
  refine ⟨arr, h3, ⟨by simp; omega, fun x hx => ?_, fun j x v hx hv => ?_⟩, h4⟩
  · obtain ⟨j, hj⟩ := List.getElem?_of_mem hx
    exact (h5 j x (by rw [BC.get_toMx hc]; exact hj)).1
  · obtain ⟨_, u, h6, h7⟩ := h5 j x (by rw [BC.get_toMx hc]; exact hx)
    rw [List.getElem?_take] at hv
    split at hv
    · rw [Array.getElem?_toList, h6] at hv; cases hv; exact h7
    · cases hv

section
variable {P : Program} {o : Oper} {e : Env} {h : Heap} {nx : Nat} {R : OpR}

theorem bytesT_ok {t : TypeId} {b : Nat} (hb : bytesT P t = some b) : ∃ i, P.info? t = some i ∧ i.bytes = b := by
  unfold bytesT at hb
  cases hi : P.info? t with
  | none => rw [hi] at hb; cases hb
  | some i => rw [hi] at hb; simp at hb; exact ⟨i, rfl, hb⟩
theorem roomy_ok {n b : Nat} (h : roomy n b = true) : n ≤ 1099511627776 ∧ n * b ≤ 1099511627776 := by
  simp only [roomy, Bool.and_eq_true] at h
  exact ⟨Nat.le_of_ble_eq_true h.1, Nat.le_of_ble_eq_true h.2⟩

theorem wrap64 {n : Int} (h1 : -9223372036854775808 ≤ n) (h2 : n ≤ 9223372036854775807) : IntKind.wrap .i64 n = n := by
  rw [← wrapK_eq]
  have : (ile (-9223372036854775808) n && ile n 9223372036854775807) = true := by simp [ile, h1, h2]
  simp only [wrapK, this, if_true]

theorem T_mksl {t el : TypeId} {sz bytes : Nat} {z : List Value} {l c : Operand} (ho : o.op = .makeSlice t l c) (hu : P.underlying t = some (.slice el)) (hz : zeroT P el = some z) (hs : sizeT P el = some sz) (hb : bytesT P el = some bytes) (hc : cellsOK z = true) (hl : z.length = sz) (hsz : sz ≠ 0)
    (ha : aop (.mksl el sz bytes z l c) e h nx = some R) : OpT P o e.get h.get R.eff := by
  simp only [aop] at ha
  split at ha
  · rename_i k1 n k2 m hx hy
    split at ha
    · rename_i hcd
      simp only [ile, Bool.and_eq_true, decide_eq_true_eq] at hcd
      obtain ⟨⟨h0, h1⟩, h2⟩ := hcd
      obtain ⟨r1, r2⟩ := roomy_ok h2
      simp only [Option.some.injEq] at ha; subst ha
      refine OpT.makes fun φ E h' w a _ hp _ => ?_
      have e1 := raw_eq (hp l _ (by rw [ho]; simp [Op.operands]) hx)
      have e2 := raw_eq (hp c _ (by rw [ho]; simp [Op.operands]) hy)
      obtain ⟨v, z1, z2, _⟩ := run_zeroT hz w
      obtain ⟨i, i1, i2⟩ := bytesT_ok hb
      have s1 := run_sizeT hs w
      have w1 : IntKind.wrap .i64 n = n := wrap64 (by omega) (by omega)
      have w2 : IntKind.wrap .i64 m = m := wrap64 (by omega) (by omega)
      have hbm : (bytes : Int) * m = ((m.toNat * bytes : Nat) : Int) := by
        rw [Int.natCast_mul, Int.toNat_of_nonneg (by omega), Int.mul_comm]
      have t1 : ¬ (m < 0 ∨ (281474976710656 : Int) < bytes * m) := by rw [hbm]; omega
      have hr : ¬ (m.toNat * bytes > roomBytes) := by unfold roomBytes; omega
      have hn0 : m.toNat * sz = 0 → m.toNat = 0 := fun h => (Nat.mul_eq_zero.1 h).resolve_right hsz
      let cells : Array Value := (Array.range (m.toNat * sz)).map (fun i => v.cells[i % v.cells.size]!)
      refine ⟨.slice (some ⟨w.heap.size, 0, none⟩) n.toNat m.toNat, { w with heap := w.heap.push (.cells cells el) }, .cells cells el (0, 0), ?_, wnew_push w _, ?_, fun φ' O hφ => ?_⟩
      · unfold execOp; rw [ho]
        by_cases hm0 : m.toNat * sz = 0
        · obtain rfl : m = 0 := by have := hn0 hm0; omega
          obtain rfl : n = 0 := by omega
          simp [Instr.makeSlice, run_underlying hu, e1, e2, asInt, asIntOf, typeInfo, i1, w1, askRoom, s1, newRow, newObj, Sem.run, cells]
          rw [show Array.range 0 = #[] from rfl]; simp
        · simp [Instr.makeSlice, run_underlying hu, e1, e2, asInt, asIntOf, typeInfo, i1, i2, w1, w2, t1, show ¬ n < 0 by omega, show ¬ m < n by omega, askRoom, hr, s1, hm0, z1, newRow, newObj, Sem.run, cells]
      · have cs := Cs.repl (φ := φ) (O := tot E φ h') (w := w) z2 m.toNat sz hl hsz hc
        have hle : n.toNat ≤ m.toNat := by omega
        have hlen : n.toNat * sz ≤ m.toNat * sz := Nat.mul_le_mul_right _ hle
        refine objAt_of rfl (by simp [BC.toMx, repl_length, hl, cells]; exact hlen) fun j x hx => ?_
        simp only [BC.toMx, List.getElem?_map] at hx
        have hj : j < n.toNat * z.length := by
          rcases Nat.lt_or_ge j (n.toNat * z.length) with h | h
          · exact h
          · rw [List.getElem?_eq_none (by rw [repl_length]; exact h)] at hx; cases hx
        have hj2 : j < m.toNat * z.length := by rw [hl] at hj ⊢; omega
        rw [repl_get z _ j hj, ← repl_get z m.toNat j hj2] at hx
        have hx2 : ((repl z m.toNat).map AV.f)[j]? = some x := by rw [List.getElem?_map]; exact hx
        have hj3 : j < cells.toList.length := by simp [cells]; rw [← hl]; exact hj2
        exact ⟨cs.2.1 x (List.mem_of_getElem? hx2), cells.toList[j], by rw [← Array.getElem?_toList]; exact List.getElem?_eq_getElem hj3, cs.2.2 j x _ hx2 (List.getElem?_eq_getElem hj3)⟩
      · refine .row hφ (by omega) (by unfold maxLen; omega) ⟨el, ?_⟩
        unfold World.shape?
        simp [cells]
    · cases ha
  · cases ha

theorem T_store {t : TypeId} {x y : Operand} {sz : Nat} (ho : o.op = .store t x y) (hs : sizeT P t = some sz) (ha : aop (.store sz x y) e h nx = some R) : OpT P o e.get h.get R.eff := by
  simp only [aop] at ha
  split at ha
  · rename_i p v hx hy
    unfold astore at ha
    split at ha
    · rename_i id off
      split at ha
      · rename_i b hb
        split at ha
        · rename_i hl
          split at ha
          · rename_i c' hput
            simp only [Option.some.injEq] at ha; subst ha
            unfold BC.put at hput
            split at hput
            · rename_i hcc
              simp only [Bool.and_eq_true] at hcc
              obtain ⟨⟨c1, c2⟩, c3⟩ := hcc
              have c2 := Nat.le_of_ble_eq_true c2
              have hl : v.cs.length = sz := by simpa using hl
              have hc' : c'.toMx = splice b.c.toMx off v.cs ∧ c'.isCells = true := by
                split at hput
                · rename_i l ys hbl hys
                  simp only [Option.some.injEq] at hput; subst hput
                  refine ⟨?_, rfl⟩
                  have hv := allF_spec hys
                  rw [hv, hbl]
                  simp only [BC.toMx]
                  unfold splice
                  simp [List.map_take, List.map_drop]
                · simp only [Option.some.injEq] at hput; subst hput; exact ⟨rfl, rfl⟩
              refine OpT.writes hb fun φ E h' w a hrd hb' hp hrep => ?_
              have hr := cs_rel (hp y _ (by rw [ho]; simp [Op.operands]) hy) c3
              have hpx := hp x _ (by rw [ho]; simp [Op.operands]) hx
              generalize hz : a.eval x = pv at hpx
              cases hpx with
              | @ptr _ _ k hφ =>
                obtain ⟨arr, g1, g2, g3⟩ := hrep.cs hb' hφ c1
                have hvl : (a.eval y).cells.toList.length = sz := by rw [hr.1]; exact hl
                rw [BC.len_toMx c1] at c2
                have hst := run_storeCells_at (P := P) k off b.ty (a.eval y).cells.toList 0 arr w g1 (by rw [hvl]; omega) hr.one
                let arr' : Array Value := (arr.toList.take off ++ (a.eval y).cells.toList ++ arr.toList.drop (off + sz)).toArray
                have hsize : arr'.size = arr.size := by simp only [arr', List.size_toArray, List.length_append, List.length_take, List.length_drop, Array.length_toList, hvl]; omega
                refine ⟨.skip, w.setRow k arr', k, .cells arr' b.ty (0, 0), ?_, hφ, WSet.setRow g1 hsize, ?_, undef, .inr ⟨rfl, rfl⟩, .f (.raw _)⟩
                · have s1 := run_sizeT hs w
                  have hvs : (a.eval y).cells.size = sz := by simpa using hvl
                  simp only [Nat.add_zero, hvl] at hst
                  unfold execOp; rw [ho]
                  simp [Instr.storeAt, hz, Instr.sureAddr, storeVar, s1, hvs, hst, arr']
                · refine objAt_of hc'.2 (by rw [hc'.1, splice_length (by omega), hsize]; exact g3) fun j q hq => ?_
                  rw [hc'.1, splice_get (by omega)] at hq
                  have ha' : arr'[j]? = if j < off then arr.toList[j]? else if j < off + sz then (a.eval y).cells.toList[j - off]? else arr.toList[j]? := by
                    have := splice_get (l := arr.toList) (vs := (a.eval y).cells.toList) (off := off) (by have := hvl; simp only [Array.length_toList] at this ⊢; omega) j
                    unfold splice at this
                    rw [hvl] at this
                    simp only [arr', List.getElem?_toArray]
                    exact this
                  have old : b.c.toMx[j]? = some q → q.isCell = true ∧ ∃ u, arr.toList[j]? = some u ∧ RelV φ (tot E φ h') w q u := fun hq => by
                    have hj : j < b.c.toMx.length := (List.getElem?_eq_some_iff.1 hq).1
                    have hj2 : j < arr.toList.length := by simp; omega
                    refine ⟨g2.2.1 q (List.mem_of_getElem? hq), arr.toList[j], List.getElem?_eq_getElem hj2, g2.2.2 j q _ hq ?_⟩
                    rw [List.getElem?_take, if_pos hj, List.getElem?_eq_getElem hj2]
                  rw [ha']
                  by_cases h1 : j < off
                  · rw [if_pos h1] at hq ⊢; exact old hq
                  · rw [if_neg h1] at hq ⊢
                    by_cases h2 : j < off + sz
                    · rw [if_pos (by omega)] at hq
                      rw [if_pos h2]
                      have hj3 : j - off < (a.eval y).cells.toList.length := by omega
                      exact ⟨hr.2.1 q (List.mem_of_getElem? hq), _, List.getElem?_eq_getElem hj3, hr.2.2 _ q _ hq (List.getElem?_eq_getElem hj3)⟩
                    · rw [if_neg (by omega)] at hq
                      rw [if_neg h2]; exact old hq
            · cases hput
          · cases ha
        · cases ha
      · cases ha
    · cases ha
  · cases ha

end
end Go.Proofs.YtjjplipoacljoaaDoor.AI
namespace Go.Proofs.YtjjplipoacljoaaDoor.AI
open Go.RowKit

section
variable {P : Program} {o : Oper} {e : Env} {h : Heap} {nx : Nat} {R : OpR}

theorem T_slc {t el : TypeId} {sz : Nat} {x : Operand} {lo hi mx : Option Operand} (ho : o.op = .slice t x lo hi mx) (hu : P.underlying t = some (.slice el)) (hs : sizeT P el = some sz) (ha : aop (.slc sz x lo hi mx) e h nx = some R) : OpT P o e.get h.get R.eff := by
  simp only [aop] at ha
  split at ha
  · rename_i v hx
    split at ha
    · -- [:0:0]
      rename_i k k'
      split at ha
      · rename_i hsl
        rw [rv_some ha]
        refine OpT.reads fun φ E h' w a _ hp _ => ?_
        have hr := hp x _ (by rw [ho]; simp [Op.operands]) hx
        have hz : ∃ A n c, a.eval x = .slice A n c := by
          generalize a.eval x = z at hr
          obtain ⟨n, hn⟩ := Option.isSome_iff_exists.1 hsl
          unfold AV.slen at hn
          split at hn
          · cases hr with
            | f hr => cases hr with
              | nil => exact ⟨_, _, _, rfl⟩
              | sl => exact ⟨_, _, _, rfl⟩
          · cases raw_eq hr; exact ⟨_, _, _, rfl⟩
          · cases hr; exact ⟨_, _, _, rfl⟩
          · cases hr; exact ⟨_, _, _, rfl⟩
          · cases hr; exact ⟨_, _, _, rfl⟩
          · cases hn
        obtain ⟨A, n, c, hz⟩ := hz
        have s1 := run_sizeT hs w
        refine ⟨.slice A 0 0, ?_, .emp⟩
        unfold execOp; rw [ho]
        have z0 : ∀ k, a.eval (.const (.int k 0)) = .int k 0 := fun _ => rfl
        simp [Instr.sliceAt, Instr.slice, run_underlying hu, hz, Instr.sliceBounds, Instr.sliceBound, asIntOf, s1, z0]
      · cases ha
    · -- [:j]
      rename_i b
      split at ha
      · rename_i id sz' n k j hb
        split at ha
        · rename_i hc
          simp only [ile, Bool.and_eq_true, decide_eq_true_eq, beq_iff_eq] at hc
          obtain ⟨⟨rfl, h0⟩, h1⟩ := hc
          rw [rv_some ha]
          refine OpT.reads fun φ E h' w a _ hp _ => ?_
          have hr := hp x _ (by rw [ho]; simp [Op.operands]) hx
          have hbv := raw_eq (hp b _ (by rw [ho]; simp [Op.operands]) hb)
          generalize hz : a.eval x = z at hr
          cases hr with
          | @row _ _ _ c q hφ hn hc hsh =>
            have s1 := run_sizeT hs w
            refine ⟨.slice (some ⟨q, 0, none⟩) j.toNat c, ?_, .row hφ (by omega) hc hsh⟩
            unfold execOp; rw [ho]
            simp [Instr.sliceAt, Instr.slice, run_underlying hu, hz, Instr.sliceBounds, Instr.sliceBound, asIntOf, s1, hbv, h0, show j ≤ c by omega, addr_add]
        · cases ha
      · cases ha
    · -- [j:]
      rename_i b
      split at ha
      · rename_i id sz' n k j hb
        split at ha
        · rename_i hc
          simp only [ile, ilt, Bool.and_eq_true, decide_eq_true_eq, beq_iff_eq] at hc
          obtain ⟨⟨rfl, h0⟩, h1⟩ := hc
          rw [rv_some ha]
          refine OpT.reads fun φ E h' w a _ hp _ => ?_
          have hr := hp x _ (by rw [ho]; simp [Op.operands]) hx
          have hbv := raw_eq (hp b _ (by rw [ho]; simp [Op.operands]) hb)
          generalize hz : a.eval x = z at hr
          cases hr with
          | @row _ _ _ c q hφ hn hc hsh =>
            have s1 := run_sizeT hs w
            refine ⟨.slice (some ⟨q, 0 + j.toNat * sz', none⟩) (n - j.toNat) (c - j.toNat), ?_, ?_⟩
            · unfold execOp; rw [ho]
              simp [Instr.sliceAt, Instr.slice, run_underlying hu, hz, Instr.sliceBounds, Instr.sliceBound, asIntOf, s1, hbv, h0, show j ≤ n by omega, show ¬ c = j.toNat by omega, addr_add]
            · rw [Nat.zero_add]; exact .sl hφ (by omega) (by omega)
        · cases ha
      · cases ha
    · cases ha
  · cases ha

/-- the cells of a slice, as the walk knows them -/
theorem row_ok {sz : Nat} {x : AV} {src : List AV} {m : Nat} {rd : List Nat} (hrow : x.row? h sz = some (src, m, rd)) {φ : PM} {E : Nat → Prop} {h' : HF} {w : World} (hrd : ∀ i ∈ rd, h' i = h.get i) (hrep : Rep φ E h' w) {v : Value} (hr : RelV φ (tot E φ h') w x v) :
    ∃ A c vs, v = .slice A m c ∧ Cs φ (tot E φ h') w src vs ∧ vs.length = m * sz ∧ (A = none → vs = []) ∧ (∀ ad, A = some ad → ∀ (j : Nat) u, vs[j]? = some u → w.cell? (ad.add j) = some u) := by
  have emp : ∀ A c, v = .slice A 0 c → src = [] → m = 0 → ∃ A c vs, v = .slice A m c ∧ Cs φ (tot E φ h') w src vs ∧ vs.length = m * sz ∧ (A = none → vs = []) ∧ (∀ ad, A = some ad → ∀ (j : Nat) u, vs[j]? = some u → w.cell? (ad.add j) = some u) := by
    rintro A c rfl rfl rfl
    exact ⟨A, c, [], rfl, ⟨rfl, (by intro x hx; cases hx), (by intro j x v hx; simp at hx)⟩, by simp, fun _ => rfl, by intro ad _ j u hu; simp at hu⟩
  have own : ∀ (id off n c k : Nat) (b : Blk), φ id = some k → h' id = some b → b.c.isCells = true → off + n * sz ≤ b.c.len → v = .slice (some ⟨k, off, none⟩) n c → src = (b.c.toMx.drop off).take (n * sz) → m = n →
      ∃ A c vs, v = .slice A m c ∧ Cs φ (tot E φ h') w src vs ∧ vs.length = m * sz ∧ (A = none → vs = []) ∧ (∀ ad, A = some ad → ∀ (j : Nat) u, vs[j]? = some u → w.cell? (ad.add j) = some u) := by
    rintro id off n c k b hφ hb hc hle rfl rfl rfl
    obtain ⟨arr, g1, g2, g3⟩ := hrep.cs hb hφ hc
    rw [BC.len_toMx hc] at hle
    refine ⟨_, c, ((arr.toList.take b.c.toMx.length).drop off).take (m * sz), rfl, (g2.drop off).take _, ?_, (fun h => by cases h), ?_⟩
    · simp; omega
    · intro ad had j u hu
      cases had
      rw [addr_add]
      rw [List.getElem?_take] at hu
      split at hu
      · rw [List.getElem?_drop, List.getElem?_take] at hu
        split at hu
        · rw [Array.getElem?_toList] at hu
          simp [World.cell?, g1, hu]
        · cases hu
      · cases hu
  unfold AV.row? at hrow
  split at hrow
  · rename_i cells n
    split at hrow
    · rename_i hle
      have hle := Nat.le_of_ble_eq_true hle
      simp only [Option.some.injEq, Prod.mk.injEq] at hrow
      obtain ⟨rfl, rfl, rfl⟩ := hrow
      cases hr with
      | f hr =>
        cases hr with
        | nil a c hc => exact emp a c rfl (by simp) rfl
        | sl _ _ c b off us hn hc hO hb hcl hu hr =>
          refine ⟨_, c, (List.range (n * sz)).map us, rfl, ⟨by simp; omega, fun x hx => ?_, fun j x u hx hu' => ?_⟩, by simp, (fun h => by cases h), ?_⟩
          · obtain ⟨y, hy, rfl⟩ := List.mem_map.1 hx
            exact hcl y (List.mem_of_mem_take hy)
          · obtain ⟨rfl, hj⟩ := getD_range us _ _ _ hu'
            rw [List.getElem?_map, List.getElem?_take, if_pos hj] at hx
            cases hq : cells[j]? with
            | none => rw [hq] at hx; cases hx
            | some q => rw [hq] at hx; simp at hx; subst hx; exact .f (hr j q hq)
          · intro ad had j u hu'
            cases had
            obtain ⟨rfl, hj⟩ := getD_range us _ _ _ hu'
            rw [addr_add]; exact hu j (by omega)
    · cases hrow
  · simp only [Option.some.injEq, Prod.mk.injEq] at hrow
    obtain ⟨rfl, rfl, rfl⟩ := hrow
    exact emp none 0 (raw_eq hr) rfl rfl
  · simp only [Option.some.injEq, Prod.mk.injEq] at hrow
    obtain ⟨rfl, rfl, rfl⟩ := hrow
    cases hr with
    | @emp a => exact emp a 0 rfl rfl rfl
  · rename_i id sz' n
    split at hrow
    · rename_i hsz
      split at hrow
      · rename_i b hb
        split at hrow
        · rename_i hc
          simp only [Bool.and_eq_true] at hc
          simp only [Option.some.injEq, Prod.mk.injEq] at hrow
          obtain ⟨rfl, rfl, rfl⟩ := hrow
          cases hr with
          | @row _ _ _ c k hφ hn hc' hsh =>
            exact own id 0 n c k b hφ (by rw [hrd id (by simp)]; exact hb) hc.1 (by rw [Nat.zero_add]; exact Nat.le_of_ble_eq_true hc.2) rfl (by simp) rfl
        · cases hrow
      · cases hrow
    · cases hrow
  · rename_i id off n
    split at hrow
    · rename_i b hb
      split at hrow
      · rename_i hc
        simp only [Bool.and_eq_true] at hc
        simp only [Option.some.injEq, Prod.mk.injEq] at hrow
        obtain ⟨rfl, rfl, rfl⟩ := hrow
        cases hr with
        | @sl _ _ _ c k hφ hn hc' => exact own id off n c k b hφ (by rw [hrd id (by simp)]; exact hb) hc.1 (Nat.le_of_ble_eq_true hc.2) rfl rfl rfl
      · cases hrow
    · cases hrow
  · cases hrow

theorem row_src {sz : Nat} {x : AV} {src : List AV} {m : Nat} {rd : List Nat} (hrow : x.row? h sz = some (src, m, rd)) {φ : PM} {E : Nat → Prop} {h' : HF} {w : World} (hrd : ∀ i ∈ rd, h' i = h.get i) (hrep : Rep φ E h' w) {v : Value} (hr : RelV φ (tot E φ h') w x v) {tx el : TypeId} (hk : P.underlying tx = some (.slice el)) :
    ∃ vs, Src P sz tx v m vs w ∧ Cs φ (tot E φ h') w src vs := by
  obtain ⟨A, c, vs, rfl, h1, h2, h3, h4⟩ := row_ok hrow hrd hrep hr
  refine ⟨vs, ?_, h1⟩
  cases A with
  | none =>
    have := h3 rfl
    subst this
    have hm : m * sz = 0 := by simpa using h2.symm
    refine ⟨.inl ⟨el, hk⟩, fun _ => rfl, run_firstCells_none w sz m m c, run_firstCells_none w.drew sz m m c, by simp [hm], fun _ h => by cases h⟩
  | some ad => exact Src.ofSlice w hk ad m c vs h2 (h4 ad rfl) h1.one

theorem memL {x : Nat} : ∀ {l : List Nat}, mem x l = true ↔ x ∈ l
  | [] => by simp [mem]
  | y :: r => by
    simp only [mem, Bool.or_eq_true, memL (l := r), List.mem_cons]
    constructor
    · rintro (h | h)
      · exact .inl (Nat.eq_of_beq_eq_true h).symm
      · exact .inr h
    · rintro (h | h)
      · subst h; exact .inl (Nat.beq_refl x)
      · exact .inr h

theorem T_copy {t u el el' : TypeId} {d x : Operand} {sz : Nat} (ho : o.op = .call { callee := .builtin .copy, args := #[d, x], argTypes := #[t, u] }) (hu : P.underlying t = some (.slice el)) (hu' : P.underlying u = some (.slice el')) (hs : sizeT P el = some sz) (ha : aop (.copy sz d x) e h nx = some R) : OpT P o e.get h.get R.eff := by
  simp only [aop] at ha
  split at ha
  · rename_i id sz' n y hd hx
    split at ha
    · rename_i blk src m rd hblk hrow
      split at ha
      · rename_i hc
        simp only [Bool.and_eq_true, beq_iff_eq, Bool.not_eq_true'] at hc
        obtain ⟨⟨rfl, hmem⟩, hlen⟩ := hc
        split at ha
        · rename_i c' hput
          simp only [Option.some.injEq] at ha; subst ha
          unfold BC.put at hput
          split at hput
          · rename_i hcc
            simp only [Bool.and_eq_true] at hcc
            obtain ⟨⟨c1, c2⟩, c3⟩ := hcc
            have c2 := Nat.le_of_ble_eq_true c2
            rw [Nat.zero_add] at c2
            have hc' : c'.toMx = splice blk.c.toMx 0 (src.take (Nat.min m n * sz')) ∧ c'.isCells = true := by
              split at hput
              · rename_i l ys hbl hys
                simp only [Option.some.injEq] at hput; subst hput
                refine ⟨?_, rfl⟩
                have hv := allF_spec hys
                rw [hv, hbl]
                simp only [BC.toMx]
                unfold splice
                simp [List.map_take, List.map_drop]
              · simp only [Option.some.injEq] at hput; subst hput; exact ⟨rfl, rfl⟩
            refine OpT.writes hblk fun φ E h' w a hrd hb' hp hrep => ?_
            have hpd := hp d _ (by rw [ho]; simp [Op.operands, Call.operands]) hd
            have hpx := hp x _ (by rw [ho]; simp [Op.operands, Call.operands]) hx
            obtain ⟨A, c, vs, hv, q1, q2, q3, q4⟩ := row_ok hrow (fun i hi => hrd i (by simp [hi])) hrep hpx
            generalize hz : a.eval d = pv at hpd
            cases hpd with
            | @row _ _ _ cap k hφ hn hcap hsh =>
              obtain ⟨arr, g1, g2, g3⟩ := hrep.cs hb' hφ c1
              rw [BC.len_toMx c1] at c2
              have hmn : Nat.min m n ≤ m := Nat.min_le_left _ _
              have hle : Nat.min m n * sz' ≤ m * sz' := Nat.mul_le_mul_right _ hmn
              let ns := vs.take (Nat.min m n * sz')
              have hnl : ns.length = Nat.min m n * sz' := by simp only [ns, List.length_take, q2]; omega
              have hsl : (src.take (Nat.min m n * sz')).length = Nat.min m n * sz' := by rw [List.length_take, ← q1.1, q2]; omega
              have csn := q1.take (Nat.min m n * sz')
              rw [hsl] at c2
              have hst := run_storeCells_at (P := P) k 0 blk.ty ns 0 arr w g1 (by rw [hnl]; omega) csn.one
              let arr' : Array Value := (arr.toList.take 0 ++ ns ++ arr.toList.drop (0 + Nat.min m n * sz')).toArray
              have hsize : arr'.size = arr.size := by simp only [arr', List.size_toArray, List.length_append, List.length_take, List.length_drop, Array.length_toList, hnl]; omega
              have hfc : (Builtin.firstCells sz' (Nat.min m n) (.slice A m c)).run P w = .ok ns.toArray w := by
                cases A with
                | none =>
                  have : ns = [] := by simp [ns, q3 rfl]
                  rw [this]; exact run_firstCells_none w sz' _ _ _
                | some ad => exact run_firstCells_some w sz' _ ad m c ns hnl (fun j u hu => q4 ad rfl j u (by
                    simp only [ns, List.getElem?_take] at hu
                    split at hu
                    · exact hu
                    · cases hu))
              refine ⟨.value (.int .i64 (Nat.min m n)), w.setRow k arr', k, .cells arr' blk.ty (0, 0), ?_, hφ, WSet.setRow g1 hsize, ?_, _, .inl rfl, .f (.raw _)⟩
              · have s1 := run_sizeT hs w
                simp only [Nat.add_zero, hnl] at hst
                unfold execOp; rw [ho]
                simp [resolve, invoke, builtin, Builtin.copy_, run_underlying hu, hz, hv, Builtin.lenOf, s1, hfc, hst, goInt, arr']
              · refine objAt_of hc'.2 (by rw [hc'.1, splice_length (by rw [hsl]; omega), hsize]; exact g3) fun j q hq => ?_
                rw [hc'.1, splice_get (by rw [hsl]; omega)] at hq
                have ha' : arr'[j]? = if j < 0 then arr.toList[j]? else if j < 0 + ns.length then ns[j - 0]? else arr.toList[j]? := by
                  have := splice_get (l := arr.toList) (vs := ns) (off := 0) (by simp only [Array.length_toList]; omega) j
                  unfold splice at this
                  simp only [arr', List.getElem?_toArray]
                  rw [← this, hnl]
                rw [ha', if_neg (by omega)]
                rw [if_neg (by omega), hsl] at hq
                rw [hnl]
                by_cases h2 : j < 0 + Nat.min m n * sz'
                · rw [if_pos h2] at hq ⊢
                  have hj3 : j - 0 < ns.length := by rw [hnl]; omega
                  exact ⟨csn.2.1 q (List.mem_of_getElem? hq), _, List.getElem?_eq_getElem hj3, csn.2.2 _ q _ hq (List.getElem?_eq_getElem hj3)⟩
                · rw [if_neg h2] at hq ⊢
                  have hj : j < blk.c.toMx.length := (List.getElem?_eq_some_iff.1 hq).1
                  have hj2 : j < arr.toList.length := by simp; omega
                  refine ⟨g2.2.1 q (List.mem_of_getElem? hq), arr.toList[j], List.getElem?_eq_getElem hj2, g2.2.2 j q _ hq ?_⟩
                  rw [List.getElem?_take, if_pos hj, List.getElem?_eq_getElem hj2]
          · cases hput
        · cases ha
      · cases ha
    · cases ha
  · cases ha

end
end Go.Proofs.YtjjplipoacljoaaDoor.AI
