/-
  Texts of the proof, part 1 of 5: what is used to prove the statement. No condition.
-/
import Derived.WalkKit
import Derived.Lib.Hide
import Derived.Deep.QuietTactic
namespace Prod
variable {A0 A1 A2 A3 A4 A5 A6 A7 A8 A9 A10 A11 A12 A13 A14 A15 A16 A17 A18 A19 A20 A21 A22 A23 A24:Type}
abbrev p2 (x:A0×A1×A2×A3):A2:=x.2.2.1
abbrev p3 (x:A0×A1×A2×A3×A4):A3:=x.2.2.2.1
abbrev q3 (x:A0×A1×A2×A3):A3:=x.2.2.2
abbrev p4 (x:A0×A1×A2×A3×A4×A5):A4:=x.2.2.2.2.1
abbrev q4 (x:A0×A1×A2×A3×A4):A4:=x.2.2.2.2
abbrev p5 (x:A0×A1×A2×A3×A4×A5×A6):A5:=x.2.2.2.2.2.1
abbrev q5 (x:A0×A1×A2×A3×A4×A5):A5:=x.2.2.2.2.2
abbrev p6 (x:A0×A1×A2×A3×A4×A5×A6×A7):A6:=x.2.2.2.2.2.2.1
abbrev q6 (x:A0×A1×A2×A3×A4×A5×A6):A6:=x.2.2.2.2.2.2
abbrev p7 (x:A0×A1×A2×A3×A4×A5×A6×A7×A8):A7:=x.2.2.2.2.2.2.2.1
abbrev q7 (x:A0×A1×A2×A3×A4×A5×A6×A7):A7:=x.2.2.2.2.2.2.2
abbrev p8 (x:A0×A1×A2×A3×A4×A5×A6×A7×A8×A9):A8:=x.2.2.2.2.2.2.2.2.1
abbrev q8 (x:A0×A1×A2×A3×A4×A5×A6×A7×A8):A8:=x.2.2.2.2.2.2.2.2
abbrev p9 (x:A0×A1×A2×A3×A4×A5×A6×A7×A8×A9×A10):A9:=x.2.2.2.2.2.2.2.2.2.1
abbrev q9 (x:A0×A1×A2×A3×A4×A5×A6×A7×A8×A9):A9:=x.2.2.2.2.2.2.2.2.2
abbrev p10 (x:A0×A1×A2×A3×A4×A5×A6×A7×A8×A9×A10×A11):A10:=x.2.2.2.2.2.2.2.2.2.2.1
abbrev q10 (x:A0×A1×A2×A3×A4×A5×A6×A7×A8×A9×A10):A10:=x.2.2.2.2.2.2.2.2.2.2
abbrev p11 (x:A0×A1×A2×A3×A4×A5×A6×A7×A8×A9×A10×A11×A12):A11:=x.2.2.2.2.2.2.2.2.2.2.2.1
abbrev q11 (x:A0×A1×A2×A3×A4×A5×A6×A7×A8×A9×A10×A11):A11:=x.2.2.2.2.2.2.2.2.2.2.2
abbrev p12 (x:A0×A1×A2×A3×A4×A5×A6×A7×A8×A9×A10×A11×A12×A13):A12:=x.2.2.2.2.2.2.2.2.2.2.2.2.1
abbrev q12 (x:A0×A1×A2×A3×A4×A5×A6×A7×A8×A9×A10×A11×A12):A12:=x.2.2.2.2.2.2.2.2.2.2.2.2
abbrev p13 (x:A0×A1×A2×A3×A4×A5×A6×A7×A8×A9×A10×A11×A12×A13×A14):A13:=x.2.2.2.2.2.2.2.2.2.2.2.2.2.1
abbrev q13 (x:A0×A1×A2×A3×A4×A5×A6×A7×A8×A9×A10×A11×A12×A13):A13:=x.2.2.2.2.2.2.2.2.2.2.2.2.2
abbrev p14 (x:A0×A1×A2×A3×A4×A5×A6×A7×A8×A9×A10×A11×A12×A13×A14×A15):A14:=x.2.2.2.2.2.2.2.2.2.2.2.2.2.2.1
abbrev p15 (x:A0×A1×A2×A3×A4×A5×A6×A7×A8×A9×A10×A11×A12×A13×A14×A15×A16):A15:=x.2.2.2.2.2.2.2.2.2.2.2.2.2.2.2.1
abbrev p16 (x:A0×A1×A2×A3×A4×A5×A6×A7×A8×A9×A10×A11×A12×A13×A14×A15×A16×A17):A16:=x.2.2.2.2.2.2.2.2.2.2.2.2.2.2.2.2.1
abbrev q16 (x:A0×A1×A2×A3×A4×A5×A6×A7×A8×A9×A10×A11×A12×A13×A14×A15×A16):A16:=x.2.2.2.2.2.2.2.2.2.2.2.2.2.2.2.2
abbrev p17 (x:A0×A1×A2×A3×A4×A5×A6×A7×A8×A9×A10×A11×A12×A13×A14×A15×A16×A17×A18):A17:=x.2.2.2.2.2.2.2.2.2.2.2.2.2.2.2.2.2.1
abbrev q17 (x:A0×A1×A2×A3×A4×A5×A6×A7×A8×A9×A10×A11×A12×A13×A14×A15×A16×A17):A17:=x.2.2.2.2.2.2.2.2.2.2.2.2.2.2.2.2.2
abbrev p18 (x:A0×A1×A2×A3×A4×A5×A6×A7×A8×A9×A10×A11×A12×A13×A14×A15×A16×A17×A18×A19):A18:=x.2.2.2.2.2.2.2.2.2.2.2.2.2.2.2.2.2.2.1
abbrev q18 (x:A0×A1×A2×A3×A4×A5×A6×A7×A8×A9×A10×A11×A12×A13×A14×A15×A16×A17×A18):A18:=x.2.2.2.2.2.2.2.2.2.2.2.2.2.2.2.2.2.2
abbrev p19 (x:A0×A1×A2×A3×A4×A5×A6×A7×A8×A9×A10×A11×A12×A13×A14×A15×A16×A17×A18×A19×A20):A19:=x.2.2.2.2.2.2.2.2.2.2.2.2.2.2.2.2.2.2.2.1
abbrev p20 (x:A0×A1×A2×A3×A4×A5×A6×A7×A8×A9×A10×A11×A12×A13×A14×A15×A16×A17×A18×A19×A20×A21):A20:=x.2.2.2.2.2.2.2.2.2.2.2.2.2.2.2.2.2.2.2.2.1
abbrev q21 (x:A0×A1×A2×A3×A4×A5×A6×A7×A8×A9×A10×A11×A12×A13×A14×A15×A16×A17×A18×A19×A20×A21):A21:=x.2.2.2.2.2.2.2.2.2.2.2.2.2.2.2.2.2.2.2.2.2
end Prod
namespace Go.Proofs.YthehadcddfilhaaGreatDoor.AI
open Go.RowKit
set_option maxRecDepth 100000
set_option maxHeartbeats 4000000
set_option linter.unusedVariables false
set_option linter.unusedSimpArgs false
open Act renaming put→LN
open _root_.Array renaming length_toList→ib,replicate→nP
open _root_.Bool renaming true→ah,false→ai
open _root_.Int renaming ofNat→aN,toNat→aS,tmod→yC
open IntKind renaming wrap→ol
open _root_.List renaming length→ak,replicate→aF,take→dE,range→eT,length_singleton→gf,getElem?_cons_zero→pW
open _root_.Nat renaming beq→aA,testBit→aL,ble→eo,blt→fR,min→iC
open Oper renaming wp→FU
open _root_.Option renaming some→aa,none→af,bind_some→aE
open Region renaming wanted→iu,binds→yw,ready→FR
open _root_.Sum renaming inr→bS,inl→lX
open World renaming shape?→qJ,cell?→LK
noncomputable section
abbrev aC:=@if_neg
abbrev aJ:=@if_pos
abbrev aP:=@decide_eq_true
abbrev bm:=@of_decide_eq_true
abbrev bB:=@if_true
abbrev bL:=@decide_eq_false
abbrev bP:=@decide_eq_true_eq
abbrev cM:=@beq_self_eq_true
abbrev cN:=@beq_iff_eq
abbrev cX:=@absurd
abbrev cZ:=@decide_false
abbrev dI:=@decide_true
abbrev dR:=@if_false
abbrev fM:=@or_false
abbrev gA:=@congrArg
abbrev zZ:=@true_and
abbrev Q5:=@of_decide_eq_false
abbrev aj:=@Option.some.injEq
abbrev au:=@Bool.and_eq_true
abbrev av:=@Nat.eq_of_beq_eq_true
abbrev ax:=@List.getD_eq_getElem?_getD
abbrev ay:=@List.getElem?_eq_getElem
abbrev aB:=@Prod.mk.injEq
abbrev aK:=@List.mem_singleton
abbrev aY:=@Nat.le_of_ble_eq_true
abbrev aZ:=@List.mem_of_getElem?
abbrev a8:=@List.getElem?_map
abbrev be:=@List.getElem?_eq_some_iff
abbrev bh:=@List.mem_cons
abbrev bl:=@Nat.testBit_or
abbrev bn:=@List.length_append
abbrev bz:=@Nat.ble_eq_true_of_le
abbrev bC:=@List.length_take
abbrev bJ:=@Nat.zero_add
abbrev bK:=@List.getElem?_append_left
abbrev bM:=@List.getElem?_eq_none
abbrev bQ:=@Nat.le_refl
abbrev bR:=@List.mem_append
abbrev bW:=@Nat.lt_or_ge
abbrev bX:=@List.getElem?_append_right
abbrev b8:=@List.length_map
abbrev cj:=@List.not_mem_nil
abbrev co:=@Bool.false_eq_true
abbrev cu:=@Array.getElem?_eq_some_iff
abbrev cA:=@Nat.mul_le_mul_right
abbrev cC:=@Array.getElem?_toList
abbrev cH:=@List.getElem?_take
abbrev cI:=@List.map_append
abbrev cL:=@List.take_length
abbrev cO:=@List.mem_cons_of_mem
abbrev c7:=@Nat.le_trans
abbrev c9:=@List.mem_map
abbrev dj:=@Nat.lt_of_lt_of_le
abbrev dk:=@List.ext_getElem
abbrev dG:=@List.mem_cons_self
abbrev dX:=@Bool.not_eq_true'
abbrev ef:=@Int.natCast_nonneg
abbrev ep:=@List.length_replicate
abbrev eO:=@List.getElem?_of_mem
abbrev eP:=@Int.le_refl
abbrev fk:=@List.foldl_append
abbrev fm:=@List.flatMap_cons
abbrev fI:=@List.take_of_length_le
abbrev fV:=@List.map_cons
abbrev fY:=@List.all_eq_true
abbrev gr:=@Array.getD_eq_getD_getElem?
abbrev gz:=@List.length_eq_zero_iff
abbrev gJ:=@List.getElem?_drop
abbrev gV:=@Nat.ne_of_beq_eq_false
abbrev gY:=@Array.getElem?_eq_getElem
abbrev ic:=@Nat.le_succ_of_le
abbrev iv:=@Option.isSome_iff_exists
abbrev iB:=@Nat.succ_mul
abbrev iD:=@List.cons.injEq
abbrev iE:=@Bool.or_eq_true
abbrev iT:=@List.mem_of_mem_take
abbrev jx:=@Option.map_eq_some_iff
abbrev jy:=@List.append_assoc
abbrev jD:=@Option.some.inj
abbrev jU:=@List.getElem?_toArray
abbrev kc:=@Nat.or_assoc
abbrev kg:=@List.map_take
abbrev kh:=@Bool.and_self
abbrev kG:=@Nat.zero_le
abbrev kH:=@List.take_append_of_le_length
abbrev kJ:=@List.mem_append_left
abbrev kQ:=@List.length_range
abbrev lm:=@List.append_nil
abbrev md:=@List.length_drop
abbrev mQ:=@List.mem_range
abbrev mR:=@List.getElem_range
abbrev mS:=@Bool.false_and
abbrev mV:=@List.mem_append_right
abbrev oh:=@List.take_succ_eq_append_getElem
abbrev oV:=@Bool.true_and
abbrev pa:=@Array.getElem?_setIfInBounds_ne
abbrev ph:=@List.map_congr_left
abbrev pi:=@List.length_take_le
abbrev pU:=@List.getElem_map
abbrev pV:=@List.getElem?_replicate
abbrev qK:=@Nat.beq_refl
abbrev qL:=@List.drop_of_length_le
abbrev rA:=@Nat.min_eq_left
abbrev rB:=@List.length_set
abbrev rC:=@Nat.add_assoc
abbrev rO:=@List.contains_iff_mem
abbrev rX:=@List.size_toArray
abbrev rY:=@List.getElem?_set
abbrev tD:=@Bool.and_eq_true_iff
abbrev tP:=@List.mem_flatMap
abbrev tQ:=@List.getElem_set
abbrev tR:=@List.getElem_mem
abbrev tS:=@List.drop_append
abbrev uk:=@Classical.byContradiction
abbrev uH:=@List.drop_succ_cons
abbrev vI:=@List.eq_of_mem_replicate
abbrev vJ:=@Nat.not_lt_zero
abbrev xf:=@Nat.zero_or
abbrev yA:=@Nat.lt_succ_of_lt
abbrev yB:=@List.map_map
abbrev zY:=@List.take_append_drop
abbrev AW:=@Nat.lt_succ_self
abbrev AX:=@Int.not_lt
abbrev Bb:=@Nat.lt_irrefl
abbrev CO:=@List.replicate_succ'
abbrev CP:=@List.drop_append_of_le_length
abbrev D6:=@List.sum_append
abbrev D7:=@List.mem_filter
abbrev Ff:=@List.getElem?_range
abbrev Fg:=@Int.toNat_of_nonneg
abbrev FW:=@Nat.mul_comm
abbrev Jq:=@Nat.eq_zero_or_pos
abbrev Js:=@Array.ext'
abbrev LL:=@Nat.lt_trichotomy
abbrev LM:=@Nat.add_mul
inductive FV where
 |raw (v:Value)
 |sl (cells:List FV) (n:Nat)
 |ptr (cells:List FV) (off:Nat)
 |agg (cells:List FV)
inductive AV where
 |f (x:FV)
 |ptr (id off:Nat)
 |sl (id off n:Nat)
 |row (id sz n:Nat)
 |mp (id:Nat)
 |emp
 |anyb
 |agg (cells:List AV)
 |tup (vs:List AV)
 |clo (g:FuncId) (cap:List AV)
def FV.isCell:FV->Bool
 |.raw v=>v.oneCell'
 |.sl _ _=>ah
 |.ptr _ _=>ah
 |.agg _=>ai
def AV.isCell:AV->Bool
 |.f x=>x.isCell
 |.ptr _ _=>ah
 |.sl _ _ _=>ah
 |.row _ _ _=>ah
 |.mp _=>ah
 |.emp=>ah
 |.clo _ _=>ah
 |_=>ai
inductive mP (O:Nat->Prop) (w:World):FV->Value->Prop
 |raw (v:Value):mP O w (.raw v) v
 |nil (a:Option Addr) (c:Nat) (hc:c<=maxLen):mP O w (.sl [] 0) (.slice a 0 c)
 |sl (cells:List FV) (n c b off:Nat) (us:Nat->Value) (hn:n<=c) (hc:c<=maxLen) (hO:¬O b) (hb:b<w.heap.size)
   (hcl:∀ x∈cells,x.isCell=ah)
   (hu:∀ j,j<cells.length->w.cell? ⟨b,off+j,af⟩=aa (us j)) (hr:∀ (j:Nat) x,cells[j]? =aa x->mP O w x (us j)):
   mP O w (.sl cells n) (.slice (aa ⟨b,off,af⟩) n c)
 |ptr (cells:List FV) (o b off:Nat) (us:Nat->Value) (hO:¬O b) (hb:b<w.heap.size)
   (hcl:∀ x∈cells,x.isCell=ah)
   (hu:∀ j,j<cells.length->w.cell? ⟨b,off+j,af⟩=aa (us j)) (hr:∀ (j:Nat) x,cells[j]? =aa x->mP O w x (us j)):
   mP O w (.ptr cells o) (.pointer (aa ⟨b,off+o,af⟩))
 |agg (cells:List FV) (vs:List Value) (hl:vs.length=cells.length) (hcl:∀ x∈cells,x.isCell=ah)
   (hr:∀ (j:Nat) x v,cells[j]? =aa x->vs[j]? =aa v->mP O w x v):mP O w (.agg cells) (.agg vs.toArray)
abbrev PM:=Nat->Option Nat
inductive cG (φ:PM) (O:Nat->Prop) (w:World):AV->Value->Prop
 |f {x:FV} {v:Value} (h:mP O w x v):cG φ O w (.f x) v
 |ptr {id off b:Nat} (h:φ id=aa b):cG φ O w (.ptr id off) (.pointer (aa ⟨b,off,af⟩))
 |sl {id off n c b:Nat} (h:φ id=aa b) (hn:n<=c) (hc:c<=maxLen):cG φ O w (.sl id off n) (.slice (aa ⟨b,off,af⟩) n c)
 |row {id sz n c b:Nat} (h:φ id=aa b) (hn:n<=c) (hc:c<=maxLen) (hs:∃ ty,w.shape? b=aa (ty,c*sz)):
   cG φ O w (.row id sz n) (.slice (aa ⟨b,0,af⟩) n c)
 |emp {a:Option Addr}:cG φ O w .emp (.slice a 0 0)
 |anyb {b:Bool}:cG φ O w .anyb (.bool b)
 |mp {id b:Nat} (h:φ id=aa b):cG φ O w (.mp id) (.map (aa b))
 |agg {cells:List AV} {vs:List Value} (hl:vs.length=cells.length) (hcl:∀ x∈cells,x.isCell=ah)
   (hr:∀ (j:Nat) x v,cells[j]? =aa x->vs[j]? =aa v->cG φ O w x v):cG φ O w (.agg cells) (.agg vs.toArray)
 |tup {cells:List AV} {vs:List Value} (hl:vs.length=cells.length)
   (hr:∀ (j:Nat) x v,cells[j]? =aa x->vs[j]? =aa v->cG φ O w x v):cG φ O w (.tup cells) (.tuple vs.toArray)
 |clo {g:FuncId} {cells:List AV} {vs:List Value} (hl:vs.length=cells.length)
   (hr:∀ (j:Nat) x v,cells[j]? =aa x->vs[j]? =aa v->cG φ O w x v):cG φ O w (.clo g cells) (.func (.func g) #[] vs.toArray)
structure Jm (O:Nat->Prop) (w w':World):Prop where
 os:w'.os=w.os
 tape:w'.tape=w.tape
 output:w'.output=w.output
 size:w.heap.size<=w'.heap.size
 blk:∀ k,k<w.heap.size->¬O k->w'.heap[k]? =w.heap[k]?
 shp:∀ k,k<w.heap.size->w'.shape? k=w.shape? k
theorem Jm.refl (O:Nat->Prop) (w:World):Jm O w w:=⟨rfl,rfl,rfl,bQ _,λ_ _ _=>rfl,λ_ _=>rfl⟩
theorem Cz {w w':World} {b:Nat} (h:w'.heap[b]? =w.heap[b]?) (o:Nat):w'.cell? ⟨b,o,af⟩=w.cell? ⟨b,o,af⟩:=by
 unfold LK;rw[h]
theorem mP.ext {O O':Nat->Prop} {w w':World} (he:Jm O w w') (J:∀ k,k<w.heap.size->O' k->O k) {x:FV} {v:Value} (h:mP O w x v):mP O' w' x v:=by
 induction h with
 |raw v=>exact .raw v
 |nil a c hc=>exact .nil a c hc
 |sl cells n c b off us hn hc hO hb hcl hu hr I=>
  exact .sl cells n c b off us hn hc (λh=>hO (J b hb h)) (dj hb he.size) hcl (λj hj=>by rw[Cz (he.blk b hb hO)];exact hu j hj) I
 |ptr cells o b off us hO hb hcl hu hr I=>
  exact .ptr cells o b off us (λh=>hO (J b hb h)) (dj hb he.size) hcl (λj hj=>by rw[Cz (he.blk b hb hO)];exact hu j hj) I
 |agg cells vs hl hcl hr I=>exact .agg cells vs hl hcl I
theorem cG.ext {φ φ':PM} {O O':Nat->Prop} {w w':World} (hs:∀ i k,φ i=aa k->φ' i=aa k) (he:Jm O w w') (J:∀ k,k<w.heap.size->O' k->O k) {x:AV} {v:Value} (h:cG φ O w x v):cG φ' O' w' x v:=by
 induction h with
 |f h=>exact .f (h.ext he J)
 |ptr h=>exact .ptr (hs _ _ h)
 |sl h hn hc=>exact .sl (hs _ _ h) hn hc
 |row h hn hc hsh=>
  obtain⟨ty,hty⟩:=hsh;refine .row (hs _ _ h) hn hc ⟨ty,?_⟩;rw[he.shp _ ?_];exact hty;unfold qJ at hty;rcases bW _ w.heap.size with hlt|hge
  .exact hlt
  .rw[Array.getElem?_eq_none hge] at hty;cases hty
 |emp=>exact .emp
 |anyb=>exact .anyb
 |mp h=>exact .mp (hs _ _ h)
 |agg hl hcl hr I=>exact .agg hl hcl I
 |tup hl hr I=>exact .tup hl I
 |clo hl hr I=>exact .clo hl I
inductive BC where
 |fz (l:List FV)
 |mx (l:List AV)
 |mp (es:List (Value×AV))
 |it (s:ByteArray) (pos:Nat)
def BC.get:BC->Nat->Option AV
 |.fz l,j=>l[j]?.map AV.f
 |.mx l,j=>l[j]?
 |_,_=>af
def BC.len:BC->Nat
 |.fz l=>l.length
 |.mx l=>l.length
 |_=>0
def BC.isCells:BC->Bool
 |.fz _=>ah
 |.mx _=>ah
 |_=>ai
structure vH where
 ty:TypeId
 c:BC
abbrev HF:=Nat->Option vH
def own (φ:PM) (h:HF) (k:Nat):Prop:=∃ id b,h id=aa b/\φ id=aa k
def tot (E:Nat->Prop) (φ:PM) (h:HF) (k:Nat):Prop:=E k\/own φ h k
def uj (φ:PM) (O:Nat->Prop) (w:World) (c:BC) (arr:Array Value):Prop:=
 c.len<=arr.size/\∀ j x,c.get j=aa x->x.isCell=ah/\∃ v,arr[j]? =aa v/\cG φ O w x v
def ja (φ:PM) (O:Nat->Prop) (w:World) (b:vH) (o:Obj):Prop:=
 match b.c with
 |.mp es=>∃ ents clock,o= .map ents clock/\ents.toList.map (·.key)=es.map (·.1)/\∀ (j:Nat) x,es[j]? =aa x->∃ m,ents[j]? =aa m/\cG φ O w x.2 m.val
 |.it s p=>o= .stringIter s p
 |c=>∃ arr,o= .cells arr b.ty (0,0)/\uj φ O w c arr
def U7 (φ:PM) (O:Nat->Prop) (w:World) (k:Nat) (b:vH):Prop:=∃ o,w.heap[k]? =aa o/\ja φ O w b o
theorem U7.cells {φ:PM} {O:Nat->Prop} {w:World} {k:Nat} {b:vH} (h:U7 φ O w k b) (hc:b.c.isCells=ah):
 ∃ arr,w.heap[k]? =aa (.cells arr b.ty (0,0))/\uj φ O w b.c arr:=by
 obtain⟨o,h1,h2⟩:=h;unfold ja at h2;cases hb:b.c with
 |fz l=>rw[hb] at h2;obtain⟨arr,rfl,I⟩:=h2;exact⟨arr,h1,I⟩
 |mx l=>rw[hb] at h2;obtain⟨arr,rfl,I⟩:=h2;exact⟨arr,h1,I⟩
 |mp _=>rw[hb] at hc;cases hc
 |it _ _=>rw[hb] at hc;cases hc
theorem ja.mono {φ φ':PM} {O O':Nat->Prop} {w w':World} (hk:∀ x v,cG φ O w x v->cG φ' O' w' x v) {b:vH} {o:Obj} (h:ja φ O w b o):ja φ' O' w' b o:=by
 unfold ja at h ⊢;cases hb:b.c with
 |fz l=>rw[hb] at h;obtain⟨arr,h1,h2,J⟩:=h;exact⟨arr,h1,h2,λj x I=>by obtain⟨a,v,c,d⟩:=J j x I;exact⟨a,v,c,hk _ _ d⟩⟩
 |mx l=>rw[hb] at h;obtain⟨arr,h1,h2,J⟩:=h;exact⟨arr,h1,h2,λj x I=>by obtain⟨a,v,c,d⟩:=J j x I;exact⟨a,v,c,hk _ _ d⟩⟩
 |mp es=>rw[hb] at h;obtain⟨e,c,h1,h2,J⟩:=h;exact⟨e,c,h1,h2,λj x I=>by obtain⟨m,a,b⟩:=J j x I;exact⟨m,a,hk _ _ b⟩⟩
 |it s p=>rw[hb] at h;exact h
theorem uj.mono {φ φ':PM} {O O':Nat->Prop} {w w':World} (hk:∀ x v,cG φ O w x v->cG φ' O' w' x v) {c:BC} {arr:Array Value} (h:uj φ O w c arr):uj φ' O' w' c arr:=
 ⟨h.1,λj x I=>by obtain⟨a,v,c,d⟩:=h.2 j x I;exact⟨a,v,c,hk _ _ d⟩⟩
def tI (l:List UInt8):FV:=.raw (.string ⟨l.toArray⟩)
def BD:List FV:=[tI [118,97,114],tI [118,111,108,97,116,105,108,101],tI [109,117,116,101,120],tI [114,119,108,111,99,107],tI [99,111,110,100],tI [102,117,116,117,114,101],tI [116,104,114,101,97,100],tI [105,102],tI [101,108,115,101],tI [119,104,105,108,101],tI [108,111,99,107],tI [114,101,97,100],tI [119,114,105,116,101],tI [116,114,97,110,115,97,99,116,105,111,110],tI [97,116,111,109,105,99],tI [119,97,105,116],tI [110,111,116,105,102,121],tI [110,111,116,105,102,121,97,108,108],tI [115,112,97,119,110],tI [106,111,105,110],tI [115,101,116],tI [103,101,116]]
def G (g:Nat):Option (List FV):=if g==0 then aa BD else af
structure qd (φ:PM) (E:Nat->Prop) (h:HF) (w:World):Prop where
 inj:∀ i j b b' k,h i=aa b->h j=aa b'->φ i=aa k->φ j=aa k->i=j
 at_:∀ i b,h i=aa b->∃ k,φ i=aa k/\¬E k/\U7 φ (tot E φ h) w k b
 el:∀ k,E k->k<w.heap.size
 gl:∀ g cells,G g=aa cells->mP (tot E φ h) w (.ptr cells 0) (.pointer (aa ⟨g,0,af⟩))
structure iJ (φ φ':PM) (h h':HF) (w w':World):Prop where
 sub:∀ i k,φ i=aa k->φ' i=aa k
 ext:Jm (own φ h) w w'
 own_:∀ k,k<w.heap.size->own φ' h' k->own φ h k
theorem iJ.refl (φ:PM) (h:HF) (w:World):iJ φ φ h h w w:=⟨λ_ _ h=>h,Jm.refl _ _,λ_ _ h=>h⟩
theorem iJ.trans {φ φ' φ'':PM} {h h' h'':HF} {w w' w'':World} (m:iJ φ φ' h h' w w') (n:iJ φ' φ'' h' h'' w' w''):iJ φ φ'' h h'' w w'' where
 sub:=λi k e=>n.sub i k (m.sub i k e)
 ext:=⟨n.ext.os.trans m.ext.os,n.ext.tape.trans m.ext.tape,n.ext.output.trans m.ext.output,c7 m.ext.size n.ext.size,
  λk hk I=>(n.ext.blk k (dj hk m.ext.size) (λh=>I (m.own_ k hk h))).trans (m.ext.blk k hk I),
  λk hk=>(n.ext.shp k (dj hk m.ext.size)).trans (m.ext.shp k hk)⟩
 own_:=λk hk h=>m.own_ k hk (n.own_ k (dj hk m.ext.size) h)
theorem Jm.mono {O O':Nat->Prop} {w w':World} (h:Jm O w w') (I:∀ k,O k->O' k):Jm O' w w':=
 ⟨h.os,h.tape,h.output,h.size,λk hk hO=>h.blk k hk (λx=>hO (I k x)),h.shp⟩
theorem iJ.keep {φ φ':PM} {h h':HF} {w w':World} (m:iJ φ φ' h h' w w') {E:Nat->Prop} {x:AV} {v:Value} (r:cG φ (tot E φ h) w x v):cG φ' (tot E φ' h') w' x v:=
 r.ext m.sub (m.ext.mono λ_ h=>.inr h) λk hk I=>I.elim .inl λo=>.inr (m.own_ k hk o)
theorem iJ.keepF {φ φ':PM} {h h':HF} {w w':World} (m:iJ φ φ' h h' w w') {E:Nat->Prop} {x:FV} {v:Value} (r:mP (tot E φ h) w x v):mP (tot E φ' h') w' x v:=
 r.ext (m.ext.mono λ_ h=>.inr h) λk hk I=>I.elim .inl λo=>.inr (m.own_ k hk o)
abbrev EF:=Nat->Option AV
def LG (φ:PM) (O:Nat->Prop) (w:World) (e:EF) (a:Act):Prop:=∀ t x,e t=aa x->cG φ O w x (a.tmps.getD t undef)
def Bs (e:EF) (dst:Option Nat) (x:AV):EF:=λt=>if dst=aa t then aa x else e t
def eE (h:HF) (wr:List Nat) (nw:HF):HF:=λi=>if i∈wr then nw i else h i
structure zX where
 val:AV
 rd:List Nat
 wr:List Nat
 nw:HF
 N:List Nat
def gB (P:Program) (o:Oper) (e:EF) (h:HF) (f:zX):Prop:=
 ∀ (φ:PM) (E:Nat->Prop) (h':HF) (w:World) (a:Act),(∀ i∈f.rd,h' i=h i)->(∀ i∈f.wr,h' i=h i)->
  (∀ t,.tmp t∈o.op.operands->∀ y,e t=aa y->cG φ (tot E φ h') w y (a.tmps.getD t undef))->qd φ E h' w->(∀ n∈f.N,φ n=af)->
  o.wp P a w (λa' w'=>∃ v φ',a'=a.put o.dst v/\iJ φ φ' h' (eE h' f.wr f.nw) w w'/\(∀ i k,φ' i=aa k->φ i=aa k\/i∈f.N)/\
   qd φ' E (eE h' f.wr f.nw) w'/\cG φ' (tot E φ' (eE h' f.wr f.nw)) w' f.val v) (λ_ _ _=>False)
def qM:zX:=⟨.f (.raw undef),[],[],λ_=>af,[]⟩
inductive Jb (P:Program) (ops:Array Oper) (o:Oper) (f:zX) (e:EF) (h:HF):Prop
 |run (hg:o.guard=af) (ht:gB P o e h f)
 |runG (j t:Nat) (want:Bool) (hg:o.guard=aa (j,want)) (hj:(ops[j]?).bind (·.dst)=aa t) (he:e t=aa (.f (.raw (.bool want)))) (ht:gB P o e h f)
 |skip (j t:Nat) (want:Bool) (hg:o.guard=aa (j,want)) (hj:(ops[j]?).bind (·.dst)=aa t) (v:Value) (he:e t=aa (.f (.raw v))) (hv:v≠ .bool want) (hf:f=qM)
inductive yr (P:Program) (ops:Array Oper):List (Oper×zX)->EF->HF->EF->HF->Prop
 |nil (e:EF) (h:HF):yr P ops [] e h e h
 |cons {o:Oper} {f:zX} {r:List (Oper×zX)} {e e':EF} {h h':HF} (hs:Jb P ops o f e h)
   (hr:yr P ops r (Bs e o.dst f.val) (eE h f.wr f.nw) e' h'):yr P ops ((o,f)::r) e h e' h'
def Ju (S:Nat->Bool):Nat->List (Oper×zX)->EF->EF
 |_,[],e=>e
 |k,(o,f)::r,e=>Ju S (k+1) r (if S k then Bs e o.dst f.val else e)
def AZ (S:Nat->Bool):Nat->List (Oper×zX)->HF->HF
 |_,[],h=>h
 |k,(_,f)::r,h=>AZ S (k+1) r (if S k then eE h f.wr f.nw else h)
theorem CX {S S':Nat->Bool} {t:Nat}:∀ (l:List (Oper×zX)) (k:Nat) (e e':EF),e t=e' t->
 (∀ (j:Nat) o f,l[j]? =aa (o,f)->o.dst=aa t->S (k+j)=S' (k+j))->Ju S k l e t=Ju S' k l e' t
 |[],_,_,_,he,_=>he
 |(o,f)::r,k,e,e',he,I=>by
  simp only[Ju];refine CX r (k+1) _ _ ?_ (λj o f hj hd=>by have:=I (j+1) o f (by simpa using hj) hd;rwa [show k+(j+1)=k+1+j from by omega] at this);by_cases hd:o.dst=aa t
  .rw[show S k=S' k from by simpa using I 0 o f rfl hd];split
   .simp[Bs,hd]
   .exact he
  .split<;>split<;>simp[Bs,hd,he]
theorem CW {S S':Nat->Bool} {t:Nat}:∀ (l:List (Oper×zX)) (k:Nat) (e e':HF),e t=e' t->
 (∀ (j:Nat) o f,l[j]? =aa (o,f)->t∈f.wr->S (k+j)=S' (k+j))->AZ S k l e t=AZ S' k l e' t
 |[],_,_,_,he,_=>he
 |(o,f)::r,k,e,e',he,I=>by
  simp only[AZ];refine CW r (k+1) _ _ ?_ (λj o f hj hd=>by have:=I (j+1) o f (by simpa using hj) hd;rwa [show k+(j+1)=k+1+j from by omega] at this);by_cases hd:t∈f.wr
  .rw[show S k=S' k from by simpa using I 0 o f rfl hd];split
   .simp[eE,hd]
   .exact he
  .split<;>split<;>simp[eE,hd,he]
theorem Bi {S:Nat->Bool} {t:Nat}:∀ (l:List (Oper×zX)) (k:Nat) (e:EF),(∀ (j:Nat) o f,l[j]? =aa (o,f)->o.dst=aa t->S (k+j)=ai)->Ju S k l e t=e t
 |[],_,_,_=>rfl
 |(o,f)::r,k,e,I=>by
  simp only[Ju];rw[Bi r (k+1) _ (λj o f hj hd=>by have:=I (j+1) o f (by simpa using hj) hd;rwa [show k+(j+1)=k+1+j from by omega] at this)];split
  .rename_i h;unfold Bs;rw[aC];intro hd;have:=I 0 o f rfl hd;simp_all
  .rfl
theorem Bh {S:Nat->Bool} {t:Nat}:∀ (l:List (Oper×zX)) (k:Nat) (e:HF),(∀ (j:Nat) o f,l[j]? =aa (o,f)->t∈f.wr->S (k+j)=ai)->AZ S k l e t=e t
 |[],_,_,_=>rfl
 |(o,f)::r,k,e,I=>by
  simp only[AZ];rw[Bh r (k+1) _ (λj o f hj hd=>by have:=I (j+1) o f (by simpa using hj) hd;rwa [show k+(j+1)=k+1+j from by omega] at this)];split
  .rename_i h;unfold eE;rw[aC];intro hd;have:=I 0 o f rfl hd;simp_all
  .rfl
theorem NG {S:Nat->Bool} {t:Nat}:∀ (l:List (Oper×zX)) (k i:Nat) (e:EF) (o:Oper) (f:zX),l[i]? =aa (o,f)->o.dst=aa t->S (k+i)=ah->
 (∀ (j:Nat) o' f',i<j->l[j]? =aa (o',f')->o'.dst=aa t->S (k+j)=ai)->Ju S k l e t=aa f.val
 |[],_,_,_,_,_,h,_,_,_=>by simp at h
 |(o',f')::r,k,0,e,o,f,h,hd,I,hl=>by
  simp only[pW,aj,aB] at h;obtain⟨rfl,rfl⟩:=h;simp only[Ju];rw[Bi r (k+1) _ (λj o f hj hd=>by have:=hl (j+1) o f (by omega) (by simpa using hj) hd;rwa [show k+(j+1)=k+1+j from by omega] at this)];simp at I;simp[I,Bs,hd]
 |(o',f')::r,k,i+1,e,o,f,h,hd,I,hl=>by
  simp only[Ju];exact NG r (k+1) i _ o f (by simpa using h) hd (by rwa [show k+1+i=k+(i+1) from by omega])
   (λj o f hij hj hd=>by have:=hl (j+1) o f (by omega) (by simpa using hj) hd;rwa [show k+(j+1)=k+1+j from by omega] at this)
theorem NF {S:Nat->Bool} {t:Nat}:∀ (l:List (Oper×zX)) (k i:Nat) (e:HF) (o:Oper) (f:zX),l[i]? =aa (o,f)->t∈f.wr->S (k+i)=ah->
 (∀ (j:Nat) o' f',i<j->l[j]? =aa (o',f')->t∈f'.wr->S (k+j)=ai)->AZ S k l e t=f.nw t
 |[],_,_,_,_,_,h,_,_,_=>by simp at h
 |(o',f')::r,k,0,e,o,f,h,hd,I,hl=>by
  simp only[pW,aj,aB] at h;obtain⟨rfl,rfl⟩:=h;simp only[AZ];rw[Bh r (k+1) _ (λj o f hj hd=>by have:=hl (j+1) o f (by omega) (by simpa using hj) hd;rwa [show k+(j+1)=k+1+j from by omega] at this)];simp at I;simp[I,eE,hd]
 |(o',f')::r,k,i+1,e,o,f,h,hd,I,hl=>by
  simp only[AZ];exact NF r (k+1) i _ o f (by simpa using h) hd (by rwa [show k+1+i=k+(i+1) from by omega])
   (λj o f hij hj hd=>by have:=hl (j+1) o f (by omega) (by simpa using hj) hd;rwa [show k+(j+1)=k+1+j from by omega] at this)
theorem yr.step {P:Program} {ops:Array Oper}:∀ {l:List (Oper×zX)} {e e':EF} {h h':HF} (_:yr P ops l e h e' h') (k i:Nat) (o:Oper) (f:zX),l[i]? =aa (o,f)->
 Jb P ops o f (Ju (λj=>decide (j<k+i)) k l e) (AZ (λj=>decide (j<k+i)) k l h):=by
 intro l e e' h h' hc;induction hc with
 |nil=>intro k i o f hi;simp at hi
 |@cons o1 I r e e' h h' hs hr J=>
  intro k i o f hi;cases i with
  |zero=>
   simp only[pW,aj,aB] at hi;obtain⟨rfl,rfl⟩:=hi;have e1:Ju (λj=>decide (j<k+0)) k ((o1,I)::r) e=e:=by
    funext t;rw[Bi];intro j o f _ _;simp
   have e2:AZ (λj=>decide (j<k+0)) k ((o1,I)::r) h=h:=by
    funext t;rw[Bh];intro j o f _ _;simp
   rw[e1,e2];exact hs
  |succ i=>
   have:=J (k+1) i o f (by simpa using hi);simp only[Ju,AZ];rw[show k+(i+1)=k+1+i from by omega];simpa[show k<k+1+i from by omega] using this
theorem yr.final {P:Program} {ops:Array Oper}:∀ {l:List (Oper×zX)} {e e':EF} {h h':HF} (_:yr P ops l e h e' h') (k:Nat) (S:Nat->Bool),(∀ j,j<l.length->S (k+j)=ah)->
 Ju S k l e=e'/\AZ S k l h=h':=by
 intro l e e' h h' hc;induction hc with
 |nil=>intro k S _;exact⟨rfl,rfl⟩
 |@cons o1 M r e e' h h' hs hr J=>
  intro k S I;have h0:S k=ah:=by simpa using I 0 (by simp)
  simp only[Ju,AZ,h0,bB];exact J (k+1) S (λj hj=>by have:=I (j+1) (by simpa using hj);rwa [show k+(j+1)=k+1+j from by omega] at this)
theorem Nw {P:Program} {o:Oper} {a:Act} {w:World} {K K':Act->World->Prop} {Q:Exit->Act->World->Prop} (h:∀ a w,K a w->K' a w)
 (hh:o.wp P a w K (λ_ _ _=>False)):o.wp P a w K' Q:=by
 unfold FU at*
 generalize (execOp a.eval o).run P w=r at*
 cases r with
 |ok n w'=>
  cases n<;>simp only[Oper.upon] at hh ⊢<;>
   first
    |exact h _ _ hh
    |exact Calls.mono hh (λe w'' he=>by
      cases e with
      |returned v=>exact h _ _ he
      |panicked c=>exact he.elim
      |outgrown=>obtain⟨_,_,h⟩:=he;exact h.elim)
    |exact Rows.mono hh (λ_ _ he=>h _ _ he)
 |halt x w'=>cases x<;>simp only[Oper.upon] at hh ⊢<;>first|exact hh.elim|exact hh
inductive Zt (ops:Array Oper):Nat->Nat->Prop
 |one {j:Nat} {o:Oper} {e:Edge} (h:ops[j]? =aa o) (he:e∈o.after) (hb:yw .any e=ah):Zt ops j e.on
 |more {j i:Nat} {o:Oper} {e:Edge} (h:ops[j]? =aa o) (he:e∈o.after) (hb:yw .any e=ah) (hi:Zt ops e.on i):Zt ops j i
structure NIP (ops:Array Oper) (l:List (Oper×zX)):Prop where
 edge:∀ (j:Nat) o,ops[j]? =aa o->∀ e∈o.after,yw .any e=ah->e.on<j
 pair:∀ (i j:Nat) oi fi oj fj,i<j->l[i]? =aa (oi,fi)->l[j]? =aa (oj,fj)->Zt ops j i\/
  (oi.apart ops oj=ah/\(∀ x∈fi.wr,x∉fj.rd/\x∉fj.wr)/\(∀ x∈fj.wr,x∉fi.rd))
 names:∀ (i j:Nat) oi fi oj fj,i<j->l[i]? =aa (oi,fi)->l[j]? =aa (oj,fj)->∀ n∈fi.N,n∉fj.N
def D2 (ops:Array Oper) (listed:Array Bool):Prop:=∀ (j:Nat) o,ops[j]? =aa o->listed.getD j ai=ah->∀ e∈o.after,yw .any e=ah->listed.getD e.on ai=ah
theorem D2.bef {ops:Array Oper} {listed:Array Bool} (hc:D2 ops listed) {j i:Nat} (h:Zt ops j i):listed.getD j ai=ah->listed.getD i ai=ah:=by
 induction h with
 |one h he hb=>intro hj;exact hc _ _ h hj _ he hb
 |more h he hb hi I=>intro hj;exact I (hc _ _ h hj _ he hb)
theorem Vd {ops:Array Oper} {listed:Array Bool} (hc:D2 ops listed) {j i:Nat} {o:Oper} (I:ops[j]? =aa o) (hr:∀ e∈o.after,yw .any e=ah->listed.getD e.on ai=ah) (h:Zt ops j i):listed.getD i ai=ah:=by
 cases h with
 |one h he hb=>rw[h] at I;cases I;exact hr _ he hb
 |more h he hb hi=>rw[h] at I;cases I;exact hc.bef hi (hr _ he hb)
theorem rH {listed:Array Bool} {j:Nat} (h:listed.getD j ah=ai):listed.getD j ai=ai/\j<listed.size:=by
 rcases bW j listed.size with h1|h1
 .simp[h1] at h ⊢;exact h
 .simp[Array.getElem?_eq_none h1] at h
def StP (φ0:PM) (E:Nat->Prop) (e0:EF) (h0:HF) (w0:World) (a0:Act) (l:List (Oper×zX)) (S:Nat->Bool) (a:Act) (w:World):Prop:=
 ∃ φ,iJ φ0 φ h0 (AZ S 0 l h0) w0 w/\(∀ i k,φ i=aa k->φ0 i=aa k\/∃ (j:Nat) (o:Oper) (f:zX),S j=ah/\l[j]? =aa (o,f)/\i∈f.N)/\
  qd φ E (AZ S 0 l h0) w/\LG φ (tot E φ (AZ S 0 l h0)) w (Ju S 0 l e0) a/\a.defers=a0.defers/\a.tmps.size=a0.tmps.size
theorem GA {a:Act} {dst:Option Tmp} {v:Value} {t:Nat} (hd:∀ d,dst=aa d->d<a.tmps.size):(a.put dst v).tmps.getD t undef=if dst=aa t then v else a.tmps.getD t undef:=by
 cases dst with
 |none=>simp[LN]
 |some d=>
  by_cases h:d=t
  .subst h;simp[LN,hd d rfl]
  .simp[LN,h,pa h]
theorem N2 {a:Act} {dst:Option Tmp} {v:Value}:(a.put dst v).tmps.size=a.tmps.size:=by cases dst<;>simp[LN]
theorem GD {a:Act} {dst:Option Tmp} {v:Value}:(a.put dst v).defers=a.defers:=by cases dst<;>rfl
theorem XM {P:Program} {ops:Array Oper} {l:List (Oper×zX)} {e0 e':EF} {h0 h':HF} {φ0:PM} {E:Nat->Prop} {w0:World} {a0:Act}
 (hl:l.map (·.1)=ops.toList) (hc:yr P ops l e0 h0 e' h') (ni:NIP ops l) (hfr:∀ (j:Nat) o f,l[j]? =aa (o,f)->∀ n∈f.N,φ0 n=af)
 (hsz:∀ (j:Nat) o,ops[j]? =aa o->∀ d,o.dst=aa d->d<a0.tmps.size) {listed:Array Bool} (hcl:D2 ops listed) {i:Nat} (hi:i∈FR .any ops listed) {Q:Exit->Act->World->Prop} {K:Act->World->Prop}
 (hK:∀ a w,StP φ0 E e0 h0 w0 a0 l (λj=>(listed.setIfInBounds i ah).getD j ai) a w->K a w) {a:Act} {w:World} (hst:StP φ0 E e0 h0 w0 a0 l (λj=>listed.getD j ai) a w):
 wpOp P ops Q i K a w:=by
 obtain⟨hun,o,ho,hdeps⟩:=mem_ready.1 hi;obtain⟨hnf,hlt⟩:=rH hun;have hln:∀ (j:Nat) o',ops[j]? =aa o'->∃ f,l[j]? =aa (o',f):=λj o' h=>by
  have h1:(l.map (·.1))[j]? =aa o':=by rw[hl];simpa using h
  rw[a8] at h1;cases hj:l[j]? with
  |none=>rw[hj] at h1;cases h1
  |some p=>rw[hj] at h1;obtain⟨a,b⟩:=p;simp at h1;subst h1;exact⟨b,rfl⟩
 have hnl:∀ (j:Nat) o' f,l[j]? =aa (o',f)->ops[j]? =aa o':=λj o' f h=>by
  have h1:(l.map (·.1))[j]? =aa o':=by rw[a8,h];rfl
  rw[hl] at h1;simpa using h1
 obtain⟨f,hf⟩:=hln i o ho;have hord:∀ (j:Nat) oj fj,j≠i->l[j]? =aa (oj,fj)->(listed.getD j ai=decide (j<i))\/
  (o.apart ops oj=ah\/oj.apart ops o=ah)/\(∀ x∈f.wr,x∉fj.rd/\x∉fj.wr)/\(∀ x∈fj.wr,x∉f.rd/\x∉f.wr):=by
  intro j oj fj hji hj;rcases bW j i with h|h
  .rcases ni.pair j i oj fj o f h hj hf with hb|⟨h1,h2,h3⟩
   .left;rw[Vd hcl ho hdeps hb];simp[h]
   .right;exact⟨.inr h1,λx I=>⟨h3 x I,λU=>(h2 x U).2 I⟩,λx I=>h2 x I⟩
  .have h:i<j:=by omega
   rcases ni.pair i j o f oj fj h hf hj with hb|⟨h1,h2,h3⟩
   .left;have:listed.getD j ai=ai:=by
     cases I:listed.getD j ai with
     |false=>rfl
     |true=>have:=hcl.bef hb I;rw[hnf] at this;cases this
    rw[this];simp;omega
   .right;exact⟨.inl h1,λx I=>h2 x I,λx I=>⟨h3 x I,λU=>(h2 x U).2 I⟩⟩
 have J:∀ j,(listed.setIfInBounds i ah).getD j ai=if j=i then ah else listed.getD j ai:=λj=>by
  by_cases h:i=j
  .subst h;simp[hlt]
  .rw[getD_set_ne ai h,aC (λe=>h e.symm)]
 have hlater:∀ (j:Nat) oj fj,i<j->l[j]? =aa (oj,fj)->(listed.getD j ai=ai)\/((o.apart ops oj=ah\/oj.apart ops o=ah)/\(∀ x∈f.wr,x∉fj.rd/\x∉fj.wr)):=by
  intro j oj fj hij hj;rcases hord j oj fj (by omega) hj with h|⟨h1,h2,_⟩
  .left;rw[h];simp;omega
  .right;exact⟨h1,h2⟩
 have hdd:∀ {x y:Oper},(x.apart ops y=ah\/y.apart ops x=ah)->∀ d,x.dst=aa d->y.dst≠aa d:=by
  intro x y h d hd he;rcases h with h|h
  .exact (Oper.apart_spec h).2.1 d hd he
  .exact (Oper.apart_spec h).2.1 d he hd
 have hlook:∀ {x y:Oper},(x.apart ops y=ah\/y.apart ops x=ah)->∀ d,y.dst=aa d->d∉x.looksAt ops:=by
  intro x y h d hd;rcases h with h|h
  .exact (Oper.apart_spec h).2.2 d hd
  .exact (Oper.apart_spec h).1 d hd
 have heL:∀ t,t∈o.looksAt ops->Ju (λj=>listed.getD j ai) 0 l e0 t=Ju (λj=>decide (j<0+i)) 0 l e0 t:=λt ht=>by
  refine CX l 0 e0 e0 rfl λj oj fj hj hd=>?_
  simp only[bJ];by_cases hji:j=i
  .subst hji;rw[hnf];simp
  .rcases hord j oj fj hji hj with h|⟨h,_⟩
   .exact h
   .exact cX ht (hlook h t hd)
 have hhL:∀ t,t∈f.rd\/t∈f.wr->AZ (λj=>listed.getD j ai) 0 l h0 t=AZ (λj=>decide (j<0+i)) 0 l h0 t:=λt ht=>by
  refine CW l 0 h0 h0 rfl λj oj fj hj hd=>?_
  simp only[bJ];by_cases hji:j=i
  .subst hji;rw[hnf];simp
  .rcases hord j oj fj hji hj with h|⟨_,_,h⟩
   .exact h
   .rcases ht with ht|ht
    .exact cX ht (h t hd).1
    .exact cX ht (h t hd).2
 have hE':∀ t,Ju (λj=>(listed.setIfInBounds i ah).getD j ai) 0 l e0 t=if o.dst=aa t then aa f.val else Ju (λj=>listed.getD j ai) 0 l e0 t:=λt=>by
  by_cases hd:o.dst=aa t
  .rw[aJ hd];refine NG l 0 i e0 o f hf hd (by simp[J]) λj o' f' hij hj M=>?_
   simp only[bJ,J,aC (show ¬j=i by omega)];rcases hlater j o' f' hij hj with h|⟨h,_⟩
   .exact h
   .exact cX M (hdd h t hd)
  .rw[aC hd];refine CX l 0 e0 e0 rfl λj oj fj hj M=>?_
   simp only[bJ,J];rw[aC];intro hji;subst hji;rw[hf] at hj;cases hj;exact hd M
 have Y:AZ (λj=>(listed.setIfInBounds i ah).getD j ai) 0 l h0=eE (AZ (λj=>listed.getD j ai) 0 l h0) f.wr f.nw:=by
  funext t;unfold eE;by_cases hd:t∈f.wr
  .rw[aJ hd];refine NF l 0 i h0 o f hf hd (by simp[J]) λj o' f' hij hj M=>?_
   simp only[bJ,J,aC (show ¬j=i by omega)];rcases hlater j o' f' hij hj with h|⟨_,h⟩
   .exact h
   .exact cX M (h t hd).2
  .rw[aC hd];refine CW l 0 h0 h0 rfl λj oj fj hj M=>?_
   simp only[bJ,J];rw[aC];intro hji;subst hji;rw[hf] at hj;cases hj;exact hd M
 obtain⟨φ,hm,hdom,hrep,henv,hdef,hsize⟩:=hst;have hfrN:∀ n∈f.N,φ n=af:=λn hn=>by
  cases I:φ n with
  |none=>rfl
  |some k=>
   rcases hdom n k I with h|⟨j,oj,fj,hSj,hj,hnj⟩
   .rw[hfr i o f hf n hn] at h;cases h
   .have hji:j≠i:=by intro h;subst h;exact cX hSj (by simp only[hnf];simp)
    rcases bW j i with h|h
    .exact cX hn (ni.names j i oj fj o f h hj hf n hnj)
    .exact cX hnj (ni.names i j o f oj fj (by omega) hf hj n hn)
 have hdsz:∀ d,o.dst=aa d->d<a.tmps.size:=λd hd=>by rw[hsize];exact hsz i o ho d hd
 have main:∀ (v:Value) (φ':PM) (w':World),iJ φ φ' (AZ (λj=>listed.getD j ai) 0 l h0) (eE (AZ (λj=>listed.getD j ai) 0 l h0) f.wr f.nw) w w'->
  (∀ i k,φ' i=aa k->φ i=aa k\/i∈f.N)->qd φ' E (eE (AZ (λj=>listed.getD j ai) 0 l h0) f.wr f.nw) w'->
  cG φ' (tot E φ' (eE (AZ (λj=>listed.getD j ai) 0 l h0) f.wr f.nw)) w' f.val v->K (a.put o.dst v) w':=by
  intro v φ' w' m1 d1 r1 v1;refine hK _ _ ⟨φ',?_,?_,?_,?_,?_,?_⟩
  .rw[Y];exact hm.trans m1
  .intro i' k h;rcases d1 i' k h with h|h
   .rcases hdom i' k h with h|⟨j,oj,fj,hSj,hj,hnj⟩
    .exact .inl h
    .refine .inr ⟨j,oj,fj,?_,hj,hnj⟩;show (listed.setIfInBounds i ah).getD j ai=ah;rw[J j];split
     .rfl
     .exact hSj
   .exact .inr ⟨i,o,f,(J i).trans (by simp),hf,h⟩
  .rw[Y];exact r1
  .rw[Y];intro t x I;rw[hE' t] at I;rw[GA hdsz];by_cases hd:o.dst=aa t
   .rw[aJ hd] at I ⊢;cases I;exact v1
   .rw[aC hd] at I ⊢;exact m1.keep (henv t x I)
  .rw[GD];exact hdef
  .rw[N2];exact hsize
 have hstep:=hc.step 0 i o f hf;have hrun:gB P o (Ju (λj=>decide (j<0+i)) 0 l e0) (AZ (λj=>decide (j<0+i)) 0 l h0) f->o.wp P a w K Q:=by
  intro ht;refine Nw ?_ (ht φ E (AZ (λj=>listed.getD j ai) 0 l h0) w a (λt h=>hhL t (.inl h)) (λt h=>hhL t (.inr h)) ?_ hrep hfrN)
  .rintro a' w' ⟨v,φ',rfl,m1,d1,r1,v1⟩;exact main v φ' w' m1 d1 r1 v1
  .intro t ht' y hy;refine henv t y ?_;rw[heL t (kJ _ (List.mem_filterMap.2 ⟨.tmp t,by simpa using ht',rfl⟩))];exact hy
 have hyield:∀ (j t:Nat) (want b:Bool),o.guard=aa (j,want)->(ops[j]?).bind (·.dst)=aa t->Ju (λj=>decide (j<0+i)) 0 l e0 t=aa (.f (.raw (.bool b)))->iu o (yielded ops a.tmps)=(b==want):=by
  intro j t want b hg hj he;rw[<- heL t (mV _ (by rw[hg];simp[hj]))] at he;have h1:=henv t _ he;have h2:a.tmps.getD t undef= .bool b:=by
   generalize Z:a.tmps.getD t undef=z at h1;cases h1 with
   |f h=>cases h;rfl
  have h3:a.tmps[t]? =aa (.bool b):=by
   rw[gr] at h2;cases Z:a.tmps[t]? with
   |none=>rw[Z] at h2;simp[undef] at h2
   |some z=>rw[Z] at h2;simp at h2;rw[h2]
  unfold iu yielded;rw[hg];simp[hj,h3]
 unfold wpOp;simp only[ho];cases hstep with
 |run hg ht=>
  rw[aJ (by unfold iu;rw[hg])];exact .inl (hrun ht)
 |runG j t want hg hj he ht=>
  rw[aJ (by rw[hyield j t want want hg hj he];simp)];exact .inl (hrun ht)
 |skip j t want hg hj v he hv hf'=>
  have hnw:iu o (yielded ops a.tmps)=ai:=by
   rw[<- heL t (mV _ (by rw[hg];simp[hj]))] at he;have h1:=henv t _ he;have h2:a.tmps.getD t undef=v:=by
    generalize a.tmps.getD t undef=z at h1;cases h1 with
    |f h=>cases h;rfl
   unfold iu yielded;rw[hg];simp only[hj,aE];rw[gr] at h2;cases Z:a.tmps[t]? with
   |none=>simp
   |some z=>
    rw[Z] at h2;simp at h2;subst h2;cases z<;>simp at hv ⊢;exact hv
  rw[aC (by rw[hnw];simp)];subst hf';have hu:eE (AZ (λj=>listed.getD j ai) 0 l h0) qM.wr qM.nw=AZ (λj=>listed.getD j ai) 0 l h0:=by
   funext t;simp[eE,qM]
  refine main undef φ w ?_ (λ_ _ h=>.inl h) ?_ ?_
  .rw[hu];exact iJ.refl _ _ _
  .rw[hu];exact hrep
  .exact .f (.raw _)
theorem V9 {l:List Bool}:∀ {i:Nat},l[i]? =aa ai->(l.set i ah).countP id=l.countP id+1:=by
 induction l with
 |nil=>intro i h;simp at h
 |cons b l I=>
  intro i h;cases i with
  |zero=>simp at h;subst h;simp
  |succ i=>
   simp only[List.set_cons_succ,List.countP_cons];rw[I (by simpa using h)];omega
theorem Nf {l:List Bool} (h:l.length<=l.countP id):∀ (j:Nat),j<l.length->l[j]? =aa ah:=by
 have h1:l.countP id=l.length:=Nat.le_antisymm List.countP_le_length h;rw[List.countP_eq_length] at h1;intro j hj;rw[ay hj];simpa using h1 _ (tR hj)
theorem Tp {ops:Array Oper} {l:List (Oper×zX)} (J:NIP ops l) {listed:Array Bool} (hs:listed.size=ops.size) (hr:FR .any ops listed=[]):
 ∀ (n j:Nat),j<n->j<ops.size->listed.getD j ai=ah:=by
 intro n;induction n with
 |zero=>intro j h;omega
 |succ n M=>
  intro j hj hjs;cases I:listed.getD j ai with
  |true=>rfl
  |false=>
   exfalso;have hmem:j∈FR .any ops listed:=by
    refine mem_ready.2 ⟨?_,ops[j],gY hjs,λe he hb=>?_⟩
    .have:j<listed.size:=by omega
     simp[this] at I ⊢;exact I
    .have h1:=J.edge j _ (gY hjs) e he hb;exact M e.on (by omega) (by omega)
   rw[hr] at hmem;cases hmem
theorem LA {P:Program} {ops:Array Oper} {l:List (Oper×zX)} {e0 e':EF} {h0 h':HF} {φ0:PM} {E:Nat->Prop} {w0:World} {a0:Act}
 (hl:l.map (·.1)=ops.toList) (hc:yr P ops l e0 h0 e' h') (J:NIP ops l) (hfr:∀ (j:Nat) o f,l[j]? =aa (o,f)->∀ n∈f.N,φ0 n=af)
 (hsz:∀ (j:Nat) o,ops[j]? =aa o->∀ d,o.dst=aa d->d<a0.tmps.size) {Q:Exit->Act->World->Prop}
 (U:∀ a w,StP φ0 E e0 h0 w0 a0 l (λ_=>ah) a w->Q .normal a w):
 ∀ (fuel:Nat) (listed:Array Bool) (a:Act) (w:World),listed.size=ops.size->D2 ops listed->ops.size<=fuel+listed.toList.countP id->
  StP φ0 E e0 h0 w0 a0 l (λj=>listed.getD j ai) a w->wpAny P .any ops Q fuel listed a w:=by
 have hlen:l.length=ops.size:=by have:=gA ak hl;simpa using this
 have fin:∀ (listed:Array Bool) (a:Act) (w:World),(∀ j,j<ops.size->listed.getD j ai=ah)->StP φ0 E e0 h0 w0 a0 l (λj=>listed.getD j ai) a w->Q .normal a w:=by
  intro listed a w hall hst;refine U a w ?_;have h1:=hc.final 0 (λj=>listed.getD j ai) (λj hj=>by simp only[bJ];exact hall j (by omega));have h2:=hc.final 0 (λ_=>ah) (λ_ _=>rfl);unfold StP at hst ⊢;rw[h1.1,h1.2] at hst;rw[h2.1,h2.2];obtain⟨φ,m,d,r⟩:=hst;refine ⟨φ,m,λi k h=>?_,r⟩;rcases d i k h with h|⟨j,o,f,_,hj,hn⟩
  .exact .inl h
  .exact .inr ⟨j,o,f,rfl,hj,hn⟩
 intro fuel;induction fuel with
 |zero=>
  intro listed a w hs hcl hcnt hst;have hall:∀ j,j<ops.size->listed.getD j ai=ah:=λj hj=>by
   have:=Nf (l:=listed.toList) (by simp only[ib];omega) j (by simp only[ib];omega);rw[cC] at this;rw[gr,this];rfl
  refine ⟨?_,fin listed a w hall hst⟩;cases hr:FR .any ops listed with
  |nil=>rfl
  |cons i r=>
   have hi:i∈FR .any ops listed:=by rw[hr];simp
   obtain⟨hun,o,I,_⟩:=mem_ready.1 hi;have hnf:=(rH hun).1;rw[hall i (cu.1 I).1] at hnf;cases hnf
 |succ fuel M=>
  intro listed a w hs hcl hcnt hst;refine ⟨λhr=>fin listed a w (λj hj=>Tp J hs hr (j+1) j (by omega) hj) hst,λi hi=>?_⟩;obtain⟨hun,o,I,hdeps⟩:=mem_ready.1 hi;obtain⟨hnf,hlt⟩:=rH hun;refine XM hl hc J hfr hsz hcl hi (λa' w' h=>M _ a' w' ?_ ?_ ?_ h) hst
  .simpa using hs
  .intro j oj hoj hj e he hb;by_cases hji:i=j
   .subst hji;rw[I] at hoj;cases hoj;exact getD_set_true (hdeps e he hb)
   .rw[getD_set_ne ai hji] at hj;exact getD_set_true (hcl j oj hoj hj e he hb)
  .have h1:listed.toList[i]? =aa ai:=by
    rw[cC,gY hlt];simp[hlt] at hnf;rw[hnf]
   rw[Array.toList_setIfInBounds,V9 h1];omega
def aj2 (φ0:PM) (E:Nat->Prop) (e':EF) (h0 h':HF) (N:List Nat) (w0:World) (a0:Act) (a:Act) (w:World):Prop:=
 ∃ φ,iJ φ0 φ h0 h' w0 w/\(∀ i k,φ i=aa k->φ0 i=aa k\/i∈N)/\qd φ E h' w/\LG φ (tot E φ h') w e' a/\a.defers=a0.defers/\a.tmps.size=a0.tmps.size
theorem iJ.drew {φ:PM} {h:HF} (w:World):iJ φ φ h h w {w with drawn:=w.drawn+1}:=
 ⟨λ_ _ h=>h,⟨rfl,rfl,rfl,bQ _,λ_ _ _=>rfl,λ_ _=>rfl⟩,λ_ _ h=>h⟩
theorem qd.moved {φ:PM} {E:Nat->Prop} {h:HF} {w w':World} (r:qd φ E h w) (m:iJ φ φ h h w w') (hk:∀ k,own φ h k->w'.heap[k]? =w.heap[k]?):qd φ E h w':=
 ⟨r.inj,λi b hb=>by
   obtain⟨k,h1,h2,o,J,I⟩:=r.at_ i b hb;exact⟨k,h1,h2,o,by rw[hk k ⟨i,b,hb,h1⟩];exact J,I.mono λ_ _ h=>m.keep h⟩,λk hk=>dj (r.el k hk) m.ext.size,
   λg cells hg=>m.keepF (r.gl g cells hg)⟩
theorem NZ {P:Program} {ops:Array Oper} {l:List (Oper×zX)} {e0 e':EF} {h0 h':HF} {φ0:PM} {E:Nat->Prop} {w0:World} {a0:Act} {id:Nat} {draw:Bool}
 (hm:P.follows .mixedOrders=ah) (hl:l.map (·.1)=ops.toList) (hc:yr P ops l e0 h0 e' h') (I:NIP ops l) (hfr:∀ n∈l.flatMap (λp=>p.2.N),φ0 n=af)
 (hsz:∀ (j:Nat) o,ops[j]? =aa o->∀ d,o.dst=aa d->d<a0.tmps.size) (hrep:qd φ0 E h0 w0) (henv:LG φ0 (tot E φ0 h0) w0 e0 a0) {Q:Exit->Act->World->Prop}
 (Y:∀ a w,aj2 φ0 E e' h0 h' (l.flatMap (λp=>p.2.N)) w0 a0 a w->Q .normal a w):(Code.region id ops draw).wp P Q a0 w0:=by
 have hfr':∀ (j:Nat) o f,l[j]? =aa (o,f)->∀ n∈f.N,φ0 n=af:=λj o f hj n hn=>hfr n (tP.2 ⟨(o,f),aZ hj,hn⟩)
 have fin:∀ a w,StP φ0 E e0 h0 w0 a0 l (λ_=>ah) a w->Q .normal a w:=by
  rintro a w ⟨φ,m,d,r,en,Z,sz⟩;have h2:=hc.final 0 (λ_=>ah) (λ_ _=>rfl);rw[h2.2] at m r en;rw[h2.1] at en;refine Y a w ⟨φ,m,λi k h=>?_,r,en,Z,sz⟩;rcases d i k h with h|⟨j,o,f,_,hj,hn⟩
  .exact .inl h
  .exact .inr (tP.2 ⟨(o,f),aZ hj,hn⟩)
 have st0:∀ (w:World),iJ φ0 φ0 h0 h0 w0 w->qd φ0 E h0 w->StP φ0 E e0 h0 w0 a0 l (λj=>(nP ops.size ai).getD j ai) a0 w:=by
  intro w m r;have e1:(λj=>(nP ops.size ai).getD j ai)=λ_=>ai:=by
   funext j;rw[gr,Array.getElem?_replicate];split<;>rfl
  rw[e1];have e2:Ju (λ_=>ai) 0 l e0=e0:=by funext t;rw[Bi];intros;rfl
  have e3:AZ (λ_=>ai) 0 l h0=h0:=by funext t;rw[Bh];intros;rfl
  refine ⟨φ0,by rw[e3];exact m,λ_ _ h=>.inl h,by rw[e3];exact r,?_,rfl,rfl⟩;rw[e2,e3];exact λt x U=>m.keep (henv t x U)
 have cl0:D2 ops (nP ops.size ai):=by
  intro j o ho hj;rw[gr,Array.getElem?_replicate] at hj;split at hj<;>simp at hj
 cases draw with
 |true=>
  refine wp_region_any hm ?_;exact LA hl hc I hfr' hsz fin ops.size _ a0 _ (by simp) cl0 (by omega) (st0 _ (iJ.drew w0) (hrep.moved (iJ.drew w0) λ_ _=>rfl))
 |false=>
  have hany:=LA (E:=E) (w0:=w0) hl hc I hfr' hsz fin ops.size _ a0 w0 (by simp) cl0 (by omega) (st0 _ (iJ.refl _ _ _) hrep);refine wp_region ?_;have key:∀ (m k:Nat) (listed:Array Bool) (a:Act) (w:World),k+m=ops.size->listed.size=ops.size->(∀ j,j<k->listed.getD j ai=ah)->(∀ j,k<=j->j<ops.size->listed.getD j ah=ai)->
   wpAny P .any ops Q m listed a w->wpOps P ops Q (List.range' k m) a w:=by
   intro m;induction m with
   |zero=>intro k listed a w hk hs h1 h2 h;simpa[wpOps] using h.2
   |succ m M=>
    intro k listed a w hk hs h1 h2 h;rw[List.range'_succ,wpOps_cons];have hkr:k∈FR .any ops listed:=by
     refine mem_ready.2 ⟨h2 k (bQ _) (by omega),ops[k]'(by omega),gY (by omega),λe he hb=>?_⟩;exact h1 _ (I.edge k _ (gY (by omega)) e he hb)
    refine wpOp_mono (λa' w' h'=>M (k+1) (listed.setIfInBounds k ah) a' w' (by omega) (by simpa using hs) ?_ ?_ h') (h.2 k hkr)
    .intro j hj;by_cases hjk:k=j
     .subst hjk;simp[show k<listed.size by omega]
     .rw[getD_set_ne ai hjk];exact h1 j (by omega)
    .intro j hj J;rw[getD_set_ne ah (by omega)];exact h2 j (by omega) J
  have:=key ops.size 0 (nP ops.size ai) a0 w0 (by omega) (by simp) (by intro j hj;omega) (by
   intro j _ hj;rw[gr,Array.getElem?_replicate,aJ hj];rfl) hany
  rwa [List.range_eq_range']
inductive PT (α:Type) where
 |leaf
 |node (v:Option α) (l r:PT α)
namespace PT
variable {α:Type}
def get:PT α->Nat->Option α
 |leaf,_=>af
 |node v l r,n=>match n with
  |0=>v
  |m+1=>if aA (m%2) 0 then get l (m/2) else get r (m/2)
def LZ:Nat->PT α->Nat->Option α->PT α
 |0,t,_,_=>t
 |k+1,t,n,x=>match t with
  |leaf=>(match n with
   |0=>node x leaf leaf
   |m+1=>if aA (m%2) 0 then node af (LZ k leaf (m/2) x) leaf else node af leaf (LZ k leaf (m/2) x))
  |node v l r=>(match n with
   |0=>node x l r
   |m+1=>if aA (m%2) 0 then node v (LZ k l (m/2) x) r else node v l (LZ k r (m/2) x))
def set (t:PT α) (n:Nat) (x:Option α):PT α:=LZ (n+1) t n x
theorem xM:∀ (k:Nat) (t:PT α) (n:Nat) (x:Option α),n<k->∀ i,(LZ k t n x).get i=if i=n then x else t.get i
 |0,_,_,_,h,_=>cX h (vJ _)
 |k+1,t,n,x,h,i=>by
  cases n with
  |zero=>
   cases t<;>cases i<;>simp[LZ,get]
  |succ m=>
   have hm:m/2<k:=by have:=Nat.div_le_self m 2;omega
   cases t with
   |leaf=>
    simp only[LZ];cases hb:aA (m%2) 0 with
    |true=>
     have J:m%2=0:=av hb;simp only[bB];cases i with
     |zero=>simp[get]
     |succ j=>
      simp only[get];cases hj:aA (j%2) 0 with
      |true=>
       have I:j%2=0:=av hj;simp only[bB];rw[xM k _ _ _ hm];by_cases he:j/2=m/2
       .rw[aJ he,aJ (by omega)]
       .rw[aC he,aC (by omega)];rfl
      |false=>
       have I:¬j%2=0:=gV hj;simp only[co,dR];rw[aC (by omega)]
    |false=>
     have J:¬m%2=0:=gV hb;simp only[co,dR];cases i with
     |zero=>simp[get]
     |succ j=>
      simp only[get];cases hj:aA (j%2) 0 with
      |true=>
       have I:j%2=0:=av hj;simp only[bB];rw[aC (by omega)]
      |false=>
       have I:¬j%2=0:=gV hj;simp only[co,dR];rw[xM k _ _ _ hm];by_cases he:j/2=m/2
       .rw[aJ he,aJ (by omega)]
       .rw[aC he,aC (by omega)];rfl
   |node v l r=>
    simp only[LZ];cases hb:aA (m%2) 0 with
    |true=>
     have J:m%2=0:=av hb;simp only[bB];cases i with
     |zero=>simp[get]
     |succ j=>
      simp only[get];cases hj:aA (j%2) 0 with
      |true=>
       have I:j%2=0:=av hj;simp only[bB];rw[xM k _ _ _ hm];by_cases he:j/2=m/2
       .rw[aJ he,aJ (by omega)]
       .rw[aC he,aC (by omega)]
      |false=>
       have I:¬j%2=0:=gV hj;simp only[co,dR];rw[aC (by omega)]
    |false=>
     have J:¬m%2=0:=gV hb;simp only[co,dR];cases i with
     |zero=>simp[get]
     |succ j=>
      simp only[get];cases hj:aA (j%2) 0 with
      |true=>
       have I:j%2=0:=av hj;simp only[bB];rw[aC (by omega)]
      |false=>
       have I:¬j%2=0:=gV hj;simp only[co,dR];rw[xM k _ _ _ hm];by_cases he:j/2=m/2
       .rw[aJ he,aJ (by omega)]
       .rw[aC he,aC (by omega)]
theorem get_set (t:PT α) (n:Nat) (x:Option α) (i:Nat):(t.set n x).get i=if i=n then x else t.get i:=xM (n+1) t n x (by omega) i
def mask {β:Type}:PT α->PT β->PT α
 |leaf,_=>leaf
 |node _ _ _,leaf=>leaf
 |node v l r,node u J I=>node (match u with|some _=>v|none=>af) (mask l J) (mask r I)
def mk:Option α->PT α->PT α->PT α
 |none,leaf,leaf=>leaf
 |v,l,r=>node v l r
def only (m:Nat):Nat->Nat->PT α->PT α
 |_,_,leaf=>leaf
 |a,b,node v l r=>mk (if aL m b then v else af) (only m (2*a) (a+b) l) (only m (2*a) (2*a+b) r)
def exc (m:Nat):Nat->Nat->PT α->PT α
 |_,_,leaf=>leaf
 |a,b,node v l r=>mk (if aL m b then af else v) (exc m (2*a) (a+b) l) (exc m (2*a) (2*a+b) r)
def merge (m:Nat):Nat->Nat->PT α->PT α->PT α
 |a,b,leaf,t=>only m a b t
 |a,b,node v l r,leaf=>exc m a b (node v l r)
 |a,b,node v l r,node I M J=>mk (if aL m b then I else v) (merge m (2*a) (a+b) l M) (merge m (2*a) (2*a+b) r J)
def all (p:Nat->α->Bool):Nat->Nat->PT α->Bool
 |_,_,leaf=>ah
 |a,b,node v l r=>(match v with|some x=>p b x|none=>ah)&&all p (2*a) (a+b) l&&all p (2*a) (2*a+b) r
theorem get_all (p:Nat->α->Bool):∀ (t:PT α) (a b i:Nat) (x:α),all p a b t=ah->t.get i=aa x->p (a*i+b) x=ah
 |leaf,_,_,_,_,_,h=>by simp[get] at h
 |node v l r,a,b,0,x,h,I=>by
  simp only[get] at I;subst I;simp only[all,au] at h;rw[Nat.mul_zero,bJ];exact h.1.1
 |node v l r,a,b,j+1,x,h,I=>by
  simp only[all,au] at h;simp only[get] at I;cases hj:aA (j%2) 0 with
  |true=>
   have J:j%2=0:=av hj;simp only[hj,bB] at I;have key:=get_all p l _ _ _ x h.1.2 I;have:2*a*(j/2)+(a+b)=a*(j+1)+b:=by
    have e:j=2*(j/2):=by omega
    calc 2*a*(j/2)+(a+b)=a*(2*(j/2))+a+b:=by rw[FW 2 a,Nat.mul_assoc];omega
     _=a*(j+1)+b:=by rw[<- e,Nat.mul_add];omega
   rw[this] at key;exact key
  |false=>
   have J:¬j%2=0:=gV hj;simp only[hj,co,dR] at I;have key:=get_all p r _ _ _ x h.2 I;have:2*a*(j/2)+(2*a+b)=a*(j+1)+b:=by
    have e:j=2*(j/2)+1:=by omega
    have h2:a*(j+1)=a*(2*(j/2))+2*a:=by
     calc a*(j+1)=a*(2*(j/2)+2):=by rw[show j+1=2*(j/2)+2 from by omega]
      _=a*(2*(j/2))+2*a:=by rw[Nat.mul_add];omega
    have M:2*a*(j/2)=a*(2*(j/2)):=by rw[FW 2 a,Nat.mul_assoc]
    omega
   rw[this] at key;exact key
def dom:Nat->Nat->PT α->Nat->Nat
 |_,_,leaf,acc=>acc
 |a,b,node v l r,acc=>dom (2*a) (a+b) l (dom (2*a) (2*a+b) r (match v with|some _=>acc|||(1<<<b)|none=>acc))
def emp:PT α:=leaf
end PT
abbrev yq:=PT AV
abbrev nA:=PT vH
abbrev NW:=List (Nat×vH)
def yq.put (e:yq):Option Nat->AV->yq
 |none,_=>e
 |some d,x=>e.set d (aa x)
def iP:NW->HF
 |[],_=>af
 |(s,x)::r,t=>if aA s t then aa x else iP r t
theorem XE (e:yq) (d:Option Nat) (x:AV):Bs e.get d x=(e.put d x).get:=by
 funext t;cases d with
 |none=>simp[Bs,yq.put]
 |some d=>
  simp only[Bs,yq.put,PT.get_set,aj];by_cases h:d=t
  .simp[h]
  .rw[aC h,aC (λe=>h e.symm)]
def Gg (acc:List Nat) (s:Nat) (e:Edge):Nat:=if yw .any e then (s|||2^e.on)|||acc.getD e.on 0 else s
def I1:List Oper->List Nat->List Nat
 |[],acc=>acc
 |o::r,acc=>I1 r (acc++[o.after.toList.foldl (Gg acc) 0])
theorem I2 {ops:Array Oper} {o:Oper} {k:Nat} {acc:List Nat} (J:ops[k]? =aa o) (M:∀ (j:Nat) B,acc[j]? =aa B->∀ i,B.testBit i=ah->Zt ops j i):
 ∀ (es:List Edge) (s:Nat),(∀ e∈es,e∈o.after)->(∀ i,s.testBit i=ah->Zt ops k i)->∀ i,(es.foldl (Gg acc) s).testBit i=ah->Zt ops k i
 |[],s,_,hs,i,hi=>hs i hi
 |e::r,s,he,hs,i,hi=>by
  refine I2 J M r (Gg acc s e) (λe' h'=>he e' (cO _ h')) (λi hi=>?_) i hi;unfold Gg at hi;split at hi
  .rename_i hb;rw[bl,bl,iE,iE] at hi;rcases hi with (hi|hi)|hi
   .exact hs i hi
   .rw[Nat.testBit_two_pow] at hi;have:e.on=i:=by simpa using hi
    subst this;exact .one J (he e (dG ..)) hb
   .refine .more J (he e (dG ..)) hb ?_;rw[ax] at hi;cases I:acc[e.on]? with
    |none=>rw[I] at hi;simp at hi
    |some C=>rw[I] at hi;exact M _ C I i hi
  .exact hs i hi
theorem Lz {ops:Array Oper}:∀ (rest:List Oper) (acc:List Nat),(∀ (j:Nat),∀ o,rest[j]? =aa o->ops[acc.length+j]? =aa o)->
 (∀ (j:Nat) B,acc[j]? =aa B->∀ i,B.testBit i=ah->Zt ops j i)->∀ (j:Nat) B,(I1 rest acc)[j]? =aa B->∀ i,B.testBit i=ah->Zt ops j i
 |[],acc,_,I=>I
 |o::r,acc,J,I=>by
  refine Lz r _ (λj o' hj=>?_) ?_
  .rw[bn,gf,show acc.length+1+j=acc.length+(j+1) from by omega];exact J (j+1) o' (by simpa using hj)
  .intro j B hj i hi;rcases bW j acc.length with h|h
   .rw[bK h] at hj;exact I j B hj i hi
   .rw[bX h] at hj;have M:j-acc.length=0:=by
     rcases Jq (j-acc.length) with h0|h0
     .exact h0
     .rw[bM (by simp;omega)] at hj;cases hj
    have hjl:j=acc.length:=by omega
    subst hjl;simp at hj;subst hj;have hoo:ops[acc.length]? =aa o:=by simpa using J 0 o rfl
    rw[<- Array.foldl_toList] at hi;exact I2 hoo I _ 0 (λe he=>by simpa using he) (λi hi=>by simp at hi) i hi
inductive WD where
 |mv (x:Operand)
 |pick (c a b:Operand)
 |alloc (ty:TypeId) (z:List Value)
 |box (ty:TypeId) (x:Operand)
 |build (z:List Value) (parts:List (Nat×Nat×Operand))
 |bsl (ty:TypeId) (sz len:Nat) (z:List Value) (parts:List (Nat×Nat×Operand))
 |load (sz:Nat) (ag:Bool) (x:Operand)
 |store (sz:Nat) (x v:Operand)
 |nilc (x:Operand)
 |bin (op:BinOp) (x y:Operand)
 |eqs (neg:Bool) (ds:List TypeDesc) (x y:Operand)
 |isnil (neg:Bool) (x:Operand)
 |eqb (neg:Bool) (x y:Operand)
 |not (x:Operand)
 |conv (k:IntKind) (x:Operand)
 |mksl (ty:TypeId) (sz bytes:Nat) (z:List Value) (l c:Operand)
 |slc (sz:Nat) (x:Operand) (lo hi mx:Option Operand)
 |fad (off:Nat) (x:Operand)
 |fld (off sz:Nat) (ag:Bool) (x:Operand)
 |iad (sz:Nat) (x i:Operand)
 |iada (n sz:Nat) (x i:Operand)
 |idx (n sz:Nat) (ag:Bool) (x i:Operand)
 |ext (x:Operand) (i:Nat)
 |len (x:Operand)
 |lens (x:Operand)
 |lenm (x:Operand)
 |max (x y:Operand)
 |min (x y:Operand)
 |sidx (x i:Operand)
 |app (ty:TypeId) (sz bytes:Nat) (s x:Operand)
 |copy (sz:Nat) (d x:Operand)
 |clr (sz:Nat) (z:List Value) (x:Operand)
 |mkf (f:FuncId) (caps:List Operand)
 |mkm
 |lku (str ok:Bool) (z:Value) (x k:Operand)
 |mup (str:Bool) (x k v:Operand)
 |rng (x:Operand)
 |nxt (x:Operand)
 |bad
inductive SI where
 |op (s:WD)
 |call (f:FuncId) (args:List Operand)
 |callv (x:Operand) (args:List Operand)
def Vk (t:Nat):List Nat->Bool
 |[]=>ai
 |x::r=>aA x t||Vk t r
def IX:List Value->Bool
 |[]=>ah
 |v::r=>v.oneCell'&&IX r
def DL:Value->AV
 |.agg vs=>if IX vs.toList then .agg (vs.toList.map λv=>.f (.raw v)) else .f (.raw (.agg vs))
 |v=>.f (.raw v)
def me (e:yq):Operand->Option AV
 |.tmp t=>e.get t
 |.const v=>aa (DL v)
 |.func g=>aa (.clo g [])
 |.global g=>match G g with|some cells=>aa (.f (.ptr cells 0))|none=>af
def UC (e:yq):List Operand->Option (List AV)
 |[]=>aa []
 |x::xs=>match me e x with|some y=>(match UC e xs with|some I=>aa (y::I)|none=>af)|none=>af
structure AS where
 val:AV
 rd:List Nat
 wr:List Nat
 nw:NW
 N:List Nat
def AS.eff (r:AS):zX:=⟨r.val,r.rd,r.wr,iP r.nw,r.N⟩
def rv (x:AV):Option AS:=aa ⟨x,[],[],[],[]⟩
def raw (v:Value):AV:=.f (.raw v)
def ZT (ok:Bool) (v:AV) (b:Bool):AV:=match ok with|true=>.tup [v,raw (.bool b)]|false=>v
def wG:List AV->Option (List FV)
 |[]=>aa []
 |.f x::r=>match wG r with|some l=>aa (x::l)|none=>af
 |_::_=>af
def oN (l:List AV):BC:=match wG l with|some fs=>.fz fs|none=>.mx l
def KV (l:List AV):AV:=match wG l with|some fs=>.f (.agg fs)|none=>.agg l
def splice {α:Type} (l:List α) (off:Nat) (vs:List α):List α:=l.take off++vs++l.drop (off+vs.length)
def BC.toMx:BC->List AV
 |.fz l=>l.map .f
 |.mx l=>l
 |_=>[]
def gu:List AV->Bool
 |[]=>ah
 |x::r=>x.isCell&&gu r
def BC.put (c:BC) (off:Nat) (vs:List AV):Option BC:=
 if c.isCells&&eo (off+vs.length) c.len&&gu vs then
  match c,wG vs with
  |.fz l,aa I=>aa (.fz (splice l off I))
  |c,_=>aa (.mx (splice c.toMx off vs))
 else af
def BC.sub? (c:BC) (off sz:Nat):Bool->Option AV
 |false=>match sz with|1=>c.get off|_=>af
 |true=>match c with
  |.fz l=>if eo (off+sz) l.length then aa (.f (.agg ((l.drop off).take sz))) else af
  |.mx l=>if eo (off+sz) l.length then aa (.agg ((l.drop off).take sz)) else af
  |_=>af
def AV.cs:AV->List AV
 |.agg l=>l
 |.f (.agg l)=>l.map .f
 |x=>[x]
def CE (h:nA) (sz:Nat) (ag:Bool):AV->Option AS
 |.ptr id off=>match h.get id with
  |some b=>(match b.c.sub? off sz ag with|some v=>aa ⟨v,[id],[],[],[]⟩|none=>af)
  |none=>af
 |.f (.ptr cells off)=>(match (BC.fz cells).sub? off sz ag with|some v=>rv v|none=>af)
 |_=>af
def I3 (h:nA) (sz:Nat) (v:AV):AV->Option AS
 |.ptr id off=>match h.get id with
  |some b=>if v.cs.length==sz then (match b.c.put off v.cs with|some c=>aa ⟨raw undef,[id],[id],[(id,⟨b.ty,c⟩)],[]⟩|none=>af) else af
  |none=>af
 |_=>af
def xR (cells:List AV) (e:yq):List (Nat×Nat×Operand)->Option (List AV)
 |[]=>aa cells
 |(off,sz,x)::r=>match me e x with
  |some v=>if v.cs.length==sz&&eo (off+sz) cells.length&&gu v.cs then xR (splice cells off v.cs) e r else af
  |none=>af
def cR (a b:Int):Bool:=decide (a<=b)
def fE (a b:Int):Bool:=decide (a<b)
def Kz (k:IntKind) (n:Int):Int:=
 match k with
 |.i64=>if cR (-9223372036854775808) n&&cR n 9223372036854775807 then n else ol .i64 n
 |.u8=>if cR 0 n&&cR n 255 then n else ol .u8 n
 |k=>ol k n
def nok:Int->Bool
 |.ofNat k=>aA k k
 |.negSucc k=>aA k k
theorem agj (n:Int):nok n=ah:=by cases n<;>exact qK _
def bg (k:IntKind) (n:Int):Int:=bif nok n then Kz k n else 0
theorem FX (k:IntKind) (n:Int):bg k n=Kz k n:=by unfold bg;rw[agj];rfl
def qV (a b:ByteArray):Bool:=a.data.toList==b.data.toList
def tL (op:BinOp):Value->Value->Option Value
 |.int k a,.int k' b=>if k==k' then
   match op with
   |.add=>aa (.int k (bg k (a+b)))
   |.sub=>aa (.int k (bg k (a-b)))
   |.mul=>aa (.int k (bg k (a*b)))
   |.rem=>if b==0 then af else aa (.int k (a.tmod b))
   |.quo=>if b==0 then af else aa (.int k (bg k (a.tdiv b)))
   |.eql=>aa (.bool (a==b))
   |.neq=>aa (.bool (a !=b))
   |.lss=>aa (.bool (fE a b))
   |.leq=>aa (.bool (cR a b))
   |.gtr=>aa (.bool (fE b a))
   |.geq=>aa (.bool (cR b a))
   |_=>af
  else af
 |.string a,.string b=>match op with
   |.eql=>aa (.bool (qV a b))
   |.neq=>aa (.bool !(qV a b))
   |_=>af
 |_,_=>af
def wv:TypeDesc->FV->FV->Option Bool
 |.int _,.raw (.int k a),.raw (.int k' b)=>if k==k' then aa (a==b) else af
 |.bool,.raw (.bool a),.raw (.bool b)=>aa (a==b)
 |.string,.raw (.string a),.raw (.string b)=>aa (qV a b)
 |_,_,_=>af
def ox:List TypeDesc->List FV->List FV->Option Bool
 |[],[],[]=>aa ah
 |d::ds,x::xs,y::I=>match wv d x y with
  |some ah=>ox ds xs I
  |some ai=>aa ai
  |none=>af
 |_,_,_=>af
def AV.row? (h:nA) (sz:Nat):AV->Option (List AV×Nat×List Nat)
 |.f (.sl cells n)=>if eo (n*sz) cells.length then aa ((cells.take (n*sz)).map .f,n,[]) else af
 |.f (.raw (.slice af 0 0))=>aa ([],0,[])
 |.emp=>aa ([],0,[])
 |.row id sz' n=>if sz'==sz then (match h.get id with|some b=>if b.c.isCells&&eo (n*sz) b.c.len then aa (b.c.toMx.take (n*sz),n,[id]) else af|none=>af) else af
 |.sl id off n=>match h.get id with|some b=>if b.c.isCells&&eo (off+n*sz) b.c.len then aa ((b.c.toMx.drop off).take (n*sz),n,[id]) else af|none=>af
 |_=>af
def AV.slen:AV->Option Nat
 |.f (.sl _ n)=>aa n
 |.f (.raw (.slice _ n _))=>aa n
 |.emp=>aa 0
 |.row _ _ n=>aa n
 |.sl _ _ n=>aa n
 |_=>af
def a_ (n bytes:Nat):Bool:=eo n 1099511627776&&eo (n*bytes) 1099511627776
def repl (z:List Value):Nat->List FV
 |0=>[]
 |n+1=>z.map .raw++repl z n
def yK:Value->Bool
 |.slice af 0 0=>ah
 |_=>ai
def Hd:AV->Bool
 |.emp=>ah
 |.f (.raw v)=>yK v
 |_=>ai
def r_ (k:Value):List (Value×AV)->Option (Option AV)
 |[]=>aa af
 |(k',v)::r=>match tL .eql k k' with
  |some (.bool ah)=>aa (aa v)
  |some (.bool ai)=>r_ k r
  |_=>af
def xB (k:Value) (v:AV):List (Value×AV)->Option (List (Value×AV))
 |[]=>aa [(k,v)]
 |(k',I)::r=>match tL .eql k k' with
  |some (.bool ah)=>aa ((k,v)::r)
  |some (.bool ai)=>(match xB k v r with|some J=>aa ((k',I)::J)|none=>af)
  |_=>af
def xD:Bool->Value->Bool
 |false,.int _ _=>ah
 |true,.string _=>ah
 |_,_=>ai
def eC (s:WD) (e:yq) (h:nA) (nx:Nat):Option AS:=
 match s with
 |.mv x=>match me e x with|some v=>rv v|none=>af
 |.pick c a b=>match me e c with
  |some (.f (.raw (.bool t)))=>(match me e (if t then a else b) with|some v=>rv v|none=>af)
  |_=>af
 |.alloc ty z=>aa ⟨.ptr nx 0,[],[nx],[(nx,⟨ty,.fz (z.map .raw)⟩)],[nx]⟩
 |.box ty x=>match me e x with
  |some v=>if gu v.cs then aa ⟨.ptr nx 0,[],[nx],[(nx,⟨ty,oN v.cs⟩)],[nx]⟩ else af
  |none=>af
 |.build z parts=>match xR (z.map raw) e parts with|some cs=>rv (KV cs)|none=>af
 |.bsl ty sz len z parts=>match xR ((repl z len).map .f) e parts with
  |some cs=>aa ⟨if len=0 then .emp else .row nx sz len,[],[nx],[(nx,⟨ty,oN cs⟩)],[nx]⟩
  |none=>af
 |.load sz ag x=>match me e x with|some p=>CE h sz ag p|none=>af
 |.store sz x v=>match me e x,me e v with|some p,aa y=>I3 h sz y p|_,_=>af
 |.nilc x=>match me e x with
  |some (.ptr id off)=>rv (.ptr id off)
  |some (.f (.ptr cells off))=>rv (.f (.ptr cells off))
  |some (.clo g cap)=>rv (.clo g cap)
  |_=>af
 |.bin op x y=>match me e x,me e y with
  |some (.f (.raw u)),aa (.f (.raw v))=>(match tL op u v with|some r=>rv (raw r)|none=>af)
  |_,_=>af
 |.eqs neg ds x y=>match me e x,me e y with
  |some (.f (.agg a)),aa (.f (.agg b))=>(match ox ds a b with|some r=>rv (raw (.bool (r !=neg)))|none=>af)
  |_,_=>af
 |.eqb neg x y=>match me e x,me e y with
  |some (.f (.raw (.bool a))),aa (.f (.raw (.bool b)))=>rv (raw (.bool ((a==b) !=neg)))
  |_,_=>af
 |.isnil neg x=>match me e x with
  |some (.row _ _ _)=>rv (raw (.bool neg))
  |some (.sl _ _ _)=>rv (raw (.bool neg))
  |some (.f (.sl _ (_+1)))=>rv (raw (.bool neg))
  |some (.f (.sl _ 0))=>rv .anyb
  |some .emp=>rv .anyb
  |some (.f (.raw v))=>if yK v then rv (raw (.bool !neg)) else af
  |_=>af
 |.not x=>match me e x with|some (.f (.raw (.bool b)))=>rv (raw (.bool !b))|_=>af
 |.conv k x=>match me e x with|some (.f (.raw (.int _ n)))=>rv (raw (.int k (bg k n)))|_=>af
 |.mksl ty sz bytes z l c=>match me e l,me e c with
  |some (.f (.raw (.int _ a))),aa (.f (.raw (.int _ b)))=>
   if cR 0 a&&cR a b&&a_ b.toNat bytes then aa ⟨.row nx sz a.toNat,[],[nx],[(nx,⟨ty,.fz (repl z a.toNat)⟩)],[nx]⟩ else af
  |_,_=>af
 |.slc sz x lo hi mx=>match me e x with
  |some v=>match lo,hi,mx with
   |none,aa (.const (.int _ 0)),aa (.const (.int _ 0))=>if v.slen.isSome then rv .emp else af
   |none,aa b,af=>match v,me e b with
    |.row id sz' n,aa (.f (.raw (.int _ j)))=>if sz'==sz&&cR 0 j&&cR j n then (match h.get id with
     |some blk=>if blk.c.isCells&&eo (n*sz) blk.c.len then aa ⟨.row nx sz j.toNat,[id],[nx,id],[(nx,⟨blk.ty,oN (blk.c.toMx.take (j.toNat*sz))⟩)],[nx]⟩ else af
     |none=>af) else af
    |.f (.sl cells n),aa (.f (.raw (.int _ j)))=>if cR 0 j&&cR j n&&eo (n*sz) cells.length then rv (.f (.sl (cells.take (j.toNat*sz)) j.toNat)) else af
    |_,_=>af
   |some b,af,af=>match v,me e b with
    |.row id sz' n,aa (.f (.raw (.int _ j)))=>if sz'==sz&&cR 0 j&&fE j n then rv (.sl id (j.toNat*sz) (n-j.toNat)) else af
    |.f (.sl cells n),aa (.f (.raw (.int _ j)))=>if cR 0 j&&cR j n&&eo (n*sz) cells.length then rv (.f (.sl ((cells.drop (j.toNat*sz)).take ((n-j.toNat)*sz)) (n-j.toNat))) else af
    |_,_=>af
   |_,_,_=>af
  |none=>af
 |.fad off x=>match me e x with
  |some (.ptr id o)=>rv (.ptr id (o+off))
  |some (.f (.ptr cells o))=>rv (.f (.ptr cells (o+off)))
  |_=>af
 |.fld off sz ag x=>match me e x with
  |some (.agg l)=>(match (BC.mx l).sub? off sz ag with|some v=>rv v|none=>af)
  |some (.f (.agg l))=>(match (BC.fz l).sub? off sz ag with|some v=>rv v|none=>af)
  |_=>af
 |.iad sz x i=>match me e x,me e i with
  |some v,aa (.f (.raw (.int _ j)))=>match v with
   |.row id sz' n=>if sz'==sz&&cR 0 j&&fE j n then rv (.ptr id (j.toNat*sz)) else af
   |.sl id off n=>if cR 0 j&&fE j n then rv (.ptr id (off+j.toNat*sz)) else af
   |.f (.sl cells n)=>if cR 0 j&&fE j n then rv (.f (.ptr cells (j.toNat*sz))) else af
   |_=>af
  |_,_=>af
 |.iada n sz x i=>match me e x,me e i with
  |some v,aa (.f (.raw (.int _ j)))=>if cR 0 j&&fE j n then (match v with
   |.ptr id off=>rv (.ptr id (off+j.toNat*sz))
   |.f (.ptr cells off)=>rv (.f (.ptr cells (off+j.toNat*sz)))
   |_=>af) else af
  |_,_=>af
 |.idx n sz ag x i=>match me e x,me e i with
  |some v,aa (.f (.raw (.int _ j)))=>if cR 0 j&&fE j n then (match v with
   |.agg l=>(match (BC.mx l).sub? (j.toNat*sz) sz ag with|some v=>rv v|none=>af)
   |.f (.agg l)=>(match (BC.fz l).sub? (j.toNat*sz) sz ag with|some v=>rv v|none=>af)
   |_=>af) else af
  |_,_=>af
 |.ext x i=>match me e x with|some (.tup l)=>(match l[i]? with|some v=>rv v|none=>af)|_=>af
 |.len x=>match me e x with
  |some v=>(match v.slen with|some n=>rv (raw (.int .i64 n))|none=>af)
  |none=>af
 |.lens x=>match me e x with
  |some (.f (.raw (.string s)))=>rv (raw (.int .i64 s.data.toList.length))
  |_=>af
 |.lenm x=>match me e x with
  |some (.mp id)=>(match h.get id with|some ⟨_,.mp es⟩=>aa ⟨raw (.int .i64 es.length),[id],[],[],[]⟩|_=>af)
  |_=>af
 |.max x y=>match me e x,me e y with
  |some (.f (.raw (.int k a))),aa (.f (.raw (.int _ b)))=>rv (raw (.int k (if fE a b then b else a)))
  |_,_=>af
 |.min x y=>match me e x,me e y with
  |some (.f (.raw (.int k a))),aa (.f (.raw (.int _ b)))=>rv (raw (.int k (if fE b a then b else a)))
  |_,_=>af
 |.sidx x i=>match me e x,me e i with
  |some (.f (.raw (.string s))),aa (.f (.raw (.int _ j)))=>if cR 0 j then (match s.data.toList[j.toNat]? with|some b=>rv (raw (.int .u8 b.toNat))|none=>af) else af
  |_,_=>af
 |.app ty sz bytes s x=>match me e s,me e x with
  |some b,aa y=>match y.row? h sz with
   |some (src,m,rd)=>match b with
    |.row id sz' n=>match h.get id with
     |some blk=>if sz'==sz&& !(Vk id rd)&&blk.c.isCells&&eo (n*sz) blk.c.len&&blk.ty==ty&&a_ (n+m) bytes then
       aa ⟨.row nx sz (n+m),id::rd,[nx,id],[(nx,⟨ty,oN (blk.c.toMx.take (n*sz)++src)⟩)],[nx]⟩ else af
     |none=>af
    |b=>if Hd b&&a_ m bytes then
      (if m==0 then aa ⟨b,rd,[],[],[]⟩ else aa ⟨.row nx sz m,rd,[nx],[(nx,⟨ty,oN src⟩)],[nx]⟩) else af
   |none=>af
  |_,_=>af
 |.copy sz d x=>match me e d,me e x with
  |some (.row id sz' n),aa y=>(match h.get id,y.row? h sz with
   |some blk,aa (src,m,rd)=>if sz'==sz&& !(Vk id rd)&&eo (n*sz) blk.c.len then
     (match blk.c.put 0 (src.take (iC m n*sz)) with
     |some c=>aa ⟨raw (.int .i64 (iC m n)),id::rd,[id],[(id,⟨blk.ty,c⟩)],[]⟩
     |none=>af) else af
   |_,_=>af)
  |_,_=>af
 |.clr _ z x=>match me e x with
  |some (.sl id off n)=>(match h.get id with
   |some blk=>if fR 0 n then (match blk.c.put off ((repl z n).map .f) with
    |some c=>aa ⟨.tup [],[id],[id],[(id,⟨blk.ty,c⟩)],[]⟩
    |none=>af) else af
   |none=>af)
  |_=>af
 |.mkf f caps=>match UC e caps with|some l=>rv (.clo f l)|none=>af
 |.mkm=>aa ⟨.mp nx,[],[nx],[(nx,⟨0,.mp []⟩)],[nx]⟩
 |.lku str ok z x k=>match me e x,me e k with
  |some (.mp id),aa (.f (.raw key))=>(match h.get id with
   |some ⟨_,.mp es⟩=>if xD str key then (match r_ key es with|some (aa v)=>aa ⟨ZT ok v ah,[id],[],[],[]⟩|some af=>aa ⟨ZT ok (raw z) ai,[id],[],[],[]⟩|none=>af) else af
   |_=>af)
  |_,_=>af
 |.mup str x k v=>match me e x,me e k,me e v with
  |some (.mp id),aa (.f (.raw key)),aa y=>(match h.get id with
   |some ⟨ty,.mp es⟩=>if xD str key then (match xB key y es with|some es'=>aa ⟨raw undef,[id],[id],[(id,⟨ty,.mp es'⟩)],[]⟩|none=>af) else af
   |_=>af)
  |_,_,_=>af
 |.rng x=>match me e x with
  |some (.f (.raw (.string s)))=>aa ⟨.ptr nx 0,[],[nx],[(nx,⟨0,.it s 0⟩)],[nx]⟩
  |_=>af
 |.nxt x=>match me e x with
  |some (.ptr id 0)=>(match h.get id with
   |some ⟨ty,.it s p⟩=>(match s.data.toList[p]? with
    |some b=>if fR b.toNat 128 then aa ⟨.tup [raw (.bool ah),raw (.int .i64 p),raw (.int .i32 b.toNat)],[id],[id],[(id,⟨ty,.it s (p+1)⟩)],[]⟩ else af
    |none=>aa ⟨.tup [raw (.bool ai)],[id],[id],[(id,⟨ty,.it s p⟩)],[]⟩)
   |_=>af)
  |_=>af
 |.bad=>af
structure rz where
 dst:Option Nat
 op:SI
 guard:Option (Nat×Bool)
inductive SC where
 |skip
 |reg (ops:List rz) (prs:List (Nat×Nat))
 |seq (a b:SC)
 |cond (c:Nat) (a b:SC)
 |block (id:Nat) (b:SC)
 |loop (b:SC)
 |exit (id:Nat)
 |ret
 |defer (f:FuncId) (caps:List Operand) (t:Nat)
 |bad
structure aj1 where
 val:AV
 h:nA
 nx:Nat
 wr:Nat
abbrev U6:=FuncId->List AV->nA->Nat->Option aj1
mutual
def AV.ids:AV->Nat->Nat
 |.ptr id _,acc=>acc|||(1<<<id)
 |.sl id _ _,acc=>acc|||(1<<<id)
 |.row id _ _,acc=>acc|||(1<<<id)
 |.mp id,acc=>acc|||(1<<<id)
 |.agg l,acc=>AV.idsL l acc
 |.tup l,acc=>AV.idsL l acc
 |.clo _ l,acc=>AV.idsL l acc
 |.f _,acc=>acc
 |.emp,acc=>acc
 |.anyb,acc=>acc
def AV.idsL:List AV->Nat->Nat
 |[],acc=>acc
 |x::r,acc=>AV.idsL r (AV.ids x acc)
end
mutual
def AV.all (p:Nat->Bool):AV->Bool
 |.ptr id _=>p id
 |.sl id _ _=>p id
 |.row id _ _=>p id
 |.mp id=>p id
 |.agg l=>AV.allL p l
 |.tup l=>AV.allL p l
 |.clo _ l=>AV.allL p l
 |.f _=>ah
 |.emp=>ah
 |.anyb=>ah
def AV.allL (p:Nat->Bool):List AV->Bool
 |[]=>ah
 |x::r=>AV.all p x&&AV.allL p r
end
def BC.ids:BC->Nat->Nat
 |.mx l,acc=>AV.idsL l acc
 |.mp es,acc=>AV.idsL (es.map (·.2)) acc
 |_,acc=>acc
def BC.all (p:Nat->Bool):BC->Bool
 |.mx l=>AV.allL p l
 |.mp es=>AV.allL p (es.map (·.2))
 |_=>ah
def nA.all (p:Nat->Bool) (h:nA):Bool:=PT.all (λi b=>p i&&b.c.all p) 1 0 h
def T8:Nat->nA->Nat->Nat->Nat
 |0,_,_,JB=>JB
 |n+1,h,todo,JB=>
  if aA todo 0 then JB else
  match Nat.log2 todo with
  |id=>if aL JB id then T8 n h (todo ^^^ (1<<<id)) JB else
   match h.get id with
   |some b=>T8 n h (b.c.ids (todo ^^^ (1<<<id))) (JB|||(1<<<id))
   |none=>T8 n h (todo ^^^ (1<<<id)) JB
section force
variable {α:Type}
def rJ (n:Nat) (k:Nat->α):α:=match n with|0=>k 0|m+1=>k (m+1)
def frcI (n:Int) (k:Int->α):α:=match n with|.ofNat m=>rJ m λm=>k (.ofNat m)|.negSucc m=>rJ m λm=>k (.negSucc m)
def frcB (b:Bool) (k:Bool->α):α:=match b with|true=>k ah|false=>k ai
def frcV (v:Value) (k:Value->α):α:=match v with
 |.int kd n=>frcI n λn=>k (.int kd n)
 |.bool b=>frcB b λb=>k (.bool b)
 |v=>k v
def agq (x:FV) (k:FV->α):α:=match x with
 |.raw v=>frcV v λv=>k (.raw v)
 |.ptr cells off=>rJ off λoff=>k (.ptr cells off)
 |.sl cells n=>rJ n λn=>k (.sl cells n)
 |.agg l=>k (.agg l)
def Yn:List FV->(List FV->α)->α
 |[],k=>k []
 |x::r,k=>agq x λx=>Yn r λr=>k (x::r)
def agp (x:FV) (k:FV->α):α:=match x with
 |.agg l=>Yn l λl=>k (.agg l)
 |x=>agq x k
def acf (x:AV) (k:AV->α):α:=match x with
 |.f x=>agp x λx=>k (.f x)
 |.ptr id off=>rJ id λid=>rJ off λoff=>k (.ptr id off)
 |.sl id off n=>rJ id λid=>rJ off λoff=>rJ n λn=>k (.sl id off n)
 |.row id sz n=>rJ id λid=>rJ sz λsz=>rJ n λn=>k (.row id sz n)
 |.mp id=>rJ id λid=>k (.mp id)
 |x=>k x
def O1:List AV->(List AV->α)->α
 |[],k=>k []
 |x::r,k=>acf x λx=>O1 r λr=>k (x::r)
def agr (x:AV) (k:AV->α):α:=match x with
 |.agg l=>O1 l λl=>k (.agg l)
 |.tup l=>O1 l λl=>k (.tup l)
 |.clo f l=>O1 l λl=>k (.clo f l)
 |x=>acf x k
def frcC (c:BC) (k:BC->α):α:=match c with
 |.fz l=>Yn l λl=>k (.fz l)
 |.mx l=>O1 l λl=>k (.mx l)
 |.it s p=>rJ p λp=>k (.it s p)
 |.mp es=>k (.mp es)
def O0 {β:Type}:PT β->(PT β->α)->α
 |.leaf,k=>k .leaf
 |.node v l r,k=>(match v with
  |none=>λ(k:Option β->α)=>k af
  |some x=>λk=>k (aa x)) λv=>O0 l λl=>O0 r λr=>k (.node v l r)
def Rg {β:Type}:Nat->PT β->Nat->Option β->(PT β->α)->α
 |0,t,_,_,k=>k t
 |f+1,t,n,x,k=>match t with
  |.leaf=>(match n with
   |0=>k (.node x .leaf .leaf)
   |m+1=>if aA (m%2) 0 then rJ (m/2) λq=>Rg f .leaf q x λu=>k (.node af u .leaf) else rJ (m/2) λq=>Rg f .leaf q x λu=>k (.node af .leaf u))
  |.node v l r=>(match n with
   |0=>k (.node x l r)
   |m+1=>if aA (m%2) 0 then rJ (m/2) λq=>Rg f l q x λu=>k (.node v u r) else rJ (m/2) λq=>Rg f r q x λu=>k (.node v l u))
theorem MC {β:Type}:∀ (x:PT β) (k:PT β->α),O0 x k=k x
 |.leaf,_=>rfl
 |.node v l r,k=>by cases v<;>simp only[O0,MC l,MC r]
end force
structure IS where
 e:yq
 h:nA
 nx:Nat
 wr:Nat
structure acv where
 val:AV
 rd:Nat
 wr:Nat
 h:nA
 nx:Nat
def bits:List Nat->Nat->Nat
 |[],acc=>acc
 |x::r,acc=>bits r (acc|||(1<<<x))
def ad6 {α:Type} (h:nA) (nw:NW):List Nat->(nA->α)->α
 |[],k=>k h
 |i::r,k=>match iP nw i with
  |none=>Rg (i+1) h i af λh=>ad6 h nw r k
  |some ⟨ty,c⟩=>frcC c λc=>Rg (i+1) h i (aa ⟨ty,c⟩) λh=>ad6 h nw r k
def acj (call:U6) (f:FuncId) (args:List AV) (h:nA) (nx:Nat):Option acv:=
 rJ (T8 1000000 h (AV.idsL args 0) 0) λids=>O0 (PT.only ids 1 0 h) λhc=>
 if AV.allL (fR · nx) args&&nA.all (fR · nx) hc then
  match call f args hc nx with
  |some ⟨val,h',nx',wr⟩=>agr val λval=>rJ nx' λnx'=>rJ wr λwr=>O0 (PT.merge wr 1 0 h h') λhm=>aa ⟨val,ids,wr,hm,nx'⟩
  |none=>af
 else af
def opA (call:U6) (o:SI) (e:yq) (h:nA) (nx:Nat):Option acv:=
 match o with
 |.call f args=>match UC e args with|some l=>acj call f l h nx|none=>af
 |.callv x args=>match me e x,UC e args with|some (.clo f cap),aa l=>acj call f (l++cap) h nx|_,_=>af
 |.op o=>match eC o e h nx with
  |some ⟨val,rd,wr,nw,N⟩=>agr val λval=>rJ (bits rd 0) λrd=>rJ (bits wr 0) λI=>rJ (nx+N.length) λnx'=>ad6 h nw wr λh=>aa ⟨val,rd,I,h,nx'⟩
  |none=>af
def ag8 (e:yq):Option (Nat×Bool)->Option Bool
 |none=>aa ah
 |some (t,want)=>match e.get t with
  |some (.f (.raw (.bool b)))=>aa (b==want)
  |some (.f (.raw (.tuple _)))=>aa ai
  |_=>af
def adc {α:Type} (e:yq) (dst:Option Nat) (v:AV) (k:yq->α):α:=match dst with
 |none=>k e
 |some d=>Rg (d+1) e d (aa v) k
structure Zn where
 rd:Nat
 wr:Nat
def Rk (call:U6):List rz->IS->Option (IS×List Zn)
 |[],s=>aa (s,[])
 |o::r,⟨e,h,nx,wr⟩=>
  match ag8 e o.guard with
  |some ah=>(match opA call o.op e h nx with
   |some ⟨val,rd,w,h',nx'⟩=>adc e o.dst val λe'=>rJ (wr|||w) λwr'=>(match Rk call r ⟨e',h',nx',wr'⟩ with
    |some (s',fs)=>aa (s',⟨rd,w⟩::fs)
    |none=>af)
   |none=>af)
  |some ai=>adc e o.dst (raw undef) λe'=>(match Rk call r ⟨e',h,nx,wr⟩ with
   |some (s',fs)=>aa (s',⟨0,0⟩::fs)
   |none=>af)
  |none=>af
def VP:List Zn->Nat->Option Zn
 |[],_=>af
 |f::_,0=>aa f
 |_::r,n+1=>VP r n
def Cm (a b:Nat):Bool:=aA (a&&&b) 0
def Ea (fs:List Zn):List (Nat×Nat)->Bool
 |[]=>ah
 |(i,j)::r=>(match VP fs i,VP fs j with
  |some a,aa b=>Cm a.wr b.rd&&Cm a.wr b.wr&&Cm b.wr a.rd
  |_,_=>ai)&&Ea fs r
inductive Ex where
 |normal
 |exit (id:Nat)
 |ret
def acb (body:IS->Option (Ex×IS)) (e0:yq):Nat->IS->Option (Ex×IS)
 |0,_=>af
 |n+1,s=>match body s with
  |some (.normal,⟨e,h,nx,wr⟩)=>O0 (PT.mask e e0) λe=>acb body e0 n ⟨e,h,nx,wr⟩
  |r=>r
def run (call:U6) (inert:FuncId->Bool) (fuel:Nat):SC->IS->Option (Ex×IS)
 |.skip,s=>aa (.normal,s)
 |.reg ops prs,s=>match Rk call ops s with
  |some (s',fs)=>if Ea fs prs then aa (.normal,s') else af
  |none=>af
 |.seq a b,s=>match run call inert fuel a s with
  |some (.normal,s')=>run call inert fuel b s'
  |r=>r
 |.cond c a b,s=>match s.e.get c with
  |some (.f (.raw (.bool ah)))=>run call inert fuel a s
  |some (.f (.raw (.bool ai)))=>run call inert fuel b s
  |_=>af
 |.block id b,s=>match run call inert fuel b s with
  |some (.exit i,s')=>if aA i id then aa (.normal,s') else aa (.exit i,s')
  |r=>r
 |.loop b,s=>acb (run call inert fuel b) s.e fuel s
 |.exit id,s=>aa (.exit id,s)
 |.ret,s=>aa (.ret,s)
 |.defer f caps t,⟨e,h,nx,wr⟩=>match UC e caps with
  |some l=>if inert f then adc e (aa t) (.clo f l) λe'=>aa (.normal,⟨e',h,nx,wr⟩) else af
  |none=>af
 |.bad,_=>af
inductive RV where
 |tmp (t:Nat)
 |cell (a:Nat) (sz:Nat) (ag:Bool)
structure SF where
 code:SC
 res:List RV
 nt:Nat
def CU:List AV->AV
 |[x]=>x
 |l=>.tup l
def adz:Value->Value->Bool
 |.bool a,.bool b=>a==b
 |.int k a,.int k' b=>k==k'&&a==b
 |.string a,.string b=>qV a b
 |.slice af n c,.slice af I c'=>aA n I&&aA c c'
 |.pointer af,.pointer af=>ah
 |.tuple a,.tuple b=>a.isEmpty&&b.isEmpty
 |_,_=>ai
def eX (P:Program) (t:TypeId):Option Nat:=(P.info? t).map (·.size)
def DQ (P:Program) (t:TypeId):Option Nat:=(P.info? t).map (·.bytes)
def rQ (P:Program) (t:TypeId):Option (List Value):=((P.info? t).bind (·.zero)).map (·.cells.toList)
def CF (P:Program) (t:TypeId):Option Bool:=(P.underlying t).map λ|.struct _=>ah|.array _ _=>ah|_=>ai
def zA (P:Program) (t:TypeId):Option TypeId:=match P.underlying t with|some (.slice e)=>aa e|_=>af
def Ae (P:Program) (t:TypeId) (i:Nat):Option (Nat×Nat):=match P.underlying t with
 |some (.struct fs)=>(fs[i]?).bind λf=>(eX P f.type).map (f.offset,·)
 |some (.array _ el)=>(eX P el).map λs=>(i*s,s)
 |some (.slice el)=>(eX P el).map λs=>(i*s,s)
 |_=>af
def vR (P:Program) (t:TypeId):List (Nat×Operand)->Option (List (Nat×Nat×Operand))
 |[]=>aa []
 |(i,x)::r=>match Ae P t i,vR P t r with|some (o,s),aa l=>aa ((o,s,x)::l)|_,_=>af
def mc (z:List Value):Bool:=z.all λv=>v.oneCell'
def GJ:TypeDesc->Bool
 |.int _=>ah
 |.bool=>ah
 |.string=>ah
 |_=>ai
def qN (P:Program):Nat→List Field→Option (List TypeDesc)
 |_,[]=>aa []
 |k,f::r=>match P.underlying f.type,qN P (k+1) r with
  |some d,aa ds=>if f.name != "_" &&f.offset==k&&GJ d then aa (d::ds) else af
  |_,_=>af
def XI (P:Program) (t:TypeId):Option (List TypeDesc):=match P.underlying t with
 |some (.struct fs)=>if P.stoodInHeld t then af else qN P 0 fs.toList
 |_=>af
def Qb (P:Program) (c:Call):Option WD:=
 match c.callee with
 |.builtin .len=>(match c.args.toList,c.argTypes.toList with
  |[x],[t]=>(match P.underlying t with
   |some (.slice _)=>aa (.len x)
   |some .string=>aa (.lens x)
   |some (.map _ _)=>aa (.lenm x)
   |_=>af)
  |_,_=>af)
 |.builtin .max=>(match c.args.toList with
  |[x,y]=>aa (.max x y)
  |_=>af)
 |.builtin .min=>(match c.args.toList with
  |[x,y]=>aa (.min x y)
  |_=>af)
 |.builtin .copy=>(match c.args.toList,c.argTypes.toList with
  |[d,x],[t,u]=>(match zA P t,zA P u with
   |some el,aa _=>(eX P el).bind λsz=>if sz !=0 then aa (.copy sz d x) else af
   |_,_=>af)
  |_,_=>af)
 |.builtin .clear=>(match c.args.toList,c.argTypes.toList with
  |[x],[t]=>(zA P t).bind λel=>(rQ P el).bind λz=>(eX P el).bind λsz=>if mc z&&z.length==sz&&sz !=0 then aa (.clr sz z x) else af
  |_,_=>af)
 |.builtin .append=>(match c.args.toList,c.argTypes.toList with
  |[s,x],[t,u]=>(match zA P t,zA P u with
   |some el,aa _=>(eX P el).bind λsz=>(DQ P el).bind λb=>(rQ P el).bind λz=>if sz !=0&&z.length==sz then aa (.app el sz b s x) else af
   |_,_=>af)
  |_,_=>af)
 |_=>af
def c6 (P:Program):Op->Option WD
 |.move x=>aa (.mv x)
 |.assign x=>aa (.mv x)
 |.pick c a b=>aa (.pick c a b)
 |.alloc t=>(rQ P t).bind λz=>if mc z then aa (.alloc t z) else af
 |.box t x=>aa (.box t x)
 |.build t ps=>match P.underlying t with
  |some (.struct fs)=>(rQ P t).bind λz=>if mc z&&(fs.toList.all λf=>(eX P f.type).isSome) then (vR P t ps.toList).map (.build z) else af
  |some (.array _ el)=>(rQ P t).bind λz=>if mc z&&(eX P el).isSome then (vR P t ps.toList).map (.build z) else af
  |_=>af
 |.buildSlice t n ps=>(zA P t).bind λel=>(rQ P el).bind λz=>(eX P el).bind λsz=>if mc z&&z.length==sz&&eo (n*sz) 65536&&sz !=0 then (vR P t ps.toList).map (.bsl el sz n z) else af
 |.load t x=>(eX P t).bind λsz=>(CF P t).map λag=>.load sz ag x
 |.store t x v=>(eX P t).map λsz=>.store sz x v
 |.nilCheck x=>aa (.nilc x)
 |.binOp op t x y _=>match P.underlying t with
  |some (.int _)|some .string=>aa (.bin op x y)
  |some .bool=>(match op with|.eql=>aa (.eqb ai x y)|.neq=>aa (.eqb ah x y)|_=>af)
  |some (.slice _)=>(match op,y with
   |.eql,.const (.slice af 0 0)=>aa (.isnil ai x)
   |.neq,.const (.slice af 0 0)=>aa (.isnil ah x)
   |_,_=>af)
  |some (.struct _)=>(XI P t).bind λds=>(match op with|.eql=>aa (.eqs ai ds x y)|.neq=>aa (.eqs ah ds x y)|_=>af)
  |_=>af
 |.unOp .not _ x=>aa (.not x)
 |.unOp .neg t x=>match P.underlying t with|some (.int k)=>aa (.bin .sub (.const (.int k 0)) x)|_=>af
 |.convert s d x=>match P.underlying s,P.underlying d with|some (.int _),aa (.int k)=>aa (.conv k x)|_,_=>af
 |.makeSlice t l c=>(zA P t).bind λel=>(rQ P el).bind λz=>(eX P el).bind λsz=>(DQ P el).bind λb=>if mc z&&z.length==sz&&sz !=0 then aa (.mksl el sz b z l c) else af
 |.slice t x lo hi mx=>(zA P t).bind λel=>(eX P el).map λsz=>.slc sz x lo hi mx
 |.fieldAddr t x k=>match P.underlying t with
  |some (.struct fs)=>(fs[k]?).bind λf=>(eX P f.type).bind λsz=>if sz !=0 then aa (.fad f.offset x) else af
  |_=>af
 |.field t x k=>match P.underlying t with
  |some (.struct fs)=>(fs[k]?).bind λf=>(eX P f.type).bind λsz=>(CF P f.type).map λag=>.fld f.offset sz ag x
  |_=>af
 |.indexAddr t x i=>match P.underlying t with
  |some (.slice el)=>(eX P el).map λsz=>.iad sz x i
  |some (.array n el)=>(eX P el).map λsz=>.iada n sz x i
  |_=>af
 |.index t x i=>match P.underlying t with
  |some (.array n el)=>(eX P el).bind λsz=>(CF P el).map λag=>.idx n sz ag x i
  |some .string=>aa (.sidx x i)
  |_=>af
 |.extract x i=>aa (.ext x i)
 |.makeFunc (.func f) first caps=>if first.isEmpty then aa (.mkf f caps.toList) else af
 |.makeMap t af=>match P.underlying t with|some (.map _ _)=>aa .mkm|_=>af
 |.lookup t x k ok=>match P.underlying t with
  |some (.map I el)=>(match P.underlying I,(P.info? el).bind (·.zero) with
   |some (.int _),aa z=>if z.oneCell' then aa (.lku ai ok z x k) else af
   |some .string,aa z=>if z.oneCell' then aa (.lku ah ok z x k) else af
   |_,_=>af)
  |_=>af
 |.mapUpdate t m k v=>match P.underlying t with
  |some (.map I _)=>(match P.underlying I with
   |some (.int _)=>aa (.mup ai m k v)
   |some .string=>aa (.mup ah m k v)
   |_=>af)
  |_=>af
 |.range t x=>match P.underlying t with|some .string=>aa (.rng x)|_=>af
 |.next x ah=>aa (.nxt x)
 |.call c=>Qb P c
 |_=>af
def M_:Op->Option SI
 |.call c=>(match c.callee with
  |.value (.func f)=>aa (.call f c.args.toList)
  |.value (.tmp t)=>aa (.callv (.tmp t) c.args.toList)
  |_=>af)
 |_=>af
def xc (P:Program) (op:Op):SI:=match M_ op with
 |some i=>i
 |none=>(match c6 P op with|some s=>.op s|none=>.op .bad)
def WD.still:WD->Bool
 |.mv _|.pick _ _ _|.build _ _|.nilc _|.bin _ _ _|.eqs _ _ _ _|.isnil _ _|.eqb _ _ _|.not _|.conv _ _|.fad _ _|.fld _ _ _ _|.iad _ _ _|.iada _ _ _ _|.idx _ _ _ _ _|.ext _ _|.max _ _|.min _ _|.sidx _ _|.mkf _ _|.bad=>ah
 |_=>ai
def SI.still:SI->Bool
 |.op s=>s.still
 |_=>ai
def qU (P:Program) (ops:Array Oper):List Oper->Option (List rz)
 |[]=>aa []
 |o::r=>match qU P ops r with
  |some l=>(match o.guard with
   |none=>aa (⟨o.dst,xc P o.op,af⟩::l)
   |some (j,want)=>(match (ops[j]?).bind (·.dst) with
    |some t=>aa (⟨o.dst,xc P o.op,aa (t,want)⟩::l)
    |none=>af))
  |none=>af
def KN (ops:Array Oper) (l:List rz):Option (List (Nat×Nat)):=
 let B:=I1 ops.toList []
 if (eT ops.size).all λj=>((ops[j]?).all λoj=>oj.after.toList.all λe=> !yw .any e||decide (e.on<j))&&
     (eT j).all λi=>aL (B.getD j 0) i||(match ops[i]?,ops[j]? with|some oi,aa oj=>oi.apart ops oj|_,_=>ai)
 then aa ((eT ops.size).flatMap λj=>(eT j).filterMap λi=>
  if aL (B.getD j 0) i||(match l[i]?,l[j]? with|some a,aa b=>a.op.still||b.op.still|_,_=>ai) then af else aa (i,j))
 else af
def Co (ops:Array Oper) (I:Bool):Option (FuncId×List Operand×Nat):=match ops.toList,I with
 |[p,q],ai=>(match p.op,p.guard,p.dst,q.op,q.guard,q.dst with
  |.makeFunc (.func f) first caps,af,aa t,.defer c,af,af=>(match c.callee,c.args.toList with
   |.value (.tmp t'),[]=>if aA t t'&&first.isEmpty then aa (f,caps.toList,t) else af
   |_,_=>af)
  |_,_,_,_,_,_=>af)
 |_,_=>af
def ci (P:Program) (nt:Nat):Code->SC
 |.skip=>.skip
 |.region _ ops I=>if ops.toList.all λo=>match o.dst with|some d=>decide (d<nt)|none=>ah then
   (match Co ops I with
   |some (f,caps,t)=>.defer f caps t
   |none=>(match qU P ops ops.toList with
    |some l=>(match KN ops l with|some prs=>.reg l prs|none=>.bad)
    |none=>.bad)) else .bad
 |.seq a b=>.seq (ci P nt a) (ci P nt b)
 |.cond (.tmp c) a b=>.cond c (ci P nt a) (ci P nt b)
 |.cond (.const (.bool ah)) a _=>ci P nt a
 |.cond (.const (.bool ai)) _ b=>ci P nt b
 |.block id b=>.block id (ci P nt b)
 |.loop b=>.loop (ci P nt b)
 |.exit id=>.exit id
 |.ret=>.ret
 |_=>.bad
def ug (P:Program):List ResultVar->Option (List RV)
 |[]=>aa []
 |.tmp t::r=>match ug P r with|some l=>aa (.tmp t::l)|none=>af
 |.cell a t::r=>match ug P r,eX P t,CF P t with|some l,aa sz,aa ag=>aa (.cell a sz ag::l)|_,_,_=>af
def yg (P:Program) (f:FuncId):Option SF:=
 match P.funcs[f]? with
 |some fn=>if fn.name== "runtime.NumGoroutine" then af else (match fn.body,ug P fn.results.toList with
  |some c,aa r=>aa ⟨ci P fn.ntmps c,r,fn.ntmps⟩
  |_,_=>af)
 |none=>af
inductive Xp where
 |mk (op n:Int) (name:List UInt8) (l:List Xp)
inductive Sx where
 |mk (op line:Int) (name arg:List UInt8) (index:List Xp) (expr:Xp) (body els:List Sx)
def Xp.op:Xp->Int|.mk a _ _ _=>a
def Xp.n:Xp->Int|.mk _ a _ _=>a
def Xp.name:Xp->List UInt8|.mk _ _ a _=>a
def Xp.l:Xp->List Xp|.mk _ _ _ a=>a
def Sx.op:Sx->Int|.mk a _ _ _ _ _ _ _=>a
def Sx.line:Sx->Int|.mk _ a _ _ _ _ _ _=>a
def Sx.name:Sx->List UInt8|.mk _ _ a _ _ _ _ _=>a
def Sx.arg:Sx->List UInt8|.mk _ _ _ a _ _ _ _=>a
def Sx.index:Sx->List Xp|.mk _ _ _ _ a _ _ _=>a
def Sx.expr:Sx->Xp|.mk _ _ _ _ _ a _ _=>a
def Sx.body:Sx->List Sx|.mk _ _ _ _ _ _ a _=>a
def Sx.els:Sx->List Sx|.mk _ _ _ _ _ _ _ a=>a
inductive Ty where
 |int (k:IntKind)
 |bool
 |str
 |sl (t:Ty)
 |st (t:Ty)
 |pr (a b:Ty)
 |un
 |ex
 |sm
 deriving DecidableEq
@[reducible] def Ty.den:Ty->Type
  |.int _=>Int
  |.bool=>Bool
  |.str=>List UInt8
  |.sl t=>List t.den
  |.st t=>t.den
  |.pr a b=>a.den×b.den
  |.un=>Unit
  |.ex=>Xp
  |.sm=>Sx
def Ty.size:Ty->Nat
 |.st t=>t.size
 |.pr a b=>a.size+b.size
 |.un=>0
 |.ex=>4
 |.sm=>11
 |_=>1
def Ty.zero:(t:Ty)->t.den
 |.int _=>(0:Int)
 |.bool=>ai
 |.str=>[]
 |.sl _=>[]
 |.st t=>t.zero
 |.pr a b=>(a.zero,b.zero)
 |.un=>()
 |.ex=>.mk 0 0 [] []
 |.sm=>.mk 0 0 [] [] [] (.mk 0 0 [] []) [] []
def Ty.one:Ty->Bool
 |.int _=>ah
 |.bool=>ah
 |.str=>ah
 |.sl _=>ah
 |_=>ai
def La:Ty:=.pr (.int .i64) (.pr (.int .i64) (.pr .str (.sl .ex)))
def KI:Ty:=.pr (.int .i64) (.pr (.int .i64) (.pr .str (.pr .str (.pr (.sl .ex) (.pr .ex (.pr (.sl .sm) (.sl .sm)))))))
def LQ (e:Xp):La.den:=(e.op,e.n,e.name,e.l)
def dP (x:La.den):Xp:=.mk x.1 x.2.1 x.2.2.1 x.2.2.2
def LP (e:Sx):KI.den:=(e.op,e.line,e.name,e.arg,e.index,e.expr,e.body,e.els)
def m_ (x:KI.den):Sx:=.mk x.1 x.2.1 x.2.2.1 x.2.2.2.1 x.2.2.2.2.1 x.2.2.2.2.2.1 x.2.2.2.2.2.2.1 x.2.2.2.2.2.2.2
mutual
def vj:Xp->List FV
 |.mk op n name l=>[.raw (.int .i64 op),.raw (.int .i64 n),.raw (.string ⟨name.toArray⟩),.sl (HZ l) l.length]
def HZ:List Xp->List FV
 |[]=>[]
 |x::r=>vj x++HZ r
end
mutual
def wT:Sx->List FV
 |.mk op line name arg index expr body els=>[.raw (.int .i64 op),.raw (.int .i64 line),.raw (.string ⟨name.toArray⟩),.raw (.string ⟨arg.toArray⟩),.sl (HZ index) index.length]++vj expr++[.sl (HY body) body.length,.sl (HY els) els.length]
def HY:List Sx->List FV
 |[]=>[]
 |x::r=>wT x++HY r
end
def bN:(T:Ty)->T.den->List FV
 |.int k,n=>[.raw (.int k n)]
 |.bool,b=>[.raw (.bool b)]
 |.str,s=>[.raw (.string ⟨s.toArray⟩)]
 |.sl t,xs=>[.sl (List.flatMap (bN t) xs) (ak xs)]
 |.st t,v=>bN t v
 |.pr a b,v=>bN a v.1++bN b v.2
 |.un,_=>[]
 |.ex,v=>vj v
 |.sm,v=>wT v
def gw:(T:Ty)->T.den->FV
 |.int k,n=>.raw (.int k n)
 |.bool,b=>.raw (.bool b)
 |.str,s=>.raw (.string ⟨s.toArray⟩)
 |.sl t,xs=>.sl (List.flatMap (bN t) xs) (ak xs)
 |.st t,v=>.agg (bN t v)
 |.pr a b,v=>.agg (bN a v.1++bN b v.2)
 |.un,_=>.agg []
 |.ex,v=>.agg (vj v)
 |.sm,v=>.agg (wT v)
def Nt:(T:Ty)->T.den->T.den->Bool
 |.int _,a,b=>decide ((a:Int)=b)
 |.bool,a,b=>(a:Bool)==b
 |.str,a,b=>decide ((a:List UInt8)=b)
 |.st t,a,b=>Nt t a b
 |.pr x y,a,b=>Nt x a.1 b.1&&Nt y a.2 b.2
 |_,_,_=>ah
def vz {S:Ty} (T:Ty) (v:S.den):Option T.den:=if h:S=T then aa (h▸v) else af
def fB (j:Int) (n:Nat):Bool:=cR 0 j&&fE j n
def aH {T:Ty} (xs:List T.den) (j:Int):T.den:=xs.getD j.toNat T.zero
def cJ {α:Type} (xs:List α) (j:Int) (x:α):List α:=xs.set j.toNat x
def Q4 {α:Type} (xs I:List α):List α:=I.take xs.length++xs.drop I.length
def jZ (a b:Int):Int:=if fE a b then b else a
def Fp (a b:Int):Int:=if fE b a then b else a
def yU (s:List UInt8) (j:Int):Int:=aN (s.getD j.toNat 0).toNat
def bcase {R:Type} (b:Bool) (t f:Option R):Option R:=match b with|true=>t|false=>f
def chk {R:Type} (b:Bool) (k:b=ah->Option R):Option R:=match b,k with|true,k=>k rfl|false,_=>af
open Classical in
def DR {R:Type} (a b:Option R):Option R:=if a=b then a else af
open Classical in
def same {α R:Type} (a b:α) (r:Option R):Option R:=if a=b then r else af
def obind {α R:Type} (o:Option α) (k:α->Option R):Option R:=match o with|some x=>k x|none=>af
def lt {α R:Type} (x:α) (k:α->Option R):Option R:=k x
def jn {α R:Type} (o:Option (R⊕α)) (k:α->Option R):Option R:=match o with|some (.inr x)=>k x|some (.inl r)=>aa r|none=>af
def iterN {σ R:Type} (step:σ->Option (σ⊕R)):Nat->σ->Option R
 |0,_=>af
 |n+1,x=>match step x with
  |some (.inl y)=>iterN step n y
  |some (.inr r)=>aa r
  |none=>af
open Classical in
def iter {σ R:Type} (step:σ->Option (σ⊕R)) (x:σ):Option R:=
 if h:∃ n,(iterN step n x).isSome=ah then iterN step (Classical.choose h) x else af
def fZ {σ R:Type} (step:σ->Option (σ⊕R)) (x:σ):Option R:=iterN step 18446744073709551616 x
abbrev yp:Type 1:=∀ σ R:Type,(σ->Option (σ⊕R))->σ->Option R
def kL {R:Type} (a b:Option R):Prop:=∀ y,a=aa y->b=aa y
theorem kL.rfl {R:Type} {a:Option R}:kL a a:=λ_ h=>h
theorem kL.bcase {R:Type} {b:Bool} {t f t' f':Option R} (h1:kL t t') (h2:kL f f'):kL (AI.bcase b t f) (AI.bcase b t' f'):=by cases b<;>assumption
theorem kL.chk {R:Type} {b:Bool} {k k':Option R} (h:kL k k'):kL (AI.chk b λ_=>k) (AI.chk b λ_=>k'):=by
 cases b with
 |true=>exact h
 |false=>exact λ_ h=>by cases h
theorem kL.obind {α R:Type} {o o':Option α} {k k':α->Option R} (h:kL o o') (hk:∀ x,kL (k x) (k' x)):kL (AI.obind o k) (AI.obind o' k'):=by
 intro y I;cases o with
 |none=>cases I
 |some x=>rw[h x (by exact Eq.refl _)];exact hk x y I
theorem kL.lt {α R:Type} {x:α} {k k':α->Option R} (h:∀ y,kL (k y) (k' y)):kL (AI.lt x k) (AI.lt x k'):=h x
theorem kL.jn {α R:Type} {o o':Option (R⊕α)} {k k':α->Option R} (h:kL o o') (hk:∀ x,kL (k x) (k' x)):kL (AI.jn o k) (AI.jn o' k'):=by
 intro y I;cases o with
 |none=>cases I
 |some x=>
  rw[h x (by exact Eq.refl _)];cases x with
  |inl r=>exact I
  |inr a=>exact hk a y I
theorem kL.iterN {σ R:Type} {f g:σ->Option (σ⊕R)} (h:∀ x,kL (f x) (g x)):∀ (n:Nat) (x:σ),kL (AI.iterN f n x) (AI.iterN g n x)
 |0,_=>λ_ h=>by cases h
 |n+1,x=>by
  intro y I;cases hf:f x with
  |none=>rw[AI.iterN,hf] at I;cases I
  |some s=>
   rw[AI.iterN,hf] at I;rw[AI.iterN,h x s hf];cases s with
   |inl z=>exact kL.iterN h n z y I
   |inr r=>exact I
theorem Hc {σ R:Type} {f:σ->Option (σ⊕R)}:∀ {n:Nat} {x:σ} {r:R},iterN f n x=aa r->iterN f (n+1) x=aa r
 |0,x,r,h=>by cases h
 |n+1,x,r,h=>by
  cases hf:f x with
  |none=>rw[iterN,hf] at h;cases h
  |some s=>
   cases s with
   |inl y=>rw[iterN,hf] at h;rw[iterN,hf];exact Hc h
   |inr q=>rw[iterN,hf] at h;rw[iterN,hf];exact h
theorem xG {σ R:Type} {f:σ->Option (σ⊕R)} {n m:Nat} {x:σ} {r:R} (h:iterN f n x=aa r) (hle:n<=m):iterN f m x=aa r:=by
 induction hle with
 |refl=>exact h
 |step _ I=>exact Hc I
theorem xE {σ R:Type} {f:σ->Option (σ⊕R)} {n:Nat} {x:σ} {r:R} (h:iterN f n x=aa r):iter f x=aa r:=by
 have J:∃ n,(iterN f n x).isSome=ah:=⟨n,by rw[h];exact Eq.refl _⟩
 unfold iter;rw[dif_pos J];have hc:=Classical.choose_spec J;obtain⟨M,I⟩:=iv.1 hc;rw[I];rcases Nat.le_total n (Classical.choose J) with hl|hl
 .rw[xG h hl] at I;exact I.symm
 .rw[xG I hl] at h;exact h
theorem kL.iter {σ R:Type} {f g:σ->Option (σ⊕R)} {x:σ} (h:∀ x,kL (f x) (g x)):kL (fZ f x) (AI.iter g x):=λy I=>xE (kL.iterN h _ x y I)
def orE {R:Type} (a b:Option R):Option R:=match a with|some y=>aa y|none=>b
def fuel:Nat:=Classical.choose (⟨100000,rfl⟩:∃ n:Nat,n=100000)
theorem jA:fuel=100000:=Classical.choose_spec (⟨100000,rfl⟩:∃ n:Nat,n=100000)
def Fh (a:Ty):Ty->Ty
 |.un=>a
 |.int k=>.pr a (.int k)
 |.bool=>.pr a .bool
 |.str=>.pr a .str
 |.sl t=>.pr a (.sl t)
 |.st t=>.pr a (.st t)
 |.pr x y=>.pr a (.pr x y)
 |.ex=>.pr a .ex
 |.sm=>.pr a .sm
def ZK:Ty->Ty->Ty
 |.un,b=>b
 |.int k,b=>Fh (.int k) b
 |.bool,b=>Fh .bool b
 |.str,b=>Fh .str b
 |.sl t,b=>Fh (.sl t) b
 |.st t,b=>Fh (.st t) b
 |.pr x y,b=>Fh (.pr x y) b
 |.ex,b=>Fh .ex b
 |.sm,b=>Fh .sm b
def Oc (a:Ty):(b:Ty)->a.den->b.den->(Fh a b).den
 |.un,x,_=>x
 |.int _,x,y=>(x,y)
 |.bool,x,y=>(x,y)
 |.str,x,y=>(x,y)
 |.sl _,x,y=>(x,y)
 |.st _,x,y=>(x,y)
 |.pr _ _,x,y=>(x,y)
 |.ex,x,y=>(x,y)
 |.sm,x,y=>(x,y)
def fsN (a:Ty):(b:Ty)->(Fh a b).den->a.den
 |.un,z=>z
 |.int _,z=>z.1
 |.bool,z=>z.1
 |.str,z=>z.1
 |.sl _,z=>z.1
 |.st _,z=>z.1
 |.pr _ _,z=>z.1
 |.ex,z=>z.1
 |.sm,z=>z.1
def snN (a:Ty):(b:Ty)->(Fh a b).den->b.den
 |.un,_=>()
 |.int _,z=>z.2
 |.bool,z=>z.2
 |.str,z=>z.2
 |.sl _,z=>z.2
 |.st _,z=>z.2
 |.pr _ _,z=>z.2
 |.ex,z=>z.2
 |.sm,z=>z.2
def Rw:(a b:Ty)->a.den->b.den->(ZK a b).den
 |.un,_,_,y=>y
 |.int k,b,x,y=>Oc (.int k) b x y
 |.bool,b,x,y=>Oc .bool b x y
 |.str,b,x,y=>Oc .str b x y
 |.sl t,b,x,y=>Oc (.sl t) b x y
 |.st t,b,x,y=>Oc (.st t) b x y
 |.pr u v,b,x,y=>Oc (.pr u v) b x y
 |.ex,b,x,y=>Oc .ex b x y
 |.sm,b,x,y=>Oc .sm b x y
def MB:(a b:Ty)->(ZK a b).den->a.den
 |.un,_,_=>()
 |.int k,b,z=>fsN (.int k) b z
 |.bool,b,z=>fsN .bool b z
 |.str,b,z=>fsN .str b z
 |.sl t,b,z=>fsN (.sl t) b z
 |.st t,b,z=>fsN (.st t) b z
 |.pr u v,b,z=>fsN (.pr u v) b z
 |.ex,b,z=>fsN .ex b z
 |.sm,b,z=>fsN .sm b z
def Jz:(a b:Ty)->(ZK a b).den->b.den
 |.un,_,z=>z
 |.int k,b,z=>snN (.int k) b z
 |.bool,b,z=>snN .bool b z
 |.str,b,z=>snN .str b z
 |.sl t,b,z=>snN (.sl t) b z
 |.st t,b,z=>snN (.st t) b z
 |.pr u v,b,z=>snN (.pr u v) b z
 |.ex,b,z=>snN .ex b z
 |.sm,b,z=>snN .sm b z
theorem sj (a b:Ty) (x:a.den) (y:b.den):MB a b (Rw a b x y)=x:=by cases a<;>cases b<;>rfl
theorem tU (a b:Ty) (x:a.den) (y:b.den):Jz a b (Rw a b x y)=y:=by cases a<;>cases b<;>rfl
inductive TV where
 |f (T:Ty) (v:T.den)
 |fel (T:Ty) (xs:List T.den) (j:Int) (h:fB j xs.length=ah) (off:Nat)
 |pel (id sz:Nat) (j:Int) (off:Nat)
 |ptr (id off:Nat)
 |row (id:Nat)
 |csl (id sz n:Nat)
 |emp
 |nil
 |mp (id:Nat)
 |agg (l:List TV)
 |tup (l:List TV)
 |clo (g:FuncId) (l:List TV)
 |undef
 |np
 |anyb
 |rtl (id:Nat) (j:Int)
inductive h_ where
 |rows (ty:TypeId) (p:Bool) (T:Ty) (xs:List T.den)
 |cells (ty:TypeId) (l:List TV)
 |dead (p:Bool) (sz n:Nat)
 |mp (K V:Ty) (es:List (K.den×V.den))
abbrev iy:=PT TV
abbrev bd:=PT h_
def cst:Value->Option TV
 |.int k n=>aa (.f (.int k) n)
 |.bool b=>aa (.f .bool b)
 |.string s=>aa (.f .str s.data.toList)
 |.slice af 0 0=>aa .nil
 |.pointer af=>aa .np
 |_=>af
def IB:List Value->Option (List TV)
 |[]=>aa []
 |v::r=>match cst v,IB r with|some x,aa l=>aa (x::l)|_,_=>af
def ads:Value->Option TV
 |.agg vs=>if IX vs.toList then (match IB vs.toList with|some l=>aa (.agg l)|none=>af) else af
 |v=>cst v
def cellsOf:Nat->(T:Ty)->T.den->Option (List TV)
 |0,_,_=>af
 |n+1,.st t,v=>cellsOf n t v
 |n+1,.pr a b,v=>match cellsOf n a v.1,cellsOf n b v.2 with|some x,aa y=>aa (x++y)|_,_=>af
 |_+1,.un,_=>aa []
 |n+1,.ex,v=>cellsOf n La (LQ v)
 |n+1,.sm,v=>cellsOf n KI (LP v)
 |_+1,.int k,v=>aa [.f (.int k) v]
 |_+1,.bool,v=>aa [.f .bool v]
 |_+1,.str,v=>aa [.f .str v]
 |_+1,.sl t,v=>aa [.f (.sl t) v]
def TV.isC:TV->Bool
 |.f T _=>T.one
 |.fel _ _ _ _ _=>ah
 |.pel _ _ _ _=>ah
 |.ptr _ _=>ah
 |.row _=>ah
 |.csl _ _ _=>ah
 |.emp=>ah
 |.nil=>ah
 |.np=>ah
 |.mp _=>ah
 |.clo _ _=>ah
 |_=>ai
def j6:List TV->Bool
 |[]=>ah
 |x::r=>x.isC&&j6 r
def TV.cs (v:TV):Option (List TV):=match v with
 |.agg l=>if j6 l then aa l else af
 |.f T x=>cellsOf 40 T x
 |x=>if x.isC then aa [x] else af
def ko (i:Nat):Nat:=1<<<i
def ip (h:bd) (T:Ty):TV->Option (T.den×Nat)
 |.f _ v=>match vz T v with|some x=>aa (x,0)|none=>af
 |.emp=>(match T with|.sl _=>aa ([],0)|_=>af)
 |.nil=>(match T with|.sl _=>aa ([],0)|_=>af)
 |.row id=>match h.get id with
  |some (.rows _ _ S xs)=>(match vz (S:=.sl S) T xs with|some x=>aa (x,ko id)|none=>af)
  |_=>af
 |_=>af
def eL (h:bd):Nat->(T:Ty)->List TV->Option (T.den×Nat×List TV)
 |0,_,_=>af
 |n+1,.st t,l=>eL h n t l
 |n+1,.pr a b,l=>match eL h n a l with
  |some (x,m,r)=>(match eL h n b r with|some (y,m',I)=>aa ((x,y),m|||m',I)|none=>af)
  |none=>af
 |_+1,.un,l=>aa ((),0,l)
 |n+1,.ex,l=>match eL h n La l with|some (x,m,r)=>aa (dP x,m,r)|none=>af
 |n+1,.sm,l=>match eL h n KI l with|some (x,m,r)=>aa (m_ x,m,r)|none=>af
 |_+1,.int k,l=>match l with|c::r=>(match ip h (.int k) c with|some (x,m)=>aa (x,m,r)|none=>af)|[]=>af
 |_+1,.bool,l=>match l with|c::r=>(match ip h .bool c with|some (x,m)=>aa (x,m,r)|none=>af)|[]=>af
 |_+1,.str,l=>match l with|c::r=>(match ip h .str c with|some (x,m)=>aa (x,m,r)|none=>af)|[]=>af
 |_+1,.sl t,l=>match l with|c::r=>(match ip h (.sl t) c with|some (x,m)=>aa (x,m,r)|none=>af)|[]=>af
def CD (h:bd) (T:Ty) (v:TV):Option (T.den×Nat):=match v with
 |.agg l=>if T.one then af else (match eL h 40 T l with|some (x,m,[])=>aa (x,m)|_=>af)
 |x=>ip h T x
def nC:Nat->(T:Ty)->T.den->Nat->Nat->Bool->Option TV
 |0,_,_,_,_,_=>af
 |n+1,.st t,v,off,sz,ag=>if aA off 0&&aA sz t.size&&ag then aa (.f (.st t) v) else nC n t v off sz ag
 |n+1,.pr a b,v,off,sz,ag=>if fR off a.size then nC n a v.1 off sz ag else nC n b v.2 (off-a.size) sz ag
 |_+1,.un,_,_,_,_=>af
 |n+1,.ex,v,off,sz,ag=>if aA off 0&&aA sz 4&&ag then aa (.f .ex v) else nC n La (LQ v) off sz ag
 |n+1,.sm,v,off,sz,ag=>if aA off 0&&aA sz 11&&ag then aa (.f .sm v) else nC n KI (LP v) off sz ag
 |_+1,.int k,v,off,sz,ag=>if aA off 0&&aA sz 1&& !ag then aa (.f (.int k) v) else af
 |_+1,.bool,v,off,sz,ag=>if aA off 0&&aA sz 1&& !ag then aa (.f .bool v) else af
 |_+1,.str,v,off,sz,ag=>if aA off 0&&aA sz 1&& !ag then aa (.f .str v) else af
 |_+1,.sl t,v,off,sz,ag=>if aA off 0&&aA sz 1&& !ag then aa (.f (.sl t) v) else af
def gD (h:bd) (x:TV):Nat->(T:Ty)->T.den->Nat->Nat->Option (T.den×Nat)
 |0,_,_,_,_=>af
 |n+1,.st t,v,off,sz=>match (if aA off 0&&aA sz t.size then CD h (.st t) x else af) with
  |some y=>aa y
  |none=>gD h x n t v off sz
 |n+1,.pr a b,v,off,sz=>if fR off a.size then (match gD h x n a v.1 off sz with|some (y,m)=>aa ((y,v.2),m)|none=>af) else (match gD h x n b v.2 (off-a.size) sz with|some (y,m)=>aa ((v.1,y),m)|none=>af)
 |_+1,.un,_,_,_=>af
 |n+1,.ex,v,off,sz=>match (if aA off 0&&aA sz 4 then CD h .ex x else af) with
  |some y=>aa y
  |none=>(match gD h x n La (LQ v) off sz with|some (y,m)=>aa (dP y,m)|none=>af)
 |n+1,.sm,v,off,sz=>match (if aA off 0&&aA sz 11 then CD h .sm x else af) with
  |some y=>aa y
  |none=>(match gD h x n KI (LP v) off sz with|some (y,m)=>aa (m_ y,m)|none=>af)
 |_+1,.int k,_,off,sz=>if aA off 0&&aA sz 1 then ip h (.int k) x else af
 |_+1,.bool,_,off,sz=>if aA off 0&&aA sz 1 then ip h .bool x else af
 |_+1,.str,_,off,sz=>if aA off 0&&aA sz 1 then ip h .str x else af
 |_+1,.sl t,_,off,sz=>if aA off 0&&aA sz 1 then ip h (.sl t) x else af
def xt (h:bd) (T:Ty):Nat->List TV->Option (List T.den×Nat)
 |0,[]=>aa ([],0)
 |0,_::_=>af
 |n+1,l=>match eL h 40 T l with
  |some (x,m,r)=>(match xt h T n r with|some (xs,m')=>aa (x::xs,m|||m')|none=>af)
  |none=>af
def rP:Ty->List Value
 |.int k=>[.int k 0]
 |.bool=>[.bool ai]
 |.str=>[.string ⟨#[]⟩]
 |.sl _=>[.slice af 0 0]
 |.st t=>rP t
 |.pr a b=>rP a++rP b
 |.un=>[]
 |.ex=>[.int .i64 0,.int .i64 0,.string ⟨#[]⟩,.slice af 0 0]
 |.sm=>[.int .i64 0,.int .i64 0,.string ⟨#[]⟩,.string ⟨#[]⟩,.slice af 0 0,.int .i64 0,.int .i64 0,.string ⟨#[]⟩,.slice af 0 0,.slice af 0 0,.slice af 0 0]
def Qk:List Value->List Value->Bool
 |[],[]=>ah
 |x::xs,y::I=>adz x y&&Qk xs I
 |_,_=>ai
def Ty.flat:Ty->Bool
 |.int _=>ah
 |.bool=>ah
 |.str=>ah
 |.st t=>t.flat
 |.pr a b=>a.flat&&b.flat
 |.un=>ah
 |_=>ai
def qc:List TypeDesc->Option Ty
 |[]=>aa .un
 |.int k::r=>match qc r with|some t=>aa (.pr (.int k) t)|none=>af
 |.bool::r=>match qc r with|some t=>aa (.pr .bool t)|none=>af
 |.string::r=>match qc r with|some t=>aa (.pr .str t)|none=>af
 |_=>af
inductive PV where
 |d (T:Ty)
 |ptr (id off:Nat)
 |row (id:Nat)
 |csl (id sz n:Nat)
 |mp (id:Nat)
 |nil
 |emp
 |clo (q:FuncId) (id off:Nat)
 |agg (l:List PV)
inductive PB where
 |rows (ty:TypeId) (p:Bool) (T:Ty)
 |rowsP (ty:TypeId) (T:Ty)
 |cells (ty:TypeId) (l:List PV)
 |mp (K V:Ty)
 |gone
mutual
def PV.ty:PV->Ty
 |.d T=>T
 |.agg l=>PV.tyL l
 |.ptr _ _=>.un
 |.row _=>.un
 |.csl _ _ _=>.un
 |.clo _ _ _=>.un
 |.mp _=>.un
 |.nil=>.un
 |.emp=>.un
def PV.tyL:List PV->Ty
 |[]=>.un
 |p::r=>ZK p.ty (PV.tyL r)
end
def PB.ty:PB->Ty
 |.rows _ _ T=>.sl T
 |.rowsP _ T=>.pr .bool (.sl T)
 |.cells _ l=>PV.tyL l
 |.mp K V=>.sl (.pr K V)
 |.gone=>.un
def PB.tyL:List PB->Ty
 |[]=>.un
 |p::r=>ZK p.ty (PB.tyL r)
structure Tm where
 vs:List PV
 bs:List PB
def Tm.ty (t:Tm):Ty:=ZK (PV.tyL t.vs) (PB.tyL t.bs)
mutual
def oP (g:Nat->Nat) (h:bd):(p:PV)->List TV->Option (p.ty.den×Nat×List TV)
 |.d T,l=>eL h 40 T l
 |.ptr i o,l=>match l with|.ptr i' o'::r=>if aA (g i) i'&&aA o o' then aa ((),0,r) else af|_=>af
 |.row i,l=>match l with|.row i'::r=>if aA (g i) i' then aa ((),0,r) else af|_=>af
 |.csl i s n,l=>match l with|.csl i' s' n'::r=>if aA (g i) i'&&aA s s'&&aA n n' then aa ((),0,r) else af|_=>af
 |.clo q i o,l=>match l with|.clo q' [.ptr i' o']::r=>if aA q q'&&aA (g i) i'&&aA o o' then aa ((),0,r) else af|_=>af
 |.mp i,l=>match l with|.mp i'::r=>if aA (g i) i' then aa ((),0,r) else af|_=>af
 |.nil,l=>match l with|.nil::r=>aa ((),0,r)|_=>af
 |.emp,l=>match l with|.nil::r=>aa ((),0,r)|.emp::r=>aa ((),0,r)|_=>af
 |.agg ps,l=>xN g h ps l
def xN (g:Nat->Nat) (h:bd):(ps:List PV)->List TV->Option ((PV.tyL ps).den×Nat×List TV)
 |[],l=>aa ((),0,l)
 |p::r,l=>match oP g h p l with
  |some (x,m,l')=>(match xN g h r l' with|some (y,m',l'')=>aa (Rw p.ty (PV.tyL r) x y,m|||m',l'')|none=>af)
  |none=>af
end
def wh (g:Nat->Nat) (h:bd):(p:PV)->TV->Option (p.ty.den×Nat)
 |.d T,v=>CD h T v
 |.agg ps,v=>if v.isC then af else (match v.cs with
  |some l=>(match xN g h ps l with|some (x,m,[])=>aa (x,m)|_=>af)
  |none=>af)
 |.ptr i o,v=>match oP g h (.ptr i o) [v] with|some (x,m,_)=>aa (x,m)|none=>af
 |.row i,v=>match oP g h (.row i) [v] with|some (x,m,_)=>aa (x,m)|none=>af
 |.csl i s n,v=>match oP g h (.csl i s n) [v] with|some (x,m,_)=>aa (x,m)|none=>af
 |.clo q i o,v=>match oP g h (.clo q i o) [v] with|some (x,m,_)=>aa (x,m)|none=>af
 |.mp i,v=>match oP g h (.mp i) [v] with|some (x,m,_)=>aa (x,m)|none=>af
 |.nil,v=>match oP g h .nil [v] with|some (x,m,_)=>aa (x,m)|none=>af
 |.emp,v=>match oP g h .emp [v] with|some (x,m,_)=>aa (x,m)|none=>af
def wP (g:Nat->Nat) (h:bd):(ps:List PV)->List TV->Option ((PV.tyL ps).den×Nat)
 |[],[]=>aa ((),0)
 |p::r,v::vs=>match wh g h p v with
  |some (x,m)=>(match wP g h r vs with|some (y,m')=>aa (Rw p.ty (PV.tyL r) x y,m|||m')|none=>af)
  |none=>af
 |[],_::_=>af
 |_::_,[]=>af
def Du (g:Nat->Nat) (h:bd) (i:Nat):(b:PB)->Option (b.ty.den×Nat)
 |.rows ty p T=>match h.get (g i) with
  |some (.rows ty' I S xs)=>if ty==ty'&&p==I then (match vz (S:=.sl S) (.sl T) xs with|some x=>aa (x,0)|none=>af) else af
  |_=>af
 |.rowsP ty T=>match h.get (g i) with
  |some (.rows ty' I S xs)=>if ty==ty' then (match vz (S:=.sl S) (.sl T) xs with|some x=>aa ((I,x),0)|none=>af) else af
  |_=>af
 |.cells ty ps=>match h.get (g i) with
  |some (.cells ty' l)=>if ty==ty' then (match xN g h ps l with|some (x,m,[])=>aa (x,m)|_=>af) else af
  |_=>af
 |.mp K V=>match h.get (g i) with
  |some (.mp K' V' es)=>(match vz (S:=.sl (.pr K' V')) (.sl (.pr K V)) es with|some x=>aa (x,0)|none=>af)
  |_=>af
 |.gone=>aa ((),0)
def zw (g:Nat->Nat) (h:bd):Nat->(bs:List PB)->Option ((PB.tyL bs).den×Nat)
 |_,[]=>aa ((),0)
 |i,b::r=>match Du g h i b with
  |some (x,m)=>(match zw g h (i+1) r with|some (y,m')=>aa (Rw b.ty (PB.tyL r) x y,m|||m')|none=>af)
  |none=>af
mutual
def pd (g:Nat->Nat):(p:PV)->p.ty.den->Option (List TV)
 |.d T,x=>cellsOf 40 T x
 |.ptr i o,_=>aa [.ptr (g i) o]
 |.row i,_=>aa [.row (g i)]
 |.csl i s n,_=>aa [.csl (g i) s n]
 |.mp i,_=>aa [.mp (g i)]
 |.clo q i o,_=>aa [.clo q [.ptr (g i) o]]
 |.nil,_=>aa [.nil]
 |.emp,_=>aa [.emp]
 |.agg ps,x=>qa g ps x
def qa (g:Nat->Nat):(ps:List PV)->(PV.tyL ps).den->Option (List TV)
 |[],_=>aa []
 |p::r,x=>match pd g p (MB p.ty (PV.tyL r) x) with
  |some a=>(match qa g r (Jz p.ty (PV.tyL r) x) with|some b=>aa (a++b)|none=>af)
  |none=>af
end
def r7 (g:Nat->Nat):(p:PV)->p.ty.den->Option TV
 |.d T,x=>aa (.f T x)
 |.ptr i o,_=>aa (.ptr (g i) o)
 |.row i,_=>aa (.row (g i))
 |.csl i s n,_=>aa (.csl (g i) s n)
 |.mp i,_=>aa (.mp (g i))
 |.clo q i o,_=>aa (.clo q [.ptr (g i) o])
 |.nil,_=>aa .nil
 |.emp,_=>aa .emp
 |.agg ps,x=>match qa g ps x with|some l=>aa (.agg l)|none=>af
def pj (g:Nat->Nat):(ps:List PV)->(PV.tyL ps).den->Option (List TV)
 |[],_=>aa []
 |p::r,x=>match r7 g p (MB p.ty (PV.tyL r) x) with
  |some a=>(match pj g r (Jz p.ty (PV.tyL r) x) with|some b=>aa (a::b)|none=>af)
  |none=>af
def Bu (g:Nat->Nat):(b:PB)->b.ty.den->Option (Option h_)
 |.rows ty p T,x=>aa (aa (.rows ty p T x))
 |.rowsP ty T,x=>aa (aa (.rows ty x.1 T x.2))
 |.cells ty ps,x=>match qa g ps x with|some l=>aa (aa (.cells ty l))|none=>af
 |.mp K V,x=>aa (aa (.mp K V x))
 |.gone,_=>aa af
def tZ:h_->h_
 |.rows _ p T xs=>.dead p T.size xs.length
 |.cells _ _=>.dead ah 0 0
 |.mp _ _ _=>.dead ah 0 0
 |.dead p sz n=>.dead p sz n
def kill (h:bd) (i:Nat):bd:=match h.get i with
 |some b=>h.set i (aa (tZ b))
 |none=>h
def nS (g:Nat->Nat):(bs:List PB)->(PB.tyL bs).den->Option (List (Option h_))
 |[],_=>aa []
 |b::r,x=>match Bu g b (MB b.ty (PB.tyL r) x) with
  |some c=>(match nS g r (Jz b.ty (PB.tyL r) x) with|some l=>aa (c::l)|none=>af)
  |none=>af
def y_ (g:Nat->Nat):Nat->List (Option h_)->bd->bd
 |_,[],h=>h
 |i,aa c::r,h=>y_ g (i+1) r (h.set (g i) (aa c))
 |i,af::r,h=>y_ g (i+1) r (kill h (g i))
def KM (g:Nat->Nat) (bs:List PB) (x:(PB.tyL bs).den) (h:bd):Option bd:=match nS g bs x with
 |some l=>aa (y_ g 0 l h)
 |none=>af
def uW {K V:Ty} (k:K.den):List (K.den×V.den)->Option V.den
 |[]=>af
 |(k',v)::r=>if Nt K k k' then aa v else uW k r
def C9 {K V:Ty} (k:K.den) (v:V.den):List (K.den×V.den)->List (K.den×V.den)
 |[]=>[(k,v)]
 |(k',I)::r=>if Nt K k k' then (k,v)::r else (k',I)::C9 k v r
def adh {K V:Ty} (k:K.den) (es:List (K.den×V.den)):Bool:=match uW k es with|some _=>ah|none=>ai
def uV {K V:Ty} (k:K.den) (es:List (K.den×V.den)) (z:V.den):V.den:=match uW k es with|some v=>v|none=>z
def agd (T:Ty):Nat->Ty
 |0=>.un
 |1=>T
 |n+2=>.pr T (agd T (n+1))
def kwT:Ty:=.st (agd .str 22)
def kwV:kwT.den:=([118,97,114],[118,111,108,97,116,105,108,101],[109,117,116,101,120],[114,119,108,111,99,107],[99,111,110,100],[102,117,116,117,114,101],[116,104,114,101,97,100],[105,102],[101,108,115,101],[119,104,105,108,101],[108,111,99,107],[114,101,97,100],[119,114,105,116,101],[116,114,97,110,115,97,99,116,105,111,110],[97,116,111,109,105,99],[119,97,105,116],[110,111,116,105,102,121],[110,111,116,105,102,121,97,108,108],[115,112,97,119,110],[106,111,105,110],[115,101,116],[103,101,116])
@[simp] theorem dB {R:Type} (t f:Option R):bcase ah t f=t:=Eq.trans rfl rfl
@[simp] theorem dV {R:Type} (t f:Option R):bcase ai t f=f:=Eq.trans rfl rfl
@[simp] theorem chk_t {R:Type} (k:ah=ah->Option R):chk ah k=k rfl:=Eq.trans rfl rfl
theorem cB {R:Type} {b:Bool} (h:b=ah) (k:Option R):chk b (λ_=>k)=k:=by cases b with|true=>rfl|false=>cases h
@[simp] theorem dv {α R:Type} (x:α) (k:α->Option R):obind (aa x) k=k x:=Eq.trans rfl rfl
@[simp] theorem lV {α R:Type} (x:α) (k:α->Option R):jn (aa (.inr x)) k=k x:=Eq.trans rfl rfl
@[simp] theorem jn_l {α R:Type} (r:R) (k:α->Option R):jn (aa (.inl r)) k=aa r:=Eq.trans rfl rfl
theorem Z5 {σ R:Type} {f:σ->Option (σ⊕R)} {n:Nat} {x:σ} {r:R} (h:iterN f n x=aa r) (hn:n<=18446744073709551616):fZ f x=aa r:=xG h hn
theorem xF {σ R:Type} {f:σ->Option (σ⊕R)} (n:Nat) (hn:n<18446744073709551616) (st:Nat->σ) {r:R} (h0:∀ i,i<n->f (st i)=aa (.inl (st (i+1)))) (h1:f (st n)=aa (.inr r)):fZ f (st 0)=aa r:=by
 have key:∀ k i,i+k=n->iterN f (k+1) (st i)=aa r:=by
  intro k;induction k with
  |zero=>intro i hi;have:i=n:=by omega
         subst this;simp only[iterN,h1]
  |succ k I=>intro i hi;rw[iterN,h0 i (by omega)];exact I (i+1) (by omega)
 exact Z5 (key n 0 (by omega)) (by omega)
@[simp] theorem X9 {a b:Int}:cR a b=ah↔a<=b:=by unfold cR;simp
@[simp] theorem X8 {a b:Int}:fE a b=ah↔a<b:=by unfold fE;simp
theorem qb {a b:Int} (h:a<=b):cR a b=ah:=X9.2 h
theorem vb {a b:Int} (h:a<b):fE a b=ah:=X8.2 h
theorem X_ {a b:Int} (h:b<a):cR a b=ai:=by unfold cR;simp;omega
theorem xJ {a b:Int} (h:b<=a):fE a b=ai:=by unfold fE;simp;omega
theorem agl {j:Int} {n:Nat} (h0:0<=j) (h1:j<n):fB j n=ah:=by unfold fB;rw[qb h0,vb h1];rfl
theorem cY {j n:Nat} (h1:j<n):fB (j:Int) n=ah:=agl (by omega) (by omega)
theorem vN {n b:Nat} (h0:n<=1099511627776) (h1:n*b<=1099511627776):a_ n b=ah:=by
 unfold a_;rw[bz h0,bz h1];rfl
theorem aby {n:Int} (h0: -9223372036854775808<=n) (h1:n<=9223372036854775807):bg .i64 n=n:=by
 rw[FX];unfold Kz;simp only[];rw[qb h0,qb h1];rfl
theorem qf {i n:Nat} (h:i<n) (hn:n<=1099511627776):bg .i64 ((i:Int)+1)=((i+1:Nat):Int):=by
 rw[aby (by omega) (by omega)];omega
theorem xH (a b:Nat):jZ (aN a) (aN b)=((max a b:Nat):Int):=by
 unfold jZ;by_cases h:a<b
 .rw[vb (by simp;omega),aJ rfl];simp;omega
 .rw[xJ (by simp;omega)];simp;omega
theorem s_ {T:Ty} (xs:List T.den) (i:Nat):aH xs (i:Int)=xs.getD i T.zero:=by unfold aH;simp
theorem qC (xs:List (List Int)) (i:Nat):aH (T:=.sl (.int .i64)) xs (i:Int)=xs.getD i []:=s_ (T:=.sl (.int .i64)) xs i
theorem adm (xs:List Int) (i:Nat):aH (T:=.int .i64) xs (i:Int)=xs.getD i 0:=s_ (T:=.int .i64) xs i
theorem fO {α:Type} (xs:List α) (i:Nat) (x:α):cJ xs (i:Int) x=xs.set i x:=by unfold cJ;simp
structure cq where
 pre:Tm
 post:Tm
 m:pre.ty.den->Option post.ty.den
mutual
def acl:PV->List TV->PT Nat->PT Nat×List TV
 |.d T,l,σ=>(σ,l.drop T.size)
 |.ptr i _,l,σ=>match l with|.ptr a _::r=>(σ.set i (aa a),r)|l=>(σ,l.drop 1)
 |.row i,l,σ=>match l with|.row a::r=>(σ.set i (aa a),r)|l=>(σ,l.drop 1)
 |.csl i _ _,l,σ=>match l with|.csl a _ _::r=>(σ.set i (aa a),r)|l=>(σ,l.drop 1)
 |.mp i,l,σ=>match l with|.mp a::r=>(σ.set i (aa a),r)|l=>(σ,l.drop 1)
 |.clo _ i _,l,σ=>match l with|.clo _ [.ptr a _]::r=>(σ.set i (aa a),r)|l=>(σ,l.drop 1)
 |.nil,l,σ=>(σ,l.drop 1)
 |.emp,l,σ=>(σ,l.drop 1)
 |.agg ps,l,σ=>Tj ps l σ
def Tj:List PV->List TV->PT Nat->PT Nat×List TV
 |[],l,σ=>(σ,l)
 |p::r,l,σ=>match acl p l σ with|(σ',l')=>Tj r l' σ'
end
def ah0 (p:PV) (v:TV) (σ:PT Nat):PT Nat:=match p with
 |.d _=>σ
 |p=>match v.cs with|some l=>(acl p l σ).1|none=>σ
def YQ:List PV->List TV->PT Nat->PT Nat
 |p::r,v::vs,σ=>YQ r vs (ah0 p v σ)
 |_,_,σ=>σ
def Tk (h:bd):Nat->List PB->PT Nat->PT Nat
 |_,[],σ=>σ
 |i,b::r,σ=>Tk h (i+1) r (match b with
  |.cells _ ps=>(match σ.get i with
   |some a=>(match h.get a with|some (.cells _ l)=>(Tj ps l σ).1|_=>σ)
   |none=>σ)
  |_=>σ)
def gW (σ:PT Nat) (i:Nat):Nat:=match σ.get i with|some a=>a|none=>0
def Xx (σ:PT Nat):Nat->Nat->Nat->Option Nat
 |0,_,acc=>aa acc
 |n+1,i,acc=>match σ.get i with
  |some a=>if aL acc a then af else Xx σ n (i+1) (acc|||ko a)
  |none=>af
def idn:Nat->PT Nat
 |0=>.leaf
 |n+1=>(idn n).set n (aa n)
def Uz (σ:PT Nat):Nat->Bool
 |0=>ah
 |n+1=>(match σ.get n with|some a=>aA a n|none=>ai)&&Uz σ n
structure acx (t:Tm) where
 x:t.ty.den
 m:Nat
 σ:PT Nat
 sm:Nat
def C_ (np:Nat) (t:Tm) (vs:List TV) (h:bd):Option (acx t):=
 O0 (Tk h 0 t.bs (Tk h 0 t.bs (YQ t.vs vs (idn np)))) λσ=>
 match Xx σ t.bs.length 0 0 with
 |some sm=>(match wP (gW σ) h t.vs vs with
  |some (x,m)=>(match zw (gW σ) h 0 t.bs with
   |some (y,m')=>if Cm (m|||m') sm&&Uz σ np then aa ⟨Rw _ _ x y,m|||m',σ,sm⟩ else af
   |none=>af)
  |none=>af)
 |none=>af
def PT.updI {α:Type} (f:Nat->α->α):Nat->Nat->PT α->PT α
 |_,_,.leaf=>.leaf
 |a,b,.node v l r=>.node (match v with|some x=>aa (f b x)|none=>af) (PT.updI f (2*a) (a+b) l) (PT.updI f (2*a) (2*a+b) r)
def d_ (m:Nat) (h:bd):bd:=if aA m 0 then h else PT.updI (λi b=>if aL m i then tZ b else b) 1 0 h
def RD:Operand->Bool
 |.const (.agg _)=>ah
 |_=>ai
def fo (e:iy):Operand->Option TV
 |.tmp t=>e.get t
 |.const v=>ads v
 |.func g=>aa (.clo g [])
 |.global g=>match G g with|some _=>aa (.fel kwT [kwV] 0 (Eq.refl ah) 0)|none=>af
def Eb (e:iy):List Operand->Option (List TV)
 |[]=>aa []
 |x::xs=>match fo e x with|some y=>(match Eb e xs with|some I=>aa (y::I)|none=>af)|none=>af
def HO (cells:List TV) (e:iy):List (Nat×Nat×Operand)->Option (List TV)
 |[]=>aa cells
 |(off,sz,x)::r=>match fo e x with
  |some v=>(match v.cs with
   |some cs=>if cs.length==sz&&eo (off+sz) cells.length then HO (splice cells off cs) e r else af
   |none=>af)
  |none=>af
def Rd (l:List TV) (off sz:Nat):Bool->Option TV
 |false=>if aA sz 1 then l[off]? else af
 |true=>if eo (off+sz) l.length then aa (.agg ((l.drop off).take sz)) else af
def dZ (h:bd) (id:Nat):Option (Bool×Nat×Nat):=match h.get id with
 |some (.rows _ p T xs)=>aa (p,T.size,xs.length)
 |some (.dead p sz n)=>aa (p,sz,n)
 |_=>af
def lenOf (h:bd):TV->Option Nat
 |.f (.sl _) xs=>aa (ak xs)
 |.emp=>aa 0
 |.nil=>aa 0
 |.row id=>match dZ h id with|some (_,_,n)=>aa n|none=>af
 |.csl _ _ n=>aa n
 |_=>af
mutual
def JG (h:bd):TV->Bool
 |.row id=>(dZ h id).isSome
 |.rtl id _=>(dZ h id).isSome
 |.agg l=>kr h l
 |.tup l=>kr h l
 |.clo _ l=>kr h l
 |.f _ _=>ah
 |.fel _ _ _ _ _=>ah
 |.pel _ _ _ _=>ah
 |.ptr _ _=>ah
 |.csl _ _ _=>ah
 |.emp=>ah
 |.nil=>ah
 |.mp _=>ah
 |.undef=>ah
 |.np=>ah
 |.anyb=>ah
def kr (h:bd):List TV->Bool
 |[]=>ah
 |x::r=>JG h x&&kr h r
end
mutual
def JI (n:Nat):TV->Bool
 |.row id=>fR id n
 |.rtl id _=>fR id n
 |.pel id _ _ _=>fR id n
 |.ptr id _=>fR id n
 |.csl id _ _=>fR id n
 |.mp id=>fR id n
 |.agg l=>qy n l
 |.tup l=>qy n l
 |.clo _ l=>qy n l
 |.f _ _=>ah
 |.fel _ _ _ _ _=>ah
 |.emp=>ah
 |.nil=>ah
 |.undef=>ah
 |.np=>ah
 |.anyb=>ah
def qy (n:Nat):List TV->Bool
 |[]=>ah
 |x::r=>JI n x&&qy n r
end
def BI (t:Tm) (x:t.ty.den):Option (List TV×bd):=
 match pj (λi=>i) t.vs (MB _ _ x) with
 |some vs=>(match KM (λi=>i) t.bs (Jz _ _ x) PT.leaf with
  |some h=>if kr h vs&&qy t.bs.length vs&&PT.all (λ_ b=>match b with|.cells _ l=>kr h l&&qy t.bs.length l|_=>ah) 1 0 h then aa (vs,h) else af
  |none=>af)
 |none=>af
abbrev KO (R:Type):=TV->Nat->Nat->bd->Nat->Option R
def NX:List TV->TV
 |[x]=>x
 |l=>.tup l
def Al:List PB->Bool
 |[]=>ah
 |.gone::_=>ai
 |_::r=>Al r
def Gi:List PB->Bool
 |[]=>ah
 |.rows _ _ _::r=>Gi r
 |_::_=>ai
def sK (h h2:bd) (g:Nat->Nat):Nat->Bool
 |0=>ah
 |n+1=>(match dZ h (g n) with
  |some (p,s,k)=>(match dZ h2 (g n) with|some (I,s',k')=>(p==I)&&aA s s'&&aA k k'|none=>ai)
  |none=>ah)&&sK h h2 g n
def UQ {R:Type} (con:FuncId->Option cq) (f:FuncId) (l:List TV) (h:bd) (nx:Nat) (K:KO R):Option R:=
 match con f with
 |some c=>(match C_ 0 c.pre l h with
  |some ⟨x,m,σ,sm⟩=>(match BI c.pre x with
   |some _=>obind (c.m x) λy=>(match BI c.post y with
    |some _=>if eo c.pre.bs.length c.post.bs.length&&Al c.pre.bs then
      let np:=c.pre.bs.length
      let I:=c.post.bs.length-np
      let g:=λi=>if fR i np then gW σ i else nx+(i-np)
      (match pj g c.post.vs (MB _ _ y) with
      |some rs=>if !(aA m 0)&&aA c.post.bs.length 0&&(PV.tyL c.post.vs).flat then K (NX rs) m 0 h nx else
       (match KM g c.post.bs (Jz _ _ y) (d_ m h) with
       |some h2=>chk (sK h h2 g np) λ_=>K (NX rs) (sm|||m) (sm|||m|||(((1<<<I)-1)<<<nx)) h2 (nx+I)
       |none=>af)
      |none=>af) else if aA c.post.bs.length 0&&Gi c.pre.bs then
      let np:=c.pre.bs.length
      let g:=λi=>if fR i np then gW σ i else nx+(i-np)
      (match pj g c.post.vs (MB _ _ y) with
      |some rs=>(match KM g c.pre.bs (Jz _ _ x) (d_ m h) with
       |some h2=>K (NX rs) (sm|||m) m h2 nx
       |none=>af)
      |none=>af) else af
    |none=>af)
   |none=>af)
  |none=>af)
 |none=>af
def ady {R:Type} (op:BinOp) (x y:TV) (q:TV->Option R):Option R:=
 match x,y with
 |.f (.int k) a,.f (.int k') b=>if k==k' then
   (match op with
   |.add=>q (.f (.int k) (bg k (a+b)))
   |.sub=>q (.f (.int k) (bg k (a-b)))
   |.mul=>q (.f (.int k) (bg k (a*b)))
   |.rem=>chk (!decide ((b:Int)=0)) λ_=>q (.f (.int k) (yC a b))
   |.quo=>chk (!decide ((b:Int)=0)) λ_=>q (.f (.int k) (bg k (Int.tdiv a b)))
   |.eql=>q (.f .bool (decide ((a:Int)=b)))
   |.neq=>q (.f .bool (!decide ((a:Int)=b)))
   |.lss=>q (.f .bool (fE a b))
   |.leq=>q (.f .bool (cR a b))
   |.gtr=>q (.f .bool (fE b a))
   |.geq=>q (.f .bool (cR b a))
   |_=>af)
  else af
 |.f .str a,.f .str b=>match op with
   |.eql=>q (.f .bool (decide ((a:List UInt8)=b)))
   |.neq=>q (.f .bool (!decide ((a:List UInt8)=b)))
   |_=>af
 |_,_=>af
def Vm:Bool->Ty->Bool
 |false,.int _=>ah
 |true,.str=>ah
 |_,_=>ai
abbrev itK:Ty:=.st (.pr .str (.int .i64))
def isIt:Ty->Bool
 |.st (.pr .str (.int .i64))=>ah
 |_=>ai
def Ru (K:Ty):Bool:= !isIt K
def Ns:List ((List UInt8×Int)×Unit)->List UInt8
 |[]=>[]
 |e::_=>e.1.1
def Mf:List ((List UInt8×Int)×Unit)->Nat
 |[]=>0
 |e::_=>aS e.1.2
def itE:(K V:Ty)->List (K.den×V.den)->Option (List UInt8×Nat)
 |.st (.pr .str (.int .i64)),.un,es=>aa (Ns es,Mf es)
 |_,_,_=>af
def mpE:(K V:Ty)->List (K.den×V.den)->Bool
 |.un,.un,[]=>ah
 |_,_,_=>ai
def xl (T:Ty):List TV->Option (List T.den)
 |[]=>aa []
 |.f S v::r=>match vz (S:=S) T v with
  |some x=>(match xl T r with|some l=>aa (x::l)|none=>af)
  |none=>af
 |_::_=>af
def YU:List TV->Option ((T:Ty)×List T.den)
 |.f T v::r=>match xl T (.f T v::r) with|some l=>aa ⟨T,l⟩|none=>af
 |_=>af
def agn (n sz:Nat) (v:TV):Bool->Option ((T:Ty)×List T.den)
 |true=>af
 |false=>if aA sz 1&& !v.isC then (match v.cs with|some l=>if aA l.length n then YU l else af|none=>af) else af
def arrB (n sz off:Nat):Option h_->Option ((T:Ty)×List T.den)
 |some (.cells _ l)=>if aA sz 1&&aA off 0&&aA l.length n then YU l else af
 |_=>af
def acg:Ty->Nat
 |.pr .un t=>acg t+1
 |_=>0
def Cu:Option Ty->Option Nat
 |some (.pr .un t)=>aa (acg t)
 |_=>af
def aci {R:Type} (ty:TypeId) (sz bytes:Nat) (b y:TV) (h:bd) (nx:Nat) (K:KO R):Option R:=match y with
 |.csl id2 sz2 m=>(match h.get id2 with
  |some (.cells _ l2)=>if aA sz2 sz&&aA l2.length (m*sz)&& !(aA m 0) then (match b with
   |.csl id sz1 n=>(match h.get id with
    |some (.cells ty1 l)=>if aA sz1 sz&&ty1==ty&&aA l.length (n*sz)&& !(aA id id2) then
      chk (a_ (n+m) bytes) λ_=>K (.csl nx sz (n+m)) (ko id|||ko id2) (ko id|||ko nx) ((h.set id (aa (.dead ah 0 0))).set nx (aa (.cells ty (l++l2)))) (nx+1) else af
    |_=>af)
   |.nil=>chk (a_ m bytes) λ_=>K (.csl nx sz m) (ko id2) (0|||ko nx) ((d_ 0 h).set nx (aa (.cells ty l2))) (nx+1)
   |_=>af) else af
  |_=>af)
 |_=>af
def pkT (ok:Bool) (v b:TV):TV:=match ok with|true=>.tup [v,b]|false=>v
def dK {R:Type} (con:FuncId->Option cq) (bY:TypeId->Option Ty) (o:SI) (e:iy) (h:bd) (nx:Nat) (K:KO R):Option R:=
 match o with
 |.call f args=>match Eb e args with|some l=>UQ con f l h nx K|none=>af
 |.callv x args=>match fo e x,Eb e args with
  |some (.clo f cap),aa l=>UQ con f (l++cap) h nx K
  |_,_=>af
 |.op s=>match s with
  |.mksl ty sz bytes z l c=>match Cu (bY ty) with
   |some n=>(match IB z,fo e l,fo e c with
    |some J,aa (.f (.int _) a),aa (.f (.int _) b)=>chk (cR 0 a&&cR a b&&a_ (aS b) bytes&&decide ((a:Int)=aN n)) λ_=>K (.csl nx sz n) 0 (0|||ko nx) ((d_ 0 h).set nx (aa (.cells ty (aF n J).flatten))) (nx+1)
    |_,_,_=>af)
   |none=>match bY ty,fo e l,fo e c with
   |some T,aa (.f (.int _) a),aa (.f (.int _) b)=>if aA sz T.size&&Qk z (rP T) then
     chk (cR 0 a&&cR a b&&a_ (aS b) bytes) λ_=>K (.row nx) 0 (ko nx) (h.set nx (aa (.rows ty ai T (aF (aS a) T.zero)))) (nx+1) else af
   |_,_,_=>af
  |.bsl ty sz len z parts=>match Cu (bY ty) with
   |some _=>(match IB z with
    |some J=>(match HO ((aF len J).flatten) e parts with
     |some cs=>if aA len 0 then af else K (.csl nx sz len) 0 (0|||ko nx) ((d_ 0 h).set nx (aa (.cells ty cs))) (nx+1)
     |none=>af)
    |none=>af)
   |none=>match bY ty,IB z with
   |some T,aa J=>if aA sz T.size then (match HO ((aF len J).flatten) e parts with
    |some cs=>(match xt h T len cs with
     |some (xs,m)=>K (.row nx) m (m|||ko nx) ((d_ m h).set nx (aa (.rows ty (aA len 0) T xs))) (nx+1)
     |none=>af)
    |none=>af) else af
   |_,_=>af
  |.app ty sz bytes s x=>match Cu (bY ty) with
   |some _=>(match fo e s,fo e x with
    |some b,aa y=>aci ty sz bytes b y h nx K
    |_,_=>af)
   |none=>match bY ty,fo e s,fo e x with
   |some T,aa b,aa y=>if aA sz T.size then (match CD h (.sl T) y with
    |some (I,m)=>(match b with
     |.row id=>(match h.get id with
      |some (.rows ty' p S xs)=>(match vz (S:=.sl S) (.sl T) xs with
       |some xs=>if ty'==ty&& !(aL m id) then
         chk (a_ (ak xs+ak I) bytes) λ_=>K (.row nx) (ko id|||m) (ko id|||ko nx) ((h.set id (aa (.dead p sz (ak xs)))).set nx (aa (.rows ty p T (xs++I)))) (nx+1)
        else af
       |none=>af)
      |_=>af)
     |.emp=>chk (a_ (ak I) bytes) λ_=>K (.row nx) m (ko nx) (h.set nx (aa (.rows ty ah T I))) (nx+1)
     |.nil=>chk (a_ (ak I) bytes) λ_=>K (.row nx) m (ko nx) (h.set nx (aa (.rows ty ah T I))) (nx+1)
     |_=>af)
    |none=>af) else af
   |_,_,_=>af
  |.copy sz d x=>match fo e d,fo e x with
   |some (.row id),aa y=>(match h.get id with
    |some (.rows ty p T xs)=>if aA sz T.size then (match CD h (.sl T) y with
     |some (I,m)=>if !(aL m id)&& !p then
       K (.f (.int .i64) (aN (iC (ak I) (ak xs)))) (ko id|||m) (ko id) (h.set id (aa (.rows ty p T (Q4 xs I)))) nx else af
     |none=>af) else af
    |_=>af)
   |_,_=>af
  |.clr sz z x=>match fo e x with
   |some (.rtl id j)=>(match h.get id with
    |some (.rows ty p T xs)=>if (aA sz T.size&&Qk z (rP T))&&mc z then
      chk (cR 0 j&&fE j (ak xs)) λ_=>K (.tup []) (ko id) (0|||ko id) ((d_ 0 h).set id (aa (.rows ty p T (dE (aS j) xs++aF (ak xs-aS j) T.zero)))) nx
     else af
    |_=>af)
   |_=>af
  |.mv x=>match fo e x with|some v=>K v 0 0 h nx|none=>af
  |.pick c a b=>match fo e c with
   |some (.f .bool t)=>bcase t (match fo e a with|some v=>K v 0 0 h nx|none=>af) (match fo e b with|some v=>K v 0 0 h nx|none=>af)
   |_=>af
  |.alloc ty z=>match IB z with
   |some l=>K (.ptr nx 0) 0 (ko nx) (h.set nx (aa (.cells ty l))) (nx+1)
   |none=>af
  |.box ty x=>match fo e x with
   |some v=>(match v.cs with|some l=>K (.ptr nx 0) 0 (ko nx) (h.set nx (aa (.cells ty l))) (nx+1)|none=>af)
   |none=>af
  |.build z parts=>match IB z with
   |some l=>(match HO l e parts with|some cs=>K (.agg cs) 0 0 h nx|none=>af)
   |none=>af
  |.load sz ag x=>match fo e x with
   |some (.ptr id off)=>(match h.get id with
    |some (.cells _ l)=>(match Rd l off sz ag with|some v=>K v (ko id) 0 h nx|none=>af)
    |_=>af)
   |some (.pel id sz' j off)=>(match h.get id with
    |some (.rows _ _ T xs)=>if aA sz' T.size then chk (fB j xs.length) λ_=>(match nC 40 T (aH xs j) off sz ag with|some v=>K v (ko id) 0 h nx|none=>af) else af
    |some (.cells _ l)=>(match ag with
     |true=>af
     |false=>if aA sz 1&&aA sz' 1&&aA off 0 then (match YU l with
      |some ⟨T,xs⟩=>chk (fB j l.length) λ_=>K (.f T (aH xs j)) (ko id) 0 h nx
      |none=>af) else af)
    |_=>af)
   |some (.fel T xs j _ off)=>(match nC 40 T (aH xs j) off sz ag with|some v=>K v 0 0 h nx|none=>af)
   |_=>af
  |.store sz x v=>match fo e x,fo e v with
   |some (.ptr id off),aa y=>(match h.get id with
    |some (.cells ty l)=>(match y.cs with
     |some cs=>if cs.length==sz&&eo (off+sz) l.length then K .undef (ko id) (ko id) (h.set id (aa (.cells ty (splice l off cs)))) nx else af
     |none=>af)
    |_=>af)
   |some (.pel id sz' j off),aa y=>(match h.get id with
    |some (.rows ty p T xs)=>if aA sz' T.size then chk (fB j xs.length) λ_=>(match gD h y 40 T (aH xs j) off sz with
     |some (z,m)=>if aL m id then af else K .undef (m|||ko id) (m|||ko id) ((d_ m h).set id (aa (.rows ty p T (cJ xs j z)))) nx
     |none=>af) else af
    |some (.cells ty l)=>if aA sz 1&&(aA sz' 1&&aA off 0) then chk (fB j l.length) λ_=>(match y.cs with
     |some cs=>if aA cs.length 1 then K .undef (ko id) (ko id) (h.set id (aa (.cells ty (splice l j.toNat cs)))) nx else af
     |none=>af) else af
    |_=>af)
   |_,_=>af
  |.nilc x=>match fo e x with
   |some (.ptr id off)=>K (.ptr id off) 0 0 h nx
   |some (.pel id sz j off)=>K (.pel id sz j off) 0 0 h nx
   |some (.fel T xs j hj off)=>K (.fel T xs j hj off) 0 0 h nx
   |some (.clo g cap)=>K (.clo g cap) 0 0 h nx
   |_=>af
  |.bin op x y=>match fo e x,fo e y with
   |some u,aa v=>ady op u v λr=>K r 0 0 h nx
   |_,_=>af
  |.eqs neg ds x y=>match qc ds,fo e x,fo e y with
   |some T,aa u,aa v=>if u.isC||v.isC||RD x||RD y then af else (match u.cs,v.cs with
    |some lu,aa lv=>(match eL PT.leaf 40 T lu,eL PT.leaf 40 T lv with
     |some (a,_,[]),aa (b,_,[])=>K (.f .bool (Nt T a b !=neg)) 0 0 h nx
     |_,_=>af)
    |_,_=>af)
   |_,_,_=>af
  |.isnil neg x=>match fo e x with
   |some .nil=>K (.f .bool (!neg)) 0 0 h nx
   |some .emp=>K .anyb 0 0 h nx
   |some (.f (.sl _) xs)=>bcase (aA (ak xs) 0) (K .anyb 0 0 h nx) (K (.f .bool neg) 0 0 h nx)
   |some (.row id)=>(match h.get id with
    |some (.rows _ ai _ _)=>K (.f .bool neg) 0 0 h nx
    |_=>af)
   |_=>af
  |.eqb neg x y=>match fo e x,fo e y with
   |some (.f .bool a),aa (.f .bool b)=>K (.f .bool ((a==b) !=neg)) 0 0 h nx
   |_,_=>af
  |.not x=>match fo e x with|some (.f .bool b)=>K (.f .bool (!b)) 0 0 h nx|_=>af
  |.conv k x=>match fo e x with|some (.f (.int _) n)=>K (.f (.int k) (bg k n)) 0 0 h nx|_=>af
  |.slc sz x lo hi mx=>match fo e x with
   |some v=>(match lo,hi,mx with
    |none,aa (.const (.int _ 0)),aa (.const (.int _ 0))=>if (lenOf h v).isSome then K .emp 0 0 h nx else af
    |none,aa b,af=>(match v,fo e b with
     |.f (.sl T) xs,aa (.f (.int _) j)=>if aA sz T.size then chk (cR 0 j&&cR j (ak xs)) λ_=>K (.f (.sl T) (dE (aS j) xs)) 0 0 h nx else af
     |.row id,aa (.f (.int _) j)=>(match h.get id with
      |some (.rows ty p T xs)=>if aA sz T.size then
        chk (cR 0 j&&fE j (ak xs)) λ_=>K (.row nx) (ko id) (ko id|||ko nx) ((h.set id (aa (.dead p sz (ak xs)))).set nx (aa (.rows ty ai T (dE (aS j) xs)))) (nx+1)
       else af
      |_=>af)
     |_,_=>af)
    |some b,af,af=>(match v,fo e b with
     |.f (.sl T) xs,aa (.f (.int _) j)=>if aA sz T.size then chk (cR 0 j&&cR j (ak xs)) λ_=>K (.f (.sl T) (List.drop (aS j) xs)) 0 0 h nx else af
     |.row id,aa (.f (.int _) j)=>(match h.get id with
      |some (.rows _ _ T xs)=>if aA sz T.size then chk (cR 0 j&&fE j (ak xs)) λ_=>K (.rtl id j) 0 0 h nx else af
      |_=>af)
     |_,_=>af)
    |_,_,_=>af)
   |none=>af
  |.fad off x=>match fo e x with
   |some (.ptr id o)=>K (.ptr id (o+off)) 0 0 h nx
   |some (.pel id sz j o)=>K (.pel id sz j (o+off)) 0 0 h nx
   |some (.fel T xs j hj o)=>K (.fel T xs j hj (o+off)) 0 0 h nx
   |_=>af
  |.fld off sz ag x=>match fo e x with
   |some (.agg l)=>(match Rd l off sz ag with|some v=>K v 0 0 h nx|none=>af)
   |some (.f T v)=>if T.one then af else (match nC 40 T v off sz ag with|some v=>K v 0 0 h nx|none=>af)
   |_=>af
  |.iad sz x i=>match fo e x,fo e i with
   |some (.row id),aa (.f (.int _) j)=>(match h.get id with
    |some (.rows _ _ T xs)=>if aA sz T.size then chk (fB j xs.length) λ_=>K (.pel id sz j 0) 0 0 h nx else af
    |_=>af)
   |some (.f (.sl T) xs),aa (.f (.int _) j)=>if aA sz T.size then chk (fB j (ak xs)) λhj=>K (.fel T xs j hj 0) 0 0 h nx else af
   |some (.csl id sz' n),aa (.f (.int _) j)=>if aA sz' sz then chk (cR 0 j&&fE j n) λ_=>K (.ptr id (aS j*sz)) 0 0 h nx else af
   |_,_=>af
  |.iada n sz x i=>match fo e x,fo e i with
   |some (.ptr id off),aa (.f (.int _) j)=>(match arrB n sz off (h.get id) with
    |some _=>chk (cR 0 j&&fE j n) λ_=>K (.pel id sz j off) 0 0 h nx
    |none=>chk (cR 0 j&&fE j n) λ_=>K (.ptr id (off+aS j*sz)) 0 0 h nx)
   |_,_=>af
  |.idx n sz ag x i=>match fo e x,fo e i with
   |some v,aa (.f (.int _) j)=>(match agn n sz v ag with
    |some ⟨T,xs⟩=>chk (cR 0 j&&fE j n) λ_=>K (.f T (aH xs j)) 0 0 h nx
    |none=>(match v with
     |.agg l=>chk (cR 0 j&&fE j n) λ_=>(match Rd l (aS j*sz) sz ag with|some v=>K v 0 0 h nx|none=>af)
     |.f T v=>if T.one then af else chk (cR 0 j&&fE j n) λ_=>(match nC 40 T v (aS j*sz) sz ag with|some v=>K v 0 0 h nx|none=>af)
     |_=>af))
   |_,_=>af
  |.ext x i=>match fo e x with|some (.tup l)=>(match l[i]? with|some v=>K v 0 0 h nx|none=>af)|_=>af
  |.len x=>match fo e x with
   |some v=>(match lenOf h v with|some n=>K (.f (.int .i64) (aN n)) 0 0 h nx|none=>af)
   |none=>af
  |.lens x=>match fo e x with
   |some (.f .str s)=>K (.f (.int .i64) (aN (ak s))) 0 0 h nx
   |_=>af
  |.max x y=>match fo e x,fo e y with
   |some (.f (.int k) a),aa (.f (.int k') b)=>if k==k' then K (.f (.int k) (jZ a b)) 0 0 h nx else af
   |_,_=>af
  |.min x y=>match fo e x,fo e y with
   |some (.f (.int k) a),aa (.f (.int k') b)=>if k==k' then K (.f (.int k) (Fp a b)) 0 0 h nx else af
   |_,_=>af
  |.sidx x i=>match fo e x,fo e i with
   |some (.f .str s),aa (.f (.int _) j)=>chk (fB j (ak s)) λ_=>K (.f (.int .u8) (yU s j)) 0 0 h nx
   |_,_=>af
  |.rng x=>match fo e x with
   |some (.f .str s)=>K (.ptr nx 0) 0 (0|||ko nx) ((d_ 0 h).set nx (aa (.mp itK .un [((s,0),())]))) (nx+1)
   |_=>af
  |.nxt x=>match fo e x with
   |some (.ptr id 0)=>(match h.get id with
    |some (.mp K' V es)=>(match itE K' V es with
     |some (s,p)=>bcase (fR p (ak s)) (chk (fE (yU s (aN p)) 128) λ_=>K (.tup [.f .bool ah,.f (.int .i64) (aN p),.f (.int .i32) (yU s (aN p))]) (ko id) (0|||ko id) ((d_ 0 h).set id (aa (.mp itK .un [((s,aN (p+1)),())]))) nx)
       (K (.tup [.f .bool ai]) (ko id) (0|||ko id) ((d_ 0 h).set id (aa (.mp itK .un [((s,aN p),())]))) nx)
     |none=>af)
    |_=>af)
   |_=>af
  |.mkm=>K (.mp nx) 0 (0|||ko nx) ((d_ 0 h).set nx (aa (.mp .un .un []))) (nx+1)
  |.lku str ok z x k=>match fo e x,fo e k with
   |some (.mp id),aa (.f KT M)=>(match h.get id with
    |some (.mp K' V es)=>if Vm str KT&&Ru K' then (match mpE K' V es with
     |true=>(match cst z with|some v=>K (pkT ok v (.f .bool ai)) (ko id) 0 h nx|none=>af)
     |false=>(match vz (S:=KT) K' M,cst z with
      |some kv',aa (.f Z Y)=>(match vz (S:=Z) V Y with
       |some zv'=>K (pkT ok (.f V (uV kv' es zv')) (.f .bool (adh kv' es))) (ko id) 0 h nx
       |none=>af)
      |_,_=>af)) else af
    |_=>af)
   |_,_=>af
  |.mup str x k v=>match fo e x,fo e k,fo e v with
   |some (.mp id),aa (.f KT M),aa (.f VT U)=>(match h.get id with
    |some (.mp K' V es)=>if (Vm str KT&&VT.one)&&Ru K' then (match mpE K' V es with
     |true=>K .undef (ko id) (0|||ko id) ((d_ 0 h).set id (aa (.mp KT VT [(M,U)]))) nx
     |false=>(match vz (S:=KT) K' M,vz (S:=VT) V U with
      |some kv',aa vv'=>K .undef (ko id) (0|||ko id) ((d_ 0 h).set id (aa (.mp K' V (C9 kv' vv' es)))) nx
      |_,_=>af)) else af
    |_=>af)
   |_,_,_=>af
  |.lenm x=>match fo e x with
   |some (.mp id)=>(match h.get id with
    |some (.mp K' _ es)=>if Ru K' then K (.f (.int .i64) (aN es.length)) (ko id) 0 h nx else af
    |_=>af)
   |_=>af
  |.mkf f caps=>match Eb e caps with|some l=>K (.clo f l) 0 0 h nx|none=>af
  |_=>af
def Xg {R:Type} (e:iy) (g:Option (Nat×Bool)) (K:Bool->iy->Option R):Option R:=match g with
 |none=>K ah e
 |some (t,want)=>match e.get t with
  |some (.f .bool b)=>(match want with
   |true=>bcase b (K ah (e.set t (aa (.f .bool ah)))) (K ai (e.set t (aa (.f .bool ai))))
   |false=>bcase b (K ai (e.set t (aa (.f .bool ah)))) (K ah (e.set t (aa (.f .bool ai)))))
  |some .undef=>K ai e
  |_=>af
def C1 (e:iy) (d:Option Nat) (v:TV):iy:=match d with
 |none=>e
 |some d=>e.set d (aa v)
structure TS where
 e:iy
 h:bd
 nx:Nat
def JD {R:Type} (con:FuncId->Option cq) (bY:TypeId->Option Ty):List rz->TS->List Zn->(TS->List Zn->Option R)->Option R
 |[],s,fs,K=>K s fs.reverse
 |o::r,s,fs,K=>Xg s.e o.guard λrun e=>match run with
  |true=>dK con bY o.op e s.h s.nx λv rd wr h nx=>if JG h v then JD con bY r ⟨C1 e o.dst v,h,nx⟩ (⟨rd,wr⟩::fs) K else af
  |false=>JD con bY r ⟨C1 e o.dst .undef,s.h,s.nx⟩ (⟨0,0⟩::fs) K
inductive Zu where
 |nil (k:Nat) (ty:TypeId) (T:Ty)
 |cel (k:Nat) (off:Nat) (ty:TypeId) (T:Ty)
 |mpt (k:Nat) (K V:Ty)
 |pk (k:Nat) (off:Nat) (T:Ty)
 |ren (k:Nat) (off:Nat)
mutual
def Jy (id sz n:Nat):TV->TV
 |.csl i s m=>if aA i id&&aA s sz&&aA m n then .row id else .csl i s m
 |.agg l=>.agg (Bg id sz n l)
 |.tup l=>.tup (Bg id sz n l)
 |.clo g l=>.clo g (Bg id sz n l)
 |.f T v=>.f T v
 |.fel T xs j h off=>.fel T xs j h off
 |.pel a b c d=>.pel a b c d
 |.ptr a b=>.ptr a b
 |.row a=>.row a
 |.rtl a j=>.rtl a j
 |.emp=>.emp
 |.nil=>.nil
 |.mp a=>.mp a
 |.undef=>.undef
 |.np=>.np
 |.anyb=>.anyb
def Bg (id sz n:Nat):List TV->List TV
 |[]=>[]
 |x::r=>Jy id sz n x::Bg id sz n r
end
def U_ (id sz n:Nat):h_->h_
 |.cells ty l=>.cells ty (Bg id sz n l)
 |.rows ty p T xs=>.rows ty p T xs
 |.dead p s m=>.dead p s m
 |.mp K V es=>.mp K V es
def agy (s:TS) (k off:Nat):Option (Nat×Nat×Nat):=match s.e.get k with
 |some (.csl id sz n)=>aa (id,sz,n)
 |some (.agg l)=>(match l[off]? with|some (.csl id sz n)=>aa (id,sz,n)|_=>af)
 |some (.ptr a o)=>(match s.h.get a with
  |some (.cells _ l)=>(match l[o+off]? with|some (.csl id sz n)=>aa (id,sz,n)|_=>af)
  |_=>af)
 |_=>af
def pkS (s:TS) (T:Ty) (id sz n:Nat):Option TS:=match s.h.get id with
 |some (.cells ty l)=>if aA sz T.size then (match xt s.h T n l with
  |some (xs,m)=>if aL m id then af else aa ⟨PT.updI (λ_ v=>Jy id sz n v) 1 0 s.e,(PT.updI (λ_ b=>U_ id sz n b) 1 0 (d_ m s.h)).set id (aa (.rows ty ai T xs)),s.nx⟩
  |none=>af) else af
 |_=>af
def Z6:TV->Bool
 |.nil=>ah
 |.emp=>ah
 |_=>ai
def agc:Option TV->Option (Nat×Nat)
 |some (.ptr id o)=>aa (id,o)
 |some (.csl id _ _)=>aa (id,0)
 |_=>af
def Ng (s:TS):Zu->Option TS
 |.nil k ty T=>match s.e.get k with
  |some v=>if Z6 v then aa ⟨s.e.set k (aa (.row s.nx)),s.h.set s.nx (aa (.rows ty ah T [])),s.nx+1⟩ else aa s
  |none=>af
 |.cel k off ty T=>match agc (s.e.get k) with
  |some (id,o)=>(match s.h.get id with
   |some (.cells cty l)=>(match l[o+off]? with
    |some v=>if Z6 v then aa ⟨s.e,(s.h.set s.nx (aa (.rows ty ah T []))).set id (aa (.cells cty (splice l (o+off) [.row s.nx]))),s.nx+1⟩ else aa s
    |none=>af)
   |_=>af)
  |_=>af
 |.mpt k K V=>match s.e.get k with
  |some (.mp id)=>(match s.h.get id with
   |some (.mp K' V' es)=>(match mpE K' V' es&&Ru K with
    |true=>aa ⟨s.e,s.h.set id (aa (.mp K V [])),s.nx⟩
    |false=>aa s)
   |_=>af)
  |_=>af
 |.pk k off T=>match agy s k off with
  |some (id,sz,n)=>pkS s T id sz n
  |none=>af
 |.ren k off=>match s.e.get k with
  |some (.ptr b o)=>(match s.h.get b with
   |some (.cells cty l)=>(match l[o+off]? with
    |some (.row id)=>(match s.h.get id with
     |some (.rows ty p T xs)=>aa ⟨s.e,((s.h.set id (aa (.dead p T.size xs.length))).set s.nx (aa (.rows ty p T xs))).set b (aa (.cells cty (splice l (o+off) [.row s.nx]))),s.nx+1⟩
     |_=>af)
    |_=>af)
   |_=>af)
  |some (.row id)=>(match s.h.get id with
   |some (.rows ty p T xs)=>aa ⟨s.e.set k (aa (.row s.nx)),(s.h.set id (aa (.dead p T.size xs.length))).set s.nx (aa (.rows ty p T xs)),s.nx+1⟩
   |_=>af)
  |_=>af
def Wm (s:TS):List Zu->Option TS
 |[]=>aa s
 |a::r=>match Ng s a with|some s'=>Wm s' r|none=>af
structure Xb where
 keep:List Nat
 ks:List Nat
 t:Tm
 pre:List Zu
abbrev Xb.D (A:Xb):Type:=A.t.ty.den
mutual
def sY:TV->Bool
 |.f _ _=>ah
 |.fel _ _ _ _ _=>ah
 |.emp=>ah
 |.nil=>ah
 |.undef=>ah
 |.np=>ah
 |.anyb=>ah
 |.agg l=>pE l
 |.tup l=>pE l
 |.pel _ _ _ _=>ai
 |.ptr _ _=>ai
 |.csl _ _ _=>ai
 |.row _=>ai
 |.rtl _ _=>ai
 |.mp _=>ai
 |.clo _ _=>ai
def pE:List TV->Bool
 |[]=>ah
 |x::r=>sY x&&pE r
end
def BH (am:Nat) (e:iy):List Nat->iy
 |[]=>PT.leaf
 |k::r=>match e.get k with|some v=>if sY v&& !(aL am k) then (BH am e r).set k (aa v) else BH am e r|none=>BH am e r
def nu (e:iy):List Nat->Option (List TV)
 |[]=>aa []
 |k::r=>match e.get k with|some v=>(match nu e r with|some l=>aa (v::l)|none=>af)|none=>af
def Va (e:iy):List Nat->List TV->iy
 |k::r,v::l=>(Va e r l).set k (aa v)
 |_,_=>e
def F5 (am:Nat) (e0 e:iy):List Nat->Bool
 |[]=>ah
 |k::r=>(match e0.get k with
  |some v=> !(sY v)||aL am k||(match e.get k with|some _=>ah|none=>ai)
  |none=>ah)&&F5 am e0 e r
def J5 (np:Nat) (A:Xb) (am:Nat) (I s:TS):Option A.D:=if eo np A.t.bs.length&&F5 am I.e s.e A.keep then (match Wm s A.pre with
 |some s=>(match nu s.e A.ks with
  |some vs=>(match C_ np A.t vs s.h with
   |some ⟨x,_,_,_⟩=>aa x
   |none=>af)
  |none=>af)
 |none=>af) else af
def Fi (A:Xb) (am:Nat) (s:TS) (x:A.D):Option TS:=match BI A.t x with
 |some (vs,h)=>if aA vs.length A.ks.length then aa ⟨Va (BH am s.e A.keep) A.ks vs,h,A.t.bs.length⟩ else af
 |none=>af
inductive TC where
 |skip
 |reg (ops:List rz) (prs:List (Nat×Nat))
 |seq (a b:TC)
 |jseq (A:Xb) (a b:TC)
 |cond (c:Nat) (a b:TC)
 |block (id:Nat) (b:TC)
 |jblock (A:Xb) (id:Nat) (b:TC)
 |loop (A:Xb) (b:TC)
 |exit (id:Nat)
 |ret
 |defer (f:FuncId) (caps:List Operand) (t:Nat)
 |adj (l:List Zu) (c:TC)
 |split (k off lo n:Nat) (c:TC)
 |unl (n:Nat) (b:TC)
 |bad
def Nb:List rz->Nat->Nat
 |[],acc=>acc
 |o::r,acc=>Nb r (match o.dst with|some d=>acc|||ko d|none=>acc)
def JJ:List Nat->Nat->Nat
 |[],acc=>acc
 |k::r,acc=>JJ r (acc|||ko k)
def nN:List Zu->Nat->Nat
 |[],acc=>acc
 |.nil k _ _::r,acc=>nN r (acc|||ko k)
 |.cel _ _ _ _::r,acc=>nN r acc
 |.mpt _ _ _::r,acc=>nN r acc
 |.pk _ _ _::r,acc=>nN r acc
 |.ren k _::r,acc=>nN r (acc|||ko k)
def TC.asg:TC->Nat->Nat
 |.reg ops _,acc=>Nb ops acc
 |.seq a b,acc=>b.asg (a.asg acc)
 |.jseq A a b,acc=>b.asg (a.asg (JJ A.ks acc))
 |.cond _ a b,acc=>b.asg (a.asg acc)
 |.block _ b,acc=>b.asg acc
 |.jblock A _ b,acc=>b.asg (JJ A.ks acc)
 |.loop A b,acc=>b.asg (JJ A.ks acc)
 |.defer _ _ t,acc=>acc|||ko t
 |.adj l c,acc=>c.asg (nN l acc)
 |.split _ _ _ _ c,acc=>c.asg acc
 |.unl _ b,acc=>b.asg acc
 |.skip,acc=>acc
 |.exit _,acc=>acc
 |.ret,acc=>acc
 |.bad,acc=>acc
inductive Zl where
 |j (A:Xb)
 |a (l:List Zu)
 |s (k off lo n:Nat)
 |u (n:Nat)
def Gm (H:PT Zl) (n:Nat) (c:TC):TC:=match H.get n with|some (.a l)=>.adj l c|some (.s k off lo m)=>.split k off lo m c|_=>c
def Cp (H:PT Zl):SC->Nat->TC×Nat
 |.skip,n=>(Gm H n .skip,n+1)
 |.reg o p,n=>(Gm H n (.reg o p),n+1)
 |.seq a b,n=>match Cp H a (n+1) with
  |(a',k)=>(match Cp H b k with|(b',k')=>((match H.get n with|some (.j A)=>.jseq A a' b'|_=>.seq a' b'),k'))
 |.cond c a b,n=>match Cp H a (n+1) with
  |(a',k)=>(match Cp H b k with|(b',k')=>(Gm H n (.cond c a' b'),k'))
 |.block id b,n=>match Cp H b (n+1) with|(b',k)=>((match H.get n with|some (.j A)=>.jblock A id b'|_=>.block id b'),k)
 |.loop b,n=>match Cp H b (n+1) with|(b',k)=>((match H.get n with|some (.j A)=>.loop A b'|some (.u m)=>.unl m b'|_=>.bad),k)
 |.exit id,n=>(Gm H n (.exit id),n+1)
 |.ret,n=>(Gm H n .ret,n+1)
 |.defer f c t,n=>(.defer f c t,n+1)
 |.bad,n=>(.bad,n+1)
def X4 (s:TS) (k off:Nat):Option (IntKind×Int):=match s.e.get k with
 |some (.f (.int kd) v)=>aa (kd,v)
 |some (.ptr a o)=>(match s.h.get a with
  |some (.cells _ l)=>(match l[o+off]? with|some (.f (.int kd) v)=>aa (kd,v)|_=>af)
  |_=>af)
 |_=>af
def Rh (s:TS) (k off:Nat) (kd:IntKind) (v:Int):Option TS:=match s.e.get k with
 |some (.f (.int _) _)=>aa ⟨s.e.set k (aa (.f (.int kd) v)),s.h,s.nx⟩
 |some (.ptr a o)=>(match s.h.get a with
  |some (.cells ty l)=>aa ⟨s.e,s.h.set a (aa (.cells ty (splice l (o+off) [.f (.int kd) v]))),s.nx⟩
  |_=>af)
 |_=>af
def spl {R:Type} (v:Int) (f:Nat->Option R):Nat->Nat->Option R
 |_,0=>af
 |i,m+1=>bcase (decide ((v:Int)=aN i)) (f i) (spl v f (i+1) m)
def ZG {R:Type} (f:TS->(Ex->TS->Option R)->Option R):Nat->TS->(Ex->TS->Option R)->Option R
 |0,_,_=>af
 |m+1,s,K=>f s λex s'=>match ex with
  |.normal=>ZG f m s' K
  |ex=>K ex s'
def oA {R:Type} (np:Nat) (con:FuncId->Option cq) (bY:TypeId->Option Ty) (inert:FuncId->Bool):TC->TS->(Ex->TS->Option R)->Option R
 |.skip,s,K=>K .normal s
 |.reg ops prs,s,K=>JD con bY ops s [] λs' fs=>if Ea fs prs then K .normal s' else af
 |.seq a b,s,K=>oA np con bY inert a s λex s'=>match ex with|.normal=>oA np con bY inert b s' K|ex=>K ex s'
 |.jseq A a b,s,K=>jn (oA np con bY inert a s λex s'=>match ex with
   |.normal=>obind (J5 np A (a.asg 0) s s') λx=>aa (.inr x)
   |ex=>obind (K ex s') λr=>aa (.inl r)) λx=>(match Fi A (a.asg 0) s x with|some s'=>oA np con bY inert b s' K|none=>af)
 |.cond c a b,s,K=>match s.e.get c with
  |some (.f .bool t)=>bcase t (oA np con bY inert a s K) (oA np con bY inert b s K)
  |some .anyb=>DR (oA np con bY inert a s K) (oA np con bY inert b s K)
  |_=>af
 |.block id b,s,K=>oA np con bY inert b s λex s'=>match ex with
  |.exit i=>if aA i id then K .normal s' else K (.exit i) s'
  |ex=>K ex s'
 |.jblock A id b,s,K=>jn (oA np con bY inert b s λex s'=>match ex with
   |.normal=>obind (J5 np A (b.asg 0) s s') λx=>aa (.inr x)
   |.exit i=>if aA i id then obind (J5 np A (b.asg 0) s s') λx=>aa (.inr x) else obind (K (.exit i) s') λr=>aa (.inl r)
   |.ret=>obind (K .ret s') λr=>aa (.inl r)) λx=>(match Fi A (b.asg 0) s x with|some s'=>K .normal s'|none=>af)
 |.loop A b,s,K=>obind (J5 np A (b.asg 0) s s) λx=>iter (λx=>match Fi A (b.asg 0) s x with
   |some s'=>oA np con bY inert b s' λex s'=>(match ex with
    |.normal=>obind (J5 np A (b.asg 0) s s') λy=>aa (.inl y)
    |ex=>obind (K ex s') λr=>aa (.inr r))
   |none=>af) x
 |.exit id,s,K=>K (.exit id) s
 |.ret,s,K=>K .ret s
 |.defer f caps t,s,K=>match Eb s.e caps with
  |some l=>if inert f then K .normal ⟨s.e.set t (aa (.clo f l)),s.h,s.nx⟩ else af
  |none=>af
 |.adj l c,s,K=>match Wm s l with|some s'=>oA np con bY inert c s' K|none=>af
 |.split k off lo n c,s,K=>match X4 s k off with
  |some (kd,v)=>spl v (λi=>match Rh s k off kd (aN i) with|some s'=>oA np con bY inert c s' K|none=>af) lo n
  |none=>af
 |.unl n b,s,K=>ZG (λs K=>oA np con bY inert b s K) n s K
 |.bad,_,_=>af
def I6:Nat->List TV->iy
 |_,[]=>PT.leaf
 |k,x::r=>(I6 (k+1) r).set k (aa x)
def rvT (s:TS):RV->Option TV
 |.tmp t=>s.e.get t
 |.cell a sz ag=>match s.e.get a with
  |some (.ptr id off)=>(match s.h.get id with|some (.cells _ l)=>Rd l off sz ag|_=>af)
  |_=>af
def Rj (s:TS):List RV->Option (List TV)
 |[]=>aa []
 |x::r=>match rvT s x with|some v=>(match Rj s r with|some l=>aa (v::l)|none=>af)|none=>af
structure FT where
 pre:Tm
 post:Tm
 hints:PT Zl
def Xr (con:FuncId->Option cq) (bY:TypeId->Option Ty) (inert:FuncId->Bool) (F:Option SF) (D:FT) (x:D.pre.ty.den):Option D.post.ty.den:=
 match F with
 |some I=>(match BI D.pre x with
  |some (args,h)=>if eo args.length I.nt&&eo D.pre.bs.length D.post.bs.length then
    oA D.pre.bs.length con bY inert (Cp D.hints I.code 0).1 ⟨I6 0 args,h,D.pre.bs.length⟩ λex s=>(match ex with
    |.exit _=>af
    |_=>(match Rj s I.res with
     |some l=>(match C_ D.pre.bs.length D.post l s.h with
      |some ⟨y,_,_,_⟩=>(match BI D.post y with|some _=>aa y|none=>af)
      |none=>af)
     |none=>af)) else af
  |none=>af)
 |none=>af
abbrev aM:Ty:=(.int .i64)
abbrev j_:Ty:=(.st (.pr .str (.pr aM (.pr aM (.pr .bool aM)))))
abbrev pZ:Ty:=(.st (.pr .str .bool))
abbrev li:Ty:=(.st (.pr .str aM))
abbrev nO:Ty:=(.st (.pr aM (.pr aM aM)))
abbrev nE:Ty:=(.st (.pr (.sl j_) (.pr (.sl pZ) (.pr (.sl li) (.pr (.sl .str) (.pr (.sl .str) (.sl nO)))))))
abbrev uE:Ty:=(.sl (.sl aM))
abbrev eH:Ty:=(.st (.pr aM (.pr (.sl aM) (.pr uE aM))))
abbrev pX:Ty:=(.st (.pr aM (.pr aM (.pr aM (.pr aM (.pr aM aM))))))
abbrev dO:Ty:=(.st (.pr aM (.sl aM)))
abbrev pf:Ty:=(.sl .bool)
abbrev gU:Ty:=(.st (.pr aM (.pr aM .bool)))
abbrev FM:Ty:=(.st (.pr (.sl dO) (.pr aM (.pr pf (.sl gU)))))
abbrev iK:Ty:=(.st (.pr aM (.pr aM (.pr aM (.pr aM (.pr aM (.pr (.sl aM) (.sl aM))))))))
abbrev Fe:Ty:=(.st (.pr aM (.pr aM (.pr .str (.pr aM (.pr aM .str))))))
abbrev rN:Ty:=(.st (.pr .str (.pr aM (.pr (.sl .str) (.sl .sm)))))
abbrev LF:Ty:=(.st (.pr (.sl Fe) (.sl rN)))
abbrev vE:Ty:=(.st (.pr aM (.sl pX)))
abbrev tB:Ty:=(.st (.pr nE (.sl vE)))
abbrev uF:Ty:=(.st (.pr FM (.pr (.sl aM) (.pr (.sl aM) (.sl eH)))))
abbrev iz:Ty:=(.st (.pr FM (.pr (.sl aM) (.pr (.sl aM) (.sl aM)))))
abbrev CJ:Ty:=(.sl (.int .u8))
abbrev xm:Ty:=(.st (.pr CJ aM))
abbrev ir:Ty:=(.st (.pr aM aM))
abbrev od:Ty:=(.st (.pr nE (.sl iK)))
abbrev Qr:=((List UInt8)×Int×Int×Bool×Int)
abbrev gI:=(List Qr)
abbrev gp:=(List ((List UInt8)×Bool))
abbrev eW:=((List UInt8)×Int)
abbrev b9:=(List (List UInt8))
abbrev dF:=(gI×gp×(List eW)×b9×b9×List (Int×Int×Int))
abbrev qH:=(gI×gp×(List eW)×b9×b9×(List (Int×Int×Int))×b9×Int×Int)
abbrev gm:=(List (Int×List Int))
abbrev dg:=(Int×Int×Bool)
abbrev oz:=(gm×Int×(List Bool)×List dg)
abbrev sI:=(Int×(List Int)×(List (List Int))×Int)
abbrev jC:=(Int×Int×Int×Int×Int×Int)
abbrev gy:=(Int×Int×Int×Int×Int×(List Int)×List Int)
abbrev Y1:=(Int×Int×(List UInt8)×Int×Int×List UInt8)
abbrev qY:=(List Y1)
abbrev qX:=((List UInt8)×Int×b9×List Sx)
abbrev xn:=(Int×Int×Bool×Bool×Bool×Bool)
abbrev yn:=(dF×List (Int×List jC))
abbrev uA:=(Int×Int×Int×Int×Int)
abbrev eg:=(oz×(List Int)×(List Int)×List Int)
abbrev fx:=((List Int)×Int)
abbrev vD:=(oz×(List Int)×(List Int)×List sI)
abbrev FJ:=(Int×Int×(List UInt8)×(List UInt8)×Int×Int×List UInt8)
abbrev pY:=(qY×(List qX)×Int)
abbrev Qs:=(Bool×List (List UInt8))
abbrev Ya23:=(Int×Int×sI×sI×Int×(List Int)×(List (List Int))×Int)
abbrev Ya24:=(sI×Int×Int×sI×Int×(List Int)×(List (List Int))×Int)
abbrev Ya25:=(sI×sI×Int×Int×Int×(List Int)×(List (List Int))×Int)
abbrev Y3:=((List Sx)×xn×fx×Bool×List (List UInt8))
abbrev Ya27:=(Int×Int×sI×Int×(List Int)×(List (List Int))×Int)
abbrev Ya28:=(sI×Int×Int×Int×(List Int)×(List (List Int))×Int)
abbrev Ya29:=(Int×Int×Int×(List Int)×(List (List Int))×Int)
abbrev Wo:=(Int×xn×fx×Bool×List (List UInt8))
abbrev Y2:=(Sx×xn×fx×Bool×List (List UInt8))
abbrev ab4:=((Int×Int)×pY×(Bool×List Sx)×b9×List (List UInt8))
abbrev Kq:=(Sx×qH×List jC)
abbrev CG:=(vD×gy×Bool)
abbrev Y0:=((Sx×Int×Int×Int)×qH×List jC)
abbrev ab3:=((Int×Int)×xn×fx×Bool×List (List UInt8))
abbrev ab2:=(eW×xn×fx×Bool×List (List UInt8))
abbrev Wn:=(xn×fx×Qs×List Sx)
abbrev ab1:=(Xp×xn×fx×Bool×List (List UInt8))
abbrev Ya42:=(sI×sI×sI×Int×Int)
abbrev YZ:=((List Sx)×qH×List jC)
abbrev aW {α:Type} (l:List α):Int:=aN (ak l)
abbrev cz (n:Int):Int:=bg .i64 (n+1)
abbrev aD {R α:Type} (x:α):Option (R⊕α):=aa (bS x)
abbrev cK {R α:Type} (x:R):Option (R⊕α):=aa (lX x)
abbrev bF {R:Type} (T:Ty) (l:List T.den) (j:Int) (k:T.den->Option R):Option R:=chk (fB j (ak l)) λ_=>lt (aH (T:=T) l j) k
abbrev kK {R:Type} (T:Ty) (l:List T.den) (j:Int) (k:T.den->Option R):Option R:=chk (fB j (ak l)) λ_=>chk (fB j (ak l)) λ_=>lt (aH (T:=T) l j) k
abbrev vO {R α:Type} (j:Int) (l:List α) (k:Option R):Option R:=chk (fB j (ak l)) λ_=>k
abbrev bD {R:Type} (b:Bool) (k:Option R):Option R:=chk b λ_=>k
abbrev bc {R:Type} (a b:Int) (t f:Option R):Option R:=bcase (decide (a=b)) t f
abbrev iO {R:Type} (a b:Int) (t f:Option R):Option R:=bcase (!decide (a=b)) t f
abbrev bu {R:Type} (a b:Int) (t f:Option R):Option R:=bcase (fE a b) t f
abbrev jg {R:Type} (a b:Int) (t f:Option R):Option R:=bcase (cR a b) t f
def ck {R:Type} (b:Bool) (k:Option R):Option R:=chk b λ_=>chk b λ_=>k
def dS (s:Sx):Sx:=m_ (Sx.op s,Sx.line s,Sx.name s,Sx.arg s,Sx.index s,dP (Xp.op (Sx.expr s),Xp.n (Sx.expr s),Xp.name (Sx.expr s),Xp.l (Sx.expr s)),Sx.body s,Sx.els s)
def jW (x:Unit):Option b9:=
 (aa ([[118,97,114],[118,111,108,97,116,105,108,101],[109,117,116,101,120],[114,119,108,111,99,107],[99,111,110,100],[102,117,116,117,114,101],[116,104,114,101,97,100],[105,102],[101,108,115,101],[119,104,105,108,101],[108,111,99,107],[114,101,97,100],[119,114,105,116,101],[116,114,97,110,115,97,99,116,105,111,110],[97,116,111,109,105,99],[119,97,105,116],[110,111,116,105,102,121],[110,111,116,105,102,121,97,108,108],[115,112,97,119,110],[106,111,105,110],[115,101,116],[103,101,116]]))
def jp (x:List UInt8):Option (Bool):=
 (obind (jW ()) λJ=>(iter (σ:=Int) (λI=>(bu I (aW J) (bF (.str) J I λM=>(bcase (decide ((M:List UInt8)=x)) (aD ah) (cK (cz I)))) (aD ai))) 0))
def kO (x:Int):Option (Bool):=
 (jn (α:=Bool) (jg 97 x (jg x 122 (aD ah) (jg 65 x (aD (cR x 90)) (aD ai))) (jg 65 x (aD (cR x 90)) (aD ai))) λI=>(aa I))
def qr (x:Int):Option (Bool):=
 (jn (α:=Bool) (jg 48 x (aD (cR x 57)) (aD ai)) λI=>(aa I))
def oL (x:Int):Option (Bool):=
 (jn (α:=Bool) (obind (kO x) λJ=>(bcase J (aD ah) (obind (qr x) λI=>(bcase I (aD ah) (aD (decide ((x:Int)=95))))))) λM=>(aa M))
def eR (x:List UInt8):Option (Bool):=
 (jn (α:=Bool) (bu (aW x) 1 (aD ah) (bu 12 (aW x) (aD ah) (vO 0 x (obind (kO (yU x 0)) λU=>(bcase (!U) (aD ah) (obind (jp x) λM=>(aD M))))))) λY=>(bcase Y (aa ai) (iter (σ:=Int) (λI=>(bu I (aW x) (vO I x (obind (oL (yU x I)) λJ=>(bcase (!J) (aD ai) (cK (cz I))))) (aD ah))) 0)))
def fG (x:Bool):Option (Int):=
 (bcase x (aa 1) (aa 0))
def sU (x:Int×Int):Option (Int×Bool):=
 (bc x.1 4 (aa ((bg .i64 (0-x.2)),ah)) (bc x.1 5 (obind (fG (decide ((x.2:Int)=0))) λI=>(aa (I,ah))) (aa (0,ai))))
def re (x:Int×Int×Int):Option (Int×Bool):=
 (bc x.1 6 (aa ((bg .i64 (x.2.1+x.2.2)),ah)) (bc x.1 7 (aa ((bg .i64 (x.2.1-x.2.2)),ah)) (bc x.1 8 (aa ((bg .i64 (x.2.1*x.2.2)),ah)) (bc x.1 9 (bc x.2.2 0 (aa (0,ah)) (bD (!decide ((x.2.2:Int)=0)) (aa ((bg .i64 (Int.tdiv x.2.1 x.2.2)),ah)))) (bc x.1 10 (bc x.2.2 0 (aa (0,ah)) (bD (!decide ((x.2.2:Int)=0)) (aa ((yC x.2.1 x.2.2),ah)))) (bc x.1 11 (obind (fG (decide ((x.2.1:Int)=x.2.2))) λy1=>(aa (y1,ah))) (bc x.1 12 (obind (fG (!decide ((x.2.1:Int)=x.2.2))) λy2=>(aa (y2,ah))) (bc x.1 13 (obind (fG (fE x.2.1 x.2.2)) λy3=>(aa (y3,ah))) (bc x.1 14 (obind (fG (cR x.2.1 x.2.2)) λy4=>(aa (y4,ah))) (bc x.1 15 (obind (fG (fE x.2.2 x.2.1)) λy5=>(aa (y5,ah))) (bc x.1 16 (obind (fG (cR x.2.2 x.2.1)) λZ=>(aa (Z,ah))) (bc x.1 17 (jn (α:=Int×Bool) (iO x.2.1 0 (obind (fG (!decide ((x.2.2:Int)=0))) λY=>(aD (Y,ah))) (obind (fG ai) λU=>(aD (U,ah)))) λx7=>(aa x7)) (bc x.1 18 (jn (α:=Int×Bool) (iO x.2.1 0 (obind (fG ah) λJ=>(aD (J,ah))) (obind (fG (!decide ((x.2.2:Int)=0))) λI=>(aD (I,ah)))) λM=>(aa M)) (aa (0,ai)))))))))))))))
def qo (x:Int×Int):Option (Int):=
 (bu x.2 1 (aa 0) (bD (!decide ((x.2:Int)=0)) (jn (α:=Int) (bu (yC x.1 x.2) 0 (aD (bg .i64 ((yC x.1 x.2)+x.2))) (aD (yC x.1 x.2))) λI=>(aa I))))
def lM (x:Int):Option (Int):=
 (jn (α:=Bool) (bc x 1 (aD ah) (aD (decide ((x:Int)=2)))) λM=>(bcase M (aa 0) (jn (α:=Bool) (jg 3 x (aD (cR x 5)) (aD ai)) λJ=>(bcase J (aa 1) (jn (α:=Bool) (jg 6 x (aD (cR x 18)) (aD ai)) λI=>(bcase I (aa 2) (aa (-1))))))))
def lA (rr02_ShapedExpr:Xp->Option (Bool)) (x:Xp):Option (Bool):=
 (jn (α:=Bool×Xp) (bc (Xp.op x) 2 (aD (ah,dP ((Xp.op x),(Xp.n x),(Xp.name x),(Xp.l x)))) (aD ((decide (((Xp.op x):Int)=3)),dP ((Xp.op x),(Xp.n x),(Xp.name x),(Xp.l x))))) λI=>(jn (α:=Bool×Xp) (obind (lM (Xp.op I.2)) λy3=>(iO y3 (aN (ak (Xp.l I.2))) (aD (ah,dP ((Xp.op I.2),(Xp.n I.2),(Xp.name I.2),(Xp.l I.2)))) (bcase ((I.1==(!decide (((Xp.name I.2):List UInt8)=([])))) !=ah) (aD (ah,dP ((Xp.op I.2),(Xp.n I.2),(Xp.name I.2),(Xp.l I.2)))) (bcase I.1 (obind (eR (Xp.name I.2)) λZ=>(bcase (!Z) (aD (ah,dP ((Xp.op I.2),(Xp.n I.2),(Xp.name I.2),(Xp.l I.2)))) (bu (Xp.n I.2) 0 (aD (ah,dP ((Xp.op I.2),(Xp.n I.2),(Xp.name I.2),(Xp.l I.2)))) (iO (Xp.op I.2) 1 (aD ((!decide (((Xp.n I.2):Int)=0)),dP ((Xp.op I.2),(Xp.n I.2),(Xp.name I.2),(Xp.l I.2)))) (aD (ai,dP ((Xp.op I.2),(Xp.n I.2),(Xp.name I.2),(Xp.l I.2)))))))) (bu (Xp.n I.2) 0 (aD (ah,dP ((Xp.op I.2),(Xp.n I.2),(Xp.name I.2),(Xp.l I.2)))) (iO (Xp.op I.2) 1 (aD ((!decide (((Xp.n I.2):Int)=0)),dP ((Xp.op I.2),(Xp.n I.2),(Xp.name I.2),(Xp.l I.2)))) (aD (ai,dP ((Xp.op I.2),(Xp.n I.2),(Xp.name I.2),(Xp.l I.2)))))))))) λM=>(bcase M.1 (aa ai) (iter (σ:=Int×Xp) (λJ=>(bu J.1 (aN (ak (Xp.l J.2))) (bF (.ex) (Xp.l J.2) J.1 λU=>(obind (rr02_ShapedExpr U) λY=>(bcase (!Y) (aD ai) (cK ((cz J.1),dP ((Xp.op J.2),(Xp.n J.2),(Xp.name J.2),(Xp.l J.2))))))) (aD ah))) (0,dP ((Xp.op M.2),(Xp.n M.2),(Xp.name M.2),(Xp.l M.2)))))))
def gR:Nat->Xp->Option (Bool)
 |0,_=>af
 |n+1,x=>lA (gR n) x
theorem rm (n:Nat) (x:Xp):gR (n+1) x=lA (gR n) x:=rfl
def iL (x:Xp):Option (Bool):=gR fuel x
def oK (x:Xp):Option (Bool):=
 (jn (α:=Bool) (bc (Xp.op x) 0 (bc (Xp.n x) 0 (bcase (decide (((Xp.name x):List UInt8)=([]))) (aD (decide (((aN (ak (Xp.l x))):Int)=0))) (aD ai)) (aD ai)) (aD ai)) λI=>(aa I))
def jL (rr02_ShapedStmt:Sx->Option (Bool)) (rr02_ShapedStmts:(List Sx)->Option (Bool)) (x:Sx):Option (Bool):=
 (jn (α:=Bool×Sx) (bu (Sx.op x) 1 (aD (ah,dS x)) (aD ((fE 15 (Sx.op x)),dS x))) λx1=>(bcase x1.1 (aa ai) (jn (α:=Bool×Sx) (bc (Sx.op x1.2) 2 (aD (ah,dS x1.2)) (bc (Sx.op x1.2) 3 (aD (ah,dS x1.2)) (bc (Sx.op x1.2) 7 (aD (ah,dS x1.2)) (aD ((decide (((Sx.op x1.2):Int)=8)),dS x1.2))))) λY=>(jn (α:=Bool×Sx) (bcase Y.1 (bcase (!decide (((Sx.name Y.2):List UInt8)=([]))) (aD (ah,dS Y.2)) (bcase (!Y.1) (obind (eR (Sx.name Y.2)) λy4=>(aD ((!y4),dS Y.2))) (aD (ai,dS Y.2)))) (bcase (!Y.1) (obind (eR (Sx.name Y.2)) λy5=>(aD ((!y5),dS Y.2))) (aD (ai,dS Y.2)))) λU=>(bcase U.1 (aa ai) (jn (α:=Bool×Sx) (bc (Sx.op U.2) 15 (obind (eR (Sx.arg U.2)) λy7=>(bcase (!y7) (aD (ah,dS U.2)) (iO (Sx.op U.2) 15 (aD ((!decide (((Sx.arg U.2):List UInt8)=([]))),dS U.2)) (aD (ai,dS U.2))))) (iO (Sx.op U.2) 15 (aD ((!decide (((Sx.arg U.2):List UInt8)=([]))),dS U.2)) (aD (ai,dS U.2)))) λM=>(bcase M.1 (aa ai) (jn (α:=Bool×Sx) (bu 1 (aN (ak (Sx.index M.2))) (aD (ah,dS M.2)) (iO (Sx.op M.2) 1 (bu 0 (aN (ak (Sx.index M.2))) (aD (ah,dS M.2)) (bc (aN (ak (Sx.index M.2))) 1 (bF (.ex) (Sx.index M.2) 0 λz9=>(obind (iL z9) λy10=>(aD ((!y10),dS M.2)))) (aD (ai,dS M.2)))) (bc (aN (ak (Sx.index M.2))) 1 (bF (.ex) (Sx.index M.2) 0 λz11=>(obind (iL z11) λy12=>(aD ((!y12),dS M.2)))) (aD (ai,dS M.2))))) λx8=>(bcase x8.1 (aa ai) (jn (α:=Bool×Sx) (bc (Sx.op x8.2) 1 (aD (ah,dS x8.2)) (bc (Sx.op x8.2) 2 (aD (ah,dS x8.2)) (bc (Sx.op x8.2) 3 (aD (ah,dS x8.2)) (aD ((decide (((Sx.op x8.2):Int)=14)),dS x8.2))))) λI=>(jn (α:=Bool×Sx) (bcase I.1 (obind (iL (dP ((Xp.op (Sx.expr I.2)),(Xp.n (Sx.expr I.2)),(Xp.name (Sx.expr I.2)),(Xp.l (Sx.expr I.2))))) λy15=>(bcase (!y15) (aD (ah,dS I.2)) (bcase (!I.1) (obind (oK (dP ((Xp.op (Sx.expr I.2)),(Xp.n (Sx.expr I.2)),(Xp.name (Sx.expr I.2)),(Xp.l (Sx.expr I.2))))) λy16=>(aD ((!y16),dS I.2))) (aD (ai,dS I.2))))) (bcase (!I.1) (obind (oK (dP ((Xp.op (Sx.expr I.2)),(Xp.n (Sx.expr I.2)),(Xp.name (Sx.expr I.2)),(Xp.l (Sx.expr I.2))))) λy17=>(aD ((!y17),dS I.2))) (aD (ai,dS I.2)))) λZ=>(bcase Z.1 (aa ai) (jn (α:=Bool×Sx) (jg 2 (Sx.op Z.2) (aD ((cR (Sx.op Z.2) 8),dS Z.2)) (aD (ai,dS Z.2))) λJ=>(jn (α:=Bool×Sx) (bcase (!J.1) (bu 0 (aN (ak (Sx.body J.2))) (aD (ah,dS J.2)) (iO (Sx.op J.2) 2 (aD ((fE 0 (aN (ak (Sx.els J.2)))),dS J.2)) (aD (ai,dS J.2)))) (iO (Sx.op J.2) 2 (aD ((fE 0 (aN (ak (Sx.els J.2)))),dS J.2)) (aD (ai,dS J.2)))) λx19=>(bcase x19.1 (aa ai) (jn (α:=Bool) (obind (rr02_ShapedStmts (Sx.body x19.2)) λy21=>(bcase y21 (obind (rr02_ShapedStmts (Sx.els x19.2)) λy22=>(aD y22)) (aD ai))) λx20=>(aa x20)))))))))))))))))
def jd (rr02_ShapedStmt:Sx->Option (Bool)) (rr02_ShapedStmts:(List Sx)->Option (Bool)) (x:List Sx):Option (Bool):=
 (iter (σ:=Int) (λI=>(bu I (aW x) (vO I x (obind (rr02_ShapedStmt (aH (T:=.sm) x I)) λJ=>(bcase (!J) (aD ai) (cK (cz I))))) (aD ah))) 0)
mutual
def dY:Nat->Sx->Option (Bool)
 |0,_=>af
 |n+1,x=>jL (dY n) (du n) x
def du:Nat->(List Sx)->Option (Bool)
 |0,_=>af
 |n+1,x=>jd (dY n) (du n) x
end
theorem xP (n:Nat) (x:Sx):dY (n+1) x=jL (dY n) (du n) x:=rfl
theorem xi (n:Nat) (x:List Sx):du (n+1) x=jd (dY n) (du n) x:=rfl
def m7 (x:List Sx):Option (Bool):=du fuel x
def jJ (x:Int×Int×(List UInt8)×Int×Int×List UInt8):Option (Bool):=
 (jn (α:=Bool×Int×Int×(List UInt8)×Int×Int×List UInt8) (bu x.1 1 (aD (ah,x)) (bu 6 x.1 (aD (ah,x)) (obind (eR x.p2) λU=>(bcase (!U) (aD (ah,x)) (bu x.p3 0 (aD (ah,x)) (iO x.1 1 (aD ((!decide ((x.p3:Int)=0)),x)) (aD (ai,x)))))))) λI=>(bcase I.1 (aa ai) (jn (α:=Bool×Int×Int×(List UInt8)×Int×Int×List UInt8) (bc I.2.1 5 (obind (eR I.q6) λM=>(bcase (!M) (aD (ah,I.2)) (iO I.2.1 5 (aD ((!decide ((I.q6:List UInt8)=([]))),I.2)) (aD (ai,I.2))))) (iO I.2.1 5 (aD ((!decide ((I.q6:List UInt8)=([]))),I.2)) (aD (ai,I.2)))) λJ=>(bcase J.1 (aa ai) (jn (α:=Bool) (bu (-9223372036854775808) J.p5 (bc J.p5 0 (aD ah) (bc J.2.1 1 (aD ah) (aD (decide ((J.2.1:Int)=2))))) (aD ai)) λY=>(aa Y))))))
def oZ (x:qY×List qX):Option (Bool):=
 (iter (σ:=Int×qY×List qX) (λM=>(bu M.1 (aW M.2.1) (bF Fe M.2.1 M.1 λz2=>(obind (jJ z2) λy3=>(bcase (!y3) (aD ai) (cK ((cz M.1),M.2))))) (obind (iter (σ:=Int×qY×List qX) (λJ=>(bu J.1 (aW J.2.2) (bF rN J.2.2 J.1 λz5=>(iter (σ:=Int×(qY×List qX)×(List UInt8)×Int×b9×List Sx) (λI=>(bu I.1 (aW I.p4) (bF (.str) I.p4 I.1 λz7=>(obind (eR z7) λy8=>(bcase (!y8) (aD (bS ai)) (cK ((cz I.1),I.2))))) (obind (jn (α:=Bool×qY×List qX) (obind (eR I.p2) λY=>(bcase (!Y) (aD (ah,I.2.1)) (obind (m7 I.q5) λU=>(aD ((!U),I.2.1))))) λZ=>(bcase Z.1 (aD ai) (cK ((cz J.1),Z.2)))) λr=>aa (bS r)))) (0,J.2,z5))) (aD (fE 0 (aW J.2.2))))) (0,M.2)) λr=>aa (bS r)))) (0,x))
def iH (x:b9×List UInt8):Option (Int):=
 (iter (σ:=Int) (λI=>(bu I (aW x.1) (bF (.str) x.1 I λJ=>(bcase (decide ((J:List UInt8)=x.2)) (aD I) (cK (cz I)))) (aD (-1)))) 0)
def gQ (x:qY×List UInt8):Option (Int):=
 (iter (σ:=Int) (λI=>(bu I (aW x.1) (bF Fe x.1 I λJ=>(bcase (decide ((J.2.2.1:List UInt8)=x.2)) (aD I) (cK (cz I)))) (aD (-1)))) 0)
def gC (x:(List qX)×List UInt8):Option (Int):=
 (iter (σ:=Int) (λI=>(bu I (aW x.1) (bF rN x.1 I λJ=>(bcase (decide ((J.1:List UInt8)=x.2)) (aD I) (cK (cz I)))) (aD (-1)))) 0)
def oY (x:(qY×List qX)×Int×List UInt8):Option (Int):=
 (jn (α:=Bool×qY×List qX) (jg 0 x.2.1 (bu x.2.1 (aW x.1.2) (bF rN x.1.2 x.2.1 λz2=>(obind (iH (z2.2.2.1,x.2.2)) λy3=>(aD ((cR 0 y3),x.1)))) (aD (ai,x.1))) (aD (ai,x.1))) λI=>(bcase I.1 (aa 8) (obind (gQ (I.2.1,x.2.2)) λM=>(bu M 0 (obind (gC (I.2.2,x.2.2)) λy5=>(jg 0 y5 (aa 7) (aa 0))) (vO M I.2.1 (lt ((aH (T:=Fe) I.2.1 M).1) λJ=>(bc J 1 (bF Fe I.2.1 M λZ=>(iO Z.2.2.2.1 0 (aa 2) (aa 1))) (bc J 2 (aa 1) (jn (α:=Bool×qY×List qX) (bc J 3 (aD ((decide ((J:Int)=3)),I.2)) (bc J 4 (aD ((decide ((J:Int)=4)),I.2)) (bc J 5 (aD ((decide ((J:Int)=5)),I.2)) (aD ((decide ((J:Int)=6)),I.2))))) λU=>(bcase U.1 (bF Fe U.2.1 M λY=>(aa Y.1)) (aa 9)))))))))))
def gj (x:(qY×List qX)×Int×(List UInt8)×Int×Int):Option (Int):=
 (obind (oY (x.1,x.2.1,x.p2)) λI=>(bc I 0 (aa 5) (jn (α:=Bool) (iO I x.p3 (aD (!decide ((I:Int)=x.q4))) (aD ai)) λJ=>(bcase J (aa 6) (aa 0)))))
def s8 (rr04_Nodes:Xp->Option (Int×Int)) (x:Xp):Option (Int×Int):=
 (iter (σ:=(Int×Int×Int)×Xp) (λI=>(bu I.1.2.2 (aN (ak (Xp.l I.2))) (bF (.ex) (Xp.l I.2) I.1.2.2 λM=>(obind (rr04_Nodes M) λJ=>(cK (((bg .i64 (I.1.1+J.1)),(jZ I.1.2.1 J.2),(cz I.1.2.2)),dP ((Xp.op I.2),(Xp.n I.2),(Xp.name I.2),(Xp.l I.2)))))) (aD (I.1.1,(cz I.1.2.1))))) ((1,0,0),dP ((Xp.op x),(Xp.n x),(Xp.name x),(Xp.l x))))
def mK:Nat->Xp->Option (Int×Int)
 |0,_=>af
 |n+1,x=>s8 (mK n) x
theorem wR (n:Nat) (x:Xp):mK (n+1) x=s8 (mK n) x:=rfl
def Ar (x:Xp):Option (Int×Int):=mK fuel x
def s7 (rr04_names:((qY×List qX)×Int×Xp)->Option (Int)) (x:(qY×List qX)×Int×Xp):Option (Int):=
 (jn (α:=Int×(qY×List qX)×Xp) (bc (Xp.op x.2.2) 2 (obind (gj (x.1,x.2.1,(Xp.name x.2.2),8,1)) λy2=>(aD (y2,x.1,dP ((Xp.op x.2.2),(Xp.n x.2.2),(Xp.name x.2.2),(Xp.l x.2.2))))) (bc (Xp.op x.2.2) 3 (obind (gj (x.1,x.2.1,(Xp.name x.2.2),2,2)) λZ=>(aD (Z,x.1,dP ((Xp.op x.2.2),(Xp.n x.2.2),(Xp.name x.2.2),(Xp.l x.2.2))))) (aD (0,x.1,dP ((Xp.op x.2.2),(Xp.n x.2.2),(Xp.name x.2.2),(Xp.l x.2.2)))))) λM=>(iter (σ:=(Int×Int)×(qY×List qX)×Xp) (λI=>(jn (α:=Bool×(qY×List qX)×Xp) (bu I.1.2 (aN (ak (Xp.l I.2.2))) (aD ((decide ((I.1.1:Int)=0)),I.2.1,dP ((Xp.op I.2.2),(Xp.n I.2.2),(Xp.name I.2.2),(Xp.l I.2.2)))) (aD (ai,I.2.1,dP ((Xp.op I.2.2),(Xp.n I.2.2),(Xp.name I.2.2),(Xp.l I.2.2))))) λJ=>(bcase J.1 (bF (.ex) (Xp.l J.2.2) I.1.2 λU=>(obind (rr04_names (J.2.1,x.2.1,U)) λY=>(cK ((Y,(cz I.1.2)),J.2.1,dP ((Xp.op J.2.2),(Xp.n J.2.2),(Xp.name J.2.2),(Xp.l J.2.2)))))) (aD I.1.1)))) ((M.1,0),M.2.1,dP ((Xp.op M.2.2),(Xp.n M.2.2),(Xp.name M.2.2),(Xp.l M.2.2)))))
def mJ:Nat->((qY×List qX)×Int×Xp)->Option (Int)
 |0,_=>af
 |n+1,x=>s7 (mJ n) x
theorem wQ (n:Nat) (x:(qY×List qX)×Int×Xp):mJ (n+1) x=s7 (mJ n) x:=rfl
def Aq (x:(qY×List qX)×Int×Xp):Option (Int):=mJ fuel x
def lK (x:(qY×List qX)×Int×Xp):Option (Int):=
 (obind (iL (dP ((Xp.op x.2.2),(Xp.n x.2.2),(Xp.name x.2.2),(Xp.l x.2.2)))) λU=>(bcase (!U) (aa 3) (obind (Ar (dP ((Xp.op x.2.2),(Xp.n x.2.2),(Xp.name x.2.2),(Xp.l x.2.2)))) λJ=>(jn (α:=Bool×(qY×List qX)×Xp) (bu 24 J.1 (aD (ah,x.1,dP ((Xp.op x.2.2),(Xp.n x.2.2),(Xp.name x.2.2),(Xp.l x.2.2)))) (aD ((fE 6 J.2),x.1,dP ((Xp.op x.2.2),(Xp.n x.2.2),(Xp.name x.2.2),(Xp.l x.2.2))))) λI=>(bcase I.1 (aa 2) (obind (Aq (I.2.1,x.2.1,dP ((Xp.op I.2.2),(Xp.n I.2.2),(Xp.name I.2.2),(Xp.l I.2.2)))) λM=>(aa M)))))))
def cS (x:Bool):Option (Int):=
 (bcase x (aa 7) (aa 0))
def iG (x:Int×Int):Option (Int):=
 (iO x.1 0 (aa x.1) (aa x.2))
def dJ (x:(Int×Int×List UInt8)×pY×(Bool×List Sx)×b9×List (List UInt8)):Option (Bool×pY×(Bool×List Sx)×b9×List (List UInt8)):=
 (iter (σ:=Int×pY×(Bool×List Sx)×b9×List (List UInt8)) (λI=>(bu I.1 (aW I.p2.2) (kK (.sm) I.p2.2 I.1 λJ=>(jn (α:=Bool×pY×(Bool×List Sx)×b9×List (List UInt8)) (bc (Sx.op J) x.1.1 (bcase (decide ((x.1.2.2:List UInt8)=([]))) (aD (ah,I.2)) (aD ((decide (((Sx.name J):List UInt8)=x.1.2.2)),I.2))) (bc (Sx.op J) x.1.2.1 (bcase (decide ((x.1.2.2:List UInt8)=([]))) (aD (ah,I.2)) (aD ((decide (((Sx.name J):List UInt8)=x.1.2.2)),I.2))) (aD (ai,I.2)))) λM=>(bcase M.1 (aD (ah,M.2)) (cK ((cz I.1),M.2))))) (aD (ai,I.2)))) (0,x.2))
def lJ (x:Sx×pY×(Bool×List Sx)×b9×List (List UInt8)):Option (Int×pY×(Bool×List Sx)×b9×List (List UInt8)):=
 (obind (dJ ((7,7,[]),x.2)) λy1=>(bD (aA (ak x.q4) (ak y1.q4)&&(aA (ak x.p3) (ak y1.p3)&&(((x.p2.1==y1.p2.1)&&ah)&&aA (ak x.p2.2) (ak y1.p2.2)&&ah))) (obind (dJ ((8,8,[]),y1.2)) λy2=>(bD (aA (ak y1.q4) (ak y2.q4)&&(aA (ak y1.p3) (ak y2.p3)&&(((y1.p2.1==y2.p2.1)&&ah)&&aA (ak y1.p2.2) (ak y2.p2.2)&&ah))) (obind (dJ ((3,3,[]),y2.2)) λy3=>(bD (aA (ak y2.q4) (ak y3.q4)&&(aA (ak y2.p3) (ak y3.p3)&&(((y2.p2.1==y3.p2.1)&&ah)&&aA (ak y2.p2.2) (ak y3.p2.2)&&ah))) (bc (Sx.op x.1) 1 (bc (aN (ak (Sx.index x.1))) 0 (obind (gj ((x.2.1.1,x.2.1.2.1),x.2.1.2.2,(Sx.name x.1),8,1)) λy4=>(obind (lK ((x.2.1.1,x.2.1.2.1),x.2.1.2.2,dP ((Xp.op (Sx.expr x.1)),(Xp.n (Sx.expr x.1)),(Xp.name (Sx.expr x.1)),(Xp.l (Sx.expr x.1))))) λy5=>(obind (iG (y4,y5)) λy6=>(aa (y6,y3.2))))) (obind (gj ((x.2.1.1,x.2.1.2.1),x.2.1.2.2,(Sx.name x.1),2,2)) λy7=>(bF (.ex) (Sx.index x.1) 0 λz8=>(obind (lK ((x.2.1.1,x.2.1.2.1),x.2.1.2.2,z8)) λy9=>(obind (lK ((x.2.1.1,x.2.1.2.1),x.2.1.2.2,dP ((Xp.op (Sx.expr x.1)),(Xp.n (Sx.expr x.1)),(Xp.name (Sx.expr x.1)),(Xp.l (Sx.expr x.1))))) λy10=>(obind (iG (y9,y10)) λy11=>(obind (iG (y7,y11)) λy12=>(aa (y12,y3.2))))))))) (jn (α:=Bool×pY×(Bool×List Sx)×Sx×(qY×List qX)×b9×List (List UInt8)) (bc (Sx.op x.1) 2 (aD ((decide (((Sx.op x.1):Int)=2)),y3.2.1,y3.p2,dS x.1,(x.2.1.1,x.2.1.2.1),y3.q3)) (aD ((decide (((Sx.op x.1):Int)=3)),y3.2.1,y3.p2,dS x.1,(x.2.1.1,x.2.1.2.1),y3.q3))) λM=>(bcase M.1 (obind (lK (M.p4,x.2.1.2.2,dP ((Xp.op (Sx.expr M.p3)),(Xp.n (Sx.expr M.p3)),(Xp.name (Sx.expr M.p3)),(Xp.l (Sx.expr M.p3))))) λy14=>(aa (y14,M.2.1,M.p2,M.q5))) (bc (Sx.op x.1) 4 (jn (α:=Int×pY×(Bool×List Sx)×b9×List (List UInt8)) (obind (gj (M.p4,x.2.1.2.2,(Sx.name M.p3),3,3)) λy16=>(bcase y1.1 (obind (cS ah) λy17=>(obind (iG (y16,y17)) λy18=>(aD (y18,M.2.1,M.p2,M.q5)))) (obind (dJ ((4,4,(Sx.name M.p3)),M.2.1,M.p2,M.q5)) λy19=>(bD (aA (ak M.q6) (ak y19.q4)&&(aA (ak M.p5) (ak y19.p3)&&(((M.p2.1==y19.p2.1)&&ah)&&aA (ak M.p2.2) (ak y19.p2.2)&&ah))) (obind (cS y19.1) λy20=>(obind (iG (y16,y20)) λy21=>(aD (y21,y19.2)))))))) λx15=>(aa x15)) (jn (α:=Bool×pY×(Bool×List Sx)×Sx×(qY×List qX)×b9×List (List UInt8)) (bc (Sx.op x.1) 5 (aD ((decide (((Sx.op x.1):Int)=5)),M.2.1,M.p2,dS M.p3,M.q4)) (aD ((decide (((Sx.op x.1):Int)=6)),M.2.1,M.p2,dS M.p3,M.q4))) λJ=>(bcase J.1 (jn (α:=Int×pY×(Bool×List Sx)×b9×List (List UInt8)) (obind (gj (J.p4,x.2.1.2.2,(Sx.name J.p3),4,4)) λy24=>(bcase y1.1 (obind (cS ah) λy25=>(obind (iG (y24,y25)) λy26=>(aD (y26,J.2.1,J.p2,J.q5)))) (obind (dJ ((5,6,(Sx.name J.p3)),J.2.1,J.p2,J.q5)) λy27=>(bD (aA (ak J.q6) (ak y27.q4)&&(aA (ak J.p5) (ak y27.p3)&&(((J.p2.1==y27.p2.1)&&ah)&&aA (ak J.p2.2) (ak y27.p2.2)&&ah))) (obind (cS y27.1) λy28=>(obind (iG (y24,y28)) λy29=>(aD (y29,y27.2)))))))) λx23=>(aa x23)) (bc (Sx.op x.1) 7 (obind (cS y1.1) λy30=>(aa (y30,J.2.1,J.p2,J.q5))) (bc (Sx.op x.1) 8 (jn (α:=Int×pY×(Bool×List Sx)×b9×List (List UInt8)) (bcase y1.1 (obind (cS ah) λy32=>(aD (y32,J.2.1,J.p2,J.q5))) (obind (cS y2.1) λy33=>(aD (y33,J.2.1,J.p2,J.q5)))) λx31=>(aa x31)) (jn (α:=Bool×pY×(Bool×List Sx)×Sx×(qY×List qX)×b9×List (List UInt8)) (bc (Sx.op x.1) 9 (aD ((decide (((Sx.op x.1):Int)=9)),J.2.1,J.p2,dS J.p3,J.q4)) (bc (Sx.op x.1) 10 (aD ((decide (((Sx.op x.1):Int)=10)),J.2.1,J.p2,dS J.p3,J.q4)) (aD ((decide (((Sx.op x.1):Int)=11)),J.2.1,J.p2,dS J.p3,J.q4)))) λI=>(bcase I.1 (obind (gj (I.p4,x.2.1.2.2,(Sx.name I.p3),5,5)) λy35=>(iO y35 0 (aa (y35,I.2.1,I.p2,I.q5)) (obind (gQ (I.p4.1,(Sx.name I.p3))) λy36=>(bF Fe I.p4.1 y36 λz37=>(obind (dJ ((4,4,z37.2.2.2.2.2),I.2.1,I.p2,I.q5)) λy38=>(bD (aA (ak I.q6) (ak y38.q4)&&(aA (ak I.p5) (ak y38.p3)&&(((I.p2.1==y38.p2.1)&&ah)&&aA (ak I.p2.2) (ak y38.p2.2)&&ah))) (jn (α:=Int×pY×(Bool×List Sx)×b9×List (List UInt8)) (bcase y1.1 (obind (cS ah) λy40=>(aD (y40,y38.2))) (bcase (!y38.1) (obind (cS ah) λy41=>(aD (y41,y38.2))) (bc (Sx.op I.p3) 9 (obind (cS y2.1) λy42=>(aD (y42,y38.2))) (obind (cS ai) λy43=>(aD (y43,y38.2)))))) λx39=>(aa x39)))))))) (bc (Sx.op x.1) 12 (obind (gj (I.p4,x.2.1.2.2,(Sx.name I.p3),7,7)) λy44=>(iO y44 0 (aa (y44,I.2.1,I.p2,I.q5)) (obind (gC (I.p4.2,(Sx.name I.p3))) λy45=>(jn (α:=Bool×pY×(Bool×List Sx)×Sx×b9×List (List UInt8)) (bcase y1.1 (aD (ah,I.2.1,I.p2,dS I.p3,I.q5)) (bcase y2.1 (aD (ah,I.2.1,I.p2,dS I.p3,I.q5)) (bcase y3.1 (aD (ah,I.2.1,I.p2,dS I.p3,I.q5)) (bc y45 x.2.1.2.2 (aD (ah,I.2.1,I.p2,dS I.p3,I.q5)) (aD ((decide ((y45:Int)=0)),I.2.1,I.p2,dS I.p3,I.q5)))))) λU=>(bcase U.1 (aa (7,U.2.1,U.p2,U.q4)) (obind (iH (U.p4,(Sx.name U.p3))) λy47=>(jg 0 y47 (aa (8,U.2.1,U.p2,U.q4)) (bD (a_ (ak U.p4+ak ([(Sx.name U.p3)])) 16) (aa (0,U.2.1,U.p2,(U.p4++([(Sx.name U.p3)])),U.q5)))))))))) (bc (Sx.op x.1) 13 (jn (α:=Int×pY×(Bool×List Sx)×b9×List (List UInt8)) (obind (gj (I.p4,x.2.1.2.2,(Sx.name I.p3),7,7)) λy49=>(bcase y1.1 (obind (cS ah) λy50=>(obind (iG (y49,y50)) λy51=>(aD (y51,I.2.1,I.p2,I.q5)))) (bcase y2.1 (obind (cS ah) λy52=>(obind (iG (y49,y52)) λy53=>(aD (y53,I.2.1,I.p2,I.q5)))) (obind (gC (I.p4.2,(Sx.name I.p3))) λy54=>(obind (cS (decide ((y54:Int)=x.2.1.2.2))) λy55=>(obind (iG (y49,y55)) λy56=>(aD (y56,I.2.1,I.p2,I.q5)))))))) λx48=>(aa x48)) (bc (Sx.op x.1) 14 (jn (α:=Int×pY×(Bool×List Sx)×Sx×(qY×List qX)×b9×List (List UInt8)) (obind (gj (I.p4,x.2.1.2.2,(Sx.name I.p3),6,6)) λy58=>(bcase y1.1 (obind (cS ah) λy59=>(obind (iG (y58,y59)) λy60=>(aD (y60,I.2.1,I.p2,dS I.p3,I.q4)))) (obind (cS y3.1) λy61=>(obind (iG (y58,y61)) λy62=>(aD (y62,I.2.1,I.p2,dS I.p3,I.q4)))))) λZ=>(jn (α:=Int×pY×(Bool×List Sx)×Sx×(qY×List qX)×b9×List (List UInt8)) (jn (α:=Bool×pY×(Bool×List Sx)×Sx×(qY×List qX)×b9×List (List UInt8)) (bc Z.1 0 (obind (iH (Z.q6,(Sx.name Z.p3))) λy65=>(aD ((cR 0 y65),Z.2.1,Z.p2,dS Z.p3,Z.q4))) (aD (ai,Z.2.1,Z.p2,dS Z.p3,Z.q4))) λx64=>(bcase x64.1 (aD (8,x64.2.1,x64.p2,dS x64.p3,x64.q4)) (aD (Z.1,x64.2.1,x64.p2,dS x64.p3,x64.q4)))) λY=>(bD (a_ (ak Y.q6+ak ([(Sx.name Y.p3)])) 16) (obind (lK (Y.p4,x.2.1.2.2,dP ((Xp.op (Sx.expr Y.p3)),(Xp.n (Sx.expr Y.p3)),(Xp.name (Sx.expr Y.p3)),(Xp.l (Sx.expr Y.p3))))) λy66=>(obind (iG (Y.1,y66)) λy67=>(aa (y67,Y.2.1,Y.p2,Y.p5,(Y.q6++([(Sx.name Y.p3)]))))))))) (obind (gj (I.p4,x.2.1.2.2,(Sx.name I.p3),8,8)) λy68=>(obind (gj (I.p4,x.2.1.2.2,(Sx.arg I.p3),6,6)) λy69=>(obind (cS y1.1) λy70=>(obind (iG (y69,y70)) λy71=>(obind (iG (y68,y71)) λy72=>(aa (y72,I.2.1,I.p2,I.q5))))))))))))))))))))))))))
def lQ (rr04_walk_all:((List Sx)×pY×(Bool×List Sx)×b9×List (List UInt8))->Option ab4) (x:(List Sx)×pY×(Bool×List Sx)×b9×List (List UInt8)):Option ab4:=
 (iter (σ:=Int×pY×(Bool×List Sx)×b9×List (List UInt8)) (λU=>(bu U.1 (aW x.1) (bF (.sm) x.1 U.1 λZ=>(obind (lJ (dS Z,U.2)) λY=>(bD (aA (ak U.q4) (ak U.q4)&&(aA (ak U.p3) (ak U.p3)&&(((U.p2.1==Y.p2.1)&&ah)&&aA (ak U.p2.2) (ak Y.p2.2)&&ah))) (jn (α:=Int×pY×Sx×(Bool×List Sx)×b9×List (List UInt8)) (bu 6 (bg .i64 ((aW Y.p2.2)+1)) (aD (2,Y.2.1,dS Z,Y.2.2)) (aD (Y.1,Y.2.1,dS Z,Y.2.2))) λI=>(iO I.1 0 (aD ((I.1,(Sx.line I.p2)),I.2.1,I.q3)) (bD (a_ (ak I.p3.2+ak ([m_ (0,0,[],[],([]:List Xp),dP (0,0,[],([]:List Xp)),([]:List Sx),([]:List Sx))])) 176) (ck (fB (aW I.p3.2) (ak (I.p3.2++([m_ (0,0,[],[],([]:List Xp),dP (0,0,[],([]:List Xp)),([]:List Sx),([]:List Sx))])))) (obind (rr04_walk_all ((Sx.body I.p2),I.2.1,(I.p3.1,(cJ (I.p3.2++([m_ (0,0,[],[],([]:List Xp),dP (0,0,[],([]:List Xp)),([]:List Sx),([]:List Sx))])) (aW I.p3.2) (dS I.p2))),I.q4)) λM=>(bD (aA (ak I.q5) (ak I.q5)&&(aA (ak I.p4) (ak I.p4)&&(((I.p3.1==I.p3.1)&&ah)&&aA (ak (cJ (I.p3.2++([m_ (0,0,[],[],([]:List Xp),dP (0,0,[],([]:List Xp)),([]:List Sx),([]:List Sx))])) (aW I.p3.2) (dS I.p2))) (ak (cJ (I.p3.2++([m_ (0,0,[],[],([]:List Xp),dP (0,0,[],([]:List Xp)),([]:List Sx),([]:List Sx))])) (aW I.p3.2) (dS I.p2)))&&ah))) (jn (α:=(Int×Int)×pY×(Bool×List Sx)×b9×List (List UInt8)) (bc M.1.1 0 (obind (rr04_walk_all ((Sx.els I.p2),M.2)) λy7=>(bD (aA (ak M.q4) (ak M.q4)&&(aA (ak M.p3) (ak M.p3)&&(((M.p2.1==M.p2.1)&&ah)&&aA (ak M.p2.2) (ak M.p2.2)&&ah))) (aD y7))) (aD M)) λJ=>(bD (cR 0 (bg .i64 ((aW J.p2.2)-1))&&fE (bg .i64 ((aW J.p2.2)-1)) (ak J.p2.2)) (iO J.1.1 0 (aD (J.1,J.2.1,(ai,(dE (aS (bg .i64 ((aW J.p2.2)-1))) J.p2.2)),J.q3)) (cK ((cz U.1),J.2.1,(ai,(dE (aS (bg .i64 ((aW J.p2.2)-1))) J.p2.2)),J.q3)))))))))))))) (aD ((0,0),U.2)))) (0,x.2))
def ij:Nat->((List Sx)×pY×(Bool×List Sx)×b9×List (List UInt8))->Option ab4
 |0,_=>af
 |n+1,x=>lQ (ij n) x
theorem AD (n:Nat) (x:(List Sx)×pY×(Bool×List Sx)×b9×List (List UInt8)):ij (n+1) x=lQ (ij n) x:=rfl
def ut (x:(List Sx)×pY×(Bool×List Sx)×b9×List (List UInt8)):Option ab4:=ij fuel x
def s9 (rr04_Count:(List Sx)->Option (Int)) (x:List Sx):Option (Int):=
 (iter (σ:=Int×Int) (λI=>(bu I.2 (aW x) (vO I.2 x (lt (Sx.body (aH (T:=.sm) x I.2)) λM=>(obind (rr04_Count M) λY=>(vO I.2 x (lt (Sx.els (aH (T:=.sm) x I.2)) λJ=>(obind (rr04_Count J) λU=>(cK ((bg .i64 ((bg .i64 (I.1+Y))+U)),(cz I.2))))))))) (aD I.1))) ((aW x),0))
def mL:Nat->(List Sx)->Option (Int)
 |0,_=>af
 |n+1,x=>s9 (mL n) x
theorem wS (n:Nat) (x:List Sx):mL (n+1) x=s9 (mL n) x:=rfl
def As (x:List Sx):Option (Int):=mL fuel x
def qp (x:List Y1):Option (Int×Int):=
 (iter (σ:=Int×Int×Int×Int×Int) (λI=>(bu I.q4 (aW x) (jn (α:=Int×Int×Int×Int) (bF Fe x I.q4 λJ=>(bD (cR 0 I.q4&&cR I.q4 (ak x)) (obind (gQ ((dE (aS I.q4) x),J.p2)) λy4=>(jg 0 y4 (cK (bS (4,J.2.1))) (bu 4 J.p3 (cK (bS (2,J.2.1))) (jn (α:=(Int×Int×Int×Int)×Int×Int×(List UInt8)×Int×Int×List UInt8) (jn (α:=Bool×Int×Int×(List UInt8)×Int×Int×List UInt8) (bc J.1 1 (aD ((decide ((J.1:Int)=1)),J)) (aD ((decide ((J.1:Int)=2)),J))) λY=>(bcase Y.1 (aD (((bg .i64 (I.1+(jZ Y.p4 1))),I.2.1,I.p2,I.p3),Y.2)) (jn (α:=Bool×Int×Int×(List UInt8)×Int×Int×List UInt8) (bc J.1 3 (aD ((decide ((J.1:Int)=3)),Y.2)) (aD ((decide ((J.1:Int)=4)),Y.2))) λZ=>(bcase Z.1 (aD ((I.1,(cz I.2.1),I.p2,I.p3),Z.2)) (bc J.1 5 (aD ((I.1,I.2.1,(cz I.p2),I.p3),Z.2)) (aD ((I.1,I.2.1,I.p2,(cz I.p3)),Z.2))))))) λM=>(jn (α:=Bool×Int×Int×(List UInt8)×Int×Int×List UInt8) (bu 12 M.1.1 (aD (ah,M.2)) (bu 4 M.1.2.1 (aD (ah,M.2)) (bu 2 M.1.p2 (aD (ah,M.2)) (aD ((fE 2 M.1.q3),M.2))))) λU=>(bcase U.1 (cK (bS (2,U.p2))) (bc U.2.1 5 (bD (cR 0 I.q4&&cR I.q4 (ak x)) (obind (gQ ((dE (aS I.q4) x),U.q6)) λy9=>(bu y9 0 (cK (bS (5,U.p2))) (bF Fe x y9 λz10=>(iO z10.1 3 (cK (bS (6,U.p2))) (aD M.1)))))) (aD M.1)))))))))) λx2=>(cK (x2.1,x2.2.1,x2.p2,x2.q3,(cz I.q4)))) (aD (0,0)))) (0,0,0,0,0))
def m6 (x:qY×List qX):Option (Int×Int):=
 (iter (σ:=Int×qY×List qX) (λJ=>(bu J.1 (aW J.2.2) (bF rN J.2.2 J.1 λY=>(jn (α:=Bool×(qY×List qX)×(List UInt8)×Int×b9×List Sx) (obind (gQ (J.2.1,Y.1)) λy4=>(jg 0 y4 (aD (ah,J.2,Y)) (bD (cR 0 J.1&&cR J.1 (ak J.2.2)) (obind (gC ((dE (aS J.1) J.2.2),Y.1)) λy5=>(aD ((cR 0 y5),J.2,Y)))))) λx3=>(bcase x3.1 (aD (4,x3.p3)) (cK ((cz J.1),x3.2.1))))) (obind (iter (σ:=Int×qY×List qX) (λU=>(bu U.1 (aW U.2.2) (bF rN U.2.2 U.1 λz7=>(bu 4 (aW z7.p2) (aD (2,z7.2.1)) (iter (σ:=Int×(qY×List qX)×(List UInt8)×Int×b9×List Sx) (λI=>(bu I.1 (aW I.p4) (bF (.str) I.p4 I.1 λZ=>(jn (α:=Bool×(qY×List qX)×(List UInt8)×Int×b9×List Sx) (obind (gQ (I.2.1.1,Z)) λy11=>(jg 0 y11 (aD (ah,I.2)) (obind (gC (I.2.1.2,Z)) λy12=>(jg 0 y12 (aD (ah,I.2)) (bD (cR 0 I.1&&cR I.1 (ak I.p4)) (obind (iH ((dE (aS I.1) I.p4),Z)) λy13=>(aD ((cR 0 y13),I.2)))))))) λM=>(bcase M.1 (aD (bS (4,M.p3))) (cK ((cz I.1),M.2))))) (aD (lX ((cz U.1),I.2.1))))) (0,U.2,z7)))) (aD (0,0)))) (0,J.2)) λr=>aa (bS r)))) (0,x))
def eV (x:qY×List qX):Option (Int×Int):=
 (obind (oZ x) λy1=>(bcase (!y1) (aa (3,0)) (obind (qp x.1) λY=>(iO Y.1 0 (aa Y) (bu 4 (aW x.2) (aa (2,0)) (obind (m6 x) λU=>(iO U.1 0 (aa U) (iter (σ:=(Int×Int)×qY×List qX) (λJ=>(bu J.1.2 (aW J.2.2) (bF rN J.2.2 J.1.2 λz5=>(obind (As z5.2.2.2) λy6=>(cK (((bg .i64 (J.1.1+y6)),(cz J.1.2)),J.2)))) (obind (bu 60 J.1.1 (aa (2,0)) (iter (σ:=Int×(qY×List qX)×pY×(Bool×List Sx)×b9×List (List UInt8)) (λI=>(bu I.1 (aW I.2.1.2) (bF rN I.2.1.2 I.1 λZ=>(obind (ut (Z.2.2.2,(I.p2.1,I.p2.2.1,I.1),I.q3)) λM=>(bD (aA (ak I.q5) (ak I.q5)&&(aA (ak I.p4) (ak I.p4)&&(((I.p3.1==I.p3.1)&&ah)&&aA (ak I.p3.2) (ak I.p3.2)&&ah))) (iO M.1.1 0 (aD M.1) (cK ((cz I.1),I.2.1,M.2)))))) (aD (0,0)))) (0,J.2,(J.2.1,J.2.2,0),(ah,([]:List Sx)),([]:List (List UInt8)),([]:List (List UInt8))))) λr=>aa (bS r)))) ((0,0),x)))))))))
def v9 (rr06_sites:((Int×Int×List Sx)×List (Int×Int×Int))->Option (Int×List (Int×Int×Int))) (x:(Int×Int×List Sx)×List (Int×Int×Int)):Option (Int×List (Int×Int×Int)):=
 (iter (σ:=(Int×Int)×List (Int×Int×Int)) (λI=>(bu I.1.2 (aW x.1.2.2) (vO I.1.2 x.1.2.2 (lt (Sx.line (aH (T:=.sm) x.1.2.2 I.1.2)) λJ=>(bD (a_ (ak I.2+ak ([(x.1.1,I.1.1,J)])) 24) (vO I.1.2 x.1.2.2 (lt (Sx.body (aH (T:=.sm) x.1.2.2 I.1.2)) λZ=>(obind (rr06_sites ((x.1.1,(cz I.1.1),Z),(I.2++([(x.1.1,I.1.1,J)])))) λM=>(bD (aA (ak (I.2++([(x.1.1,I.1.1,J)]))) (ak (I.2++([(x.1.1,I.1.1,J)])))&&ah) (vO I.1.2 x.1.2.2 (lt (Sx.els (aH (T:=.sm) x.1.2.2 I.1.2)) λY=>(obind (rr06_sites ((x.1.1,M.1,Y),M.2)) λU=>(bD (aA (ak M.2) (ak M.2)&&ah) (cK ((U.1,(cz I.1.2)),U.2))))))))))))) (aD (I.1.1,I.2)))) ((x.1.2.1,0),x.2))
def oR:Nat->((Int×Int×List Sx)×List (Int×Int×Int))->Option (Int×List (Int×Int×Int))
 |0,_=>af
 |n+1,x=>v9 (oR n) x
theorem Fx (n:Nat) (x:(Int×Int×List Sx)×List (Int×Int×Int)):oR (n+1) x=v9 (oR n) x:=rfl
def G1 (x:(Int×Int×List Sx)×List (Int×Int×Int)):Option (Int×List (Int×Int×Int)):=oR fuel x
def jP (x:gp×List UInt8):Option (Int):=
 (iter (σ:=Int) (λI=>(bu I (aW x.1) (bF pZ x.1 I λJ=>(bcase (decide ((J.1:List UInt8)=x.2)) (aD I) (cK (cz I)))) (aD (-1)))) 0)
def kN (x:dF×List UInt8):Option (Int):=
 (iter (σ:=Int×gI×gp×(List eW)×b9×b9×List (Int×Int×Int)) (λI=>(bu I.1 (aW I.2.1) (bF j_ I.2.1 I.1 λJ=>(bcase (decide ((J.1:List UInt8)=x.2)) (aD I.1) (cK ((cz I.1),I.2)))) (aD (-1)))) (0,x.1))
def sT (x:qY×List qX):Option dF:=
 (obind (eV x) λy1=>(iO y1.1 0 (aa (([]:List Qr),([]:List ((List UInt8)×Bool)),([]:List eW),([]:List (List UInt8)),([]:List (List UInt8)),([]:List (Int×Int×Int)))) (iter (σ:=Int×(qY×List qX)×gI×gp×(List eW)×List (List UInt8)) (λU=>(bu U.1 (aW U.2.1.1) (bF Fe U.2.1.1 U.1 λY=>(jn (α:=(qY×List qX)×gI×gp×(List eW)×List (List UInt8)) (jn (α:=Bool×(qY×List qX)×Y1×gI×gp×(List eW)×List (List UInt8)) (bc Y.1 1 (aD ((decide ((Y.1:Int)=1)),U.2.1,Y,U.2.2)) (aD ((decide ((Y.1:Int)=2)),U.2.1,Y,U.2.2))) λx5=>(bcase x5.1 (iter (σ:=Int×(qY×List qX)×Y1×gI×gp×(List eW)×List (List UInt8)) (λJ=>(bu J.1 (jZ J.p2.p3 1) (bD (a_ (ak J.p3+ak ([(J.p2.p2,J.1,J.p2.p3,(decide ((J.p2.1:Int)=2)),J.p2.p4)])) 48) (cK ((cz J.1),J.2.1,J.p2,(J.p3++([(J.p2.p2,J.1,J.p2.p3,(decide ((J.p2.1:Int)=2)),J.p2.p4)])),J.q4))) (aD (bS (J.2.1,J.q3))))) (0,x5.2)) (jn (α:=Bool×(qY×List qX)×Y1×gI×gp×(List eW)×List (List UInt8)) (bc Y.1 3 (aD ((decide ((Y.1:Int)=3)),x5.2)) (aD ((decide ((Y.1:Int)=4)),x5.2))) λI=>(bcase I.1 (bD (a_ (ak I.p4+ak ([(I.p2.p2,(decide ((I.p2.1:Int)=4)))])) 24) (aD (I.2.1,I.p3,(I.p4++([(I.p2.p2,(decide ((I.p2.1:Int)=4)))])),I.q5))) (bc Y.1 5 (obind (jP (I.p4,I.p2.q5)) λy8=>(bD (a_ (ak I.p5+ak ([(I.p2.p2,y8)])) 24) (aD (I.2.1,I.p3,I.p4,(I.p5++([(I.p2.p2,y8)])),I.q6)))) (bD (a_ (ak I.q6+ak ([I.p2.p2])) 16) (aD (I.2.1,I.p3,I.p4,I.p5,(I.q6++([I.p2.p2])))))))))) λx4=>(cK ((cz U.1),x4)))) (obind (iter (σ:=Int×(qY×List qX)×gI×gp×(List eW)×b9×b9×List (Int×Int×Int)) (λM=>(bu M.1 (aW M.2.1.2) (bF rN M.2.1.2 M.1 λZ=>(bD (a_ (ak M.p6+ak ([Z.1])) 16) (bF rN M.2.1.2 M.1 λz11=>(obind (G1 ((M.1,0,z11.2.2.2),M.q7)) λy12=>(bD (aA (ak M.q7) (ak M.q7)&&ah) (cK ((cz M.1),M.2.1,M.p2,M.p3,M.p4,M.p5,(M.p6++([Z.1])),y12.2))))))) (aD M.2.2))) (0,U.2.1,U.p2,U.p3,U.p4,U.q5,([]:List (List UInt8)),([]:List (Int×Int×Int)))) λr=>aa (bS r)))) (0,x,([]:List Qr),([]:List ((List UInt8)×Bool)),([]:List eW),([]:List (List UInt8))))))
def oI (x:gI×gp×(List eW)×b9×b9×List (Int×Int×Int)):Option (b9×Bool):=
 (iter (σ:=Int×dF×List (List UInt8)) (λJ=>(bu J.1 (aW J.2.1.1) (jn (α:=Int×dF×List (List UInt8)) (bF j_ J.2.1.1 J.1 λU=>(bD (a_ (ak J.2.2+ak ([U.1])) 16) (bc U.p2 0 (iO U.2.1 0 (cK (bS (([]:List (List UInt8)),ai))) (aD ((cz J.1),J.2.1,(J.2.2++([U.1]))))) (jn (α:=Bool×dF×b9×(List UInt8)×Int×Int×Bool×Int) (bu U.p2 1 (aD (ah,J.2.1,(J.2.2++([U.1])),U)) (bu 4 U.p2 (aD (ah,J.2.1,(J.2.2++([U.1])),U)) (aD ((fE (bg .i64 ((aW J.2.1.1)-J.1)) U.p2),J.2.1,(J.2.2++([U.1])),U)))) λx4=>(bcase x4.1 (cK (bS (([]:List (List UInt8)),ai))) (iter (σ:=Int×dF×b9×(List UInt8)×Int×Int×Bool×Int) (λM=>(bu M.1 M.p5 (bF j_ M.2.1.1 (bg .i64 (J.1+M.1)) λZ=>(jn (α:=Bool×dF×b9×(List UInt8)×Int×Int×Bool×Int) (iO Z.2.1 M.1 (aD (ah,M.2)) (bcase (!decide ((Z.1:List UInt8)=M.p3)) (aD (ah,M.2)) (iO Z.p2 M.p5 (aD (ah,M.2)) (iO Z.q4 M.q7 (aD (ah,M.2)) (aD (Z.p3,M.2)))))) λx7=>(bcase x7.1 (aD (lX (bS (([]:List (List UInt8)),ai)))) (cK ((cz M.1),x7.2))))) (aD (bS ((bg .i64 (J.1+M.p5)),M.2.1,M.p2))))) (0,x4.2))))))) λx2=>(cK x2)) (obind (iter (σ:=Int×dF×List (List UInt8)) (λY=>(bu Y.1 (aW Y.2.1.2.1) (bF pZ Y.2.1.2.1 Y.1 λz9=>(bD (a_ (ak Y.2.2+ak ([z9.1])) 16) (cK ((cz Y.1),Y.2.1,(Y.2.2++([z9.1])))))) (obind (iter (σ:=Int×dF×List (List UInt8)) (λI=>(bu I.1 (aW I.2.1.p2) (bF li I.2.1.p2 I.1 λz11=>(bD (a_ (ak I.2.2+ak ([z11.1])) 16) (cK ((cz I.1),I.2.1,(I.2.2++([z11.1])))))) (obind (bD (a_ (ak I.2.2+ak I.2.1.p3) 16) (bD (a_ (ak (I.2.2++I.2.1.p3)+ak I.2.1.p4) 16) (aa (((I.2.2++I.2.1.p3)++I.2.1.p4),ah)))) λr=>aa (bS r)))) (0,Y.2)) λr=>aa (bS r)))) (0,J.2)) λr=>aa (bS r)))) (0,x,([]:List (List UInt8))))
def gP (x:gI×gp×(List eW)×b9×b9×List (Int×Int×Int)):Option (Bool):=
 (jn (α:=Bool×gI×gp×(List eW)×b9×b9×List (Int×Int×Int)) (bu 12 (aW x.1) (aD (ah,x)) (bu 4 (aW x.2.1) (aD (ah,x)) (bu 2 (aW x.p2) (aD (ah,x)) (bu 2 (aW x.p3) (aD (ah,x)) (bu (aW x.p4) 1 (aD (ah,x)) (bu 4 (aW x.p4) (aD (ah,x)) (aD ((fE 60 (aW x.q5)),x)))))))) λx1=>(bcase x1.1 (aa ai) (obind (oI x1.2) λy2=>(bcase (!y2.2) (aa ai) (iter (σ:=Int×gI×gp×(List eW)×b9×b9×List (Int×Int×Int)) (λY=>(bu Y.1 (aW y2.1) (jn (α:=Bool×gI×gp×(List eW)×b9×b9×List (Int×Int×Int)) (bF (.str) y2.1 Y.1 λz5=>(obind (eR z5) λy6=>(bcase (!y6) (aD (ah,Y.2)) (bD (cR 0 Y.1&&cR Y.1 (ak y2.1)) (bF (.str) y2.1 Y.1 λz7=>(obind (iH ((dE (aS Y.1) y2.1),z7)) λy8=>(aD ((cR 0 y8),Y.2)))))))) λx4=>(bcase x4.1 (aD ai) (cK ((cz Y.1),x4.2)))) (obind (iter (σ:=Int×gI×gp×(List eW)×b9×b9×List (Int×Int×Int)) (λM=>(bu M.1 (aW M.p3) (bF li M.p3 M.1 λz10=>(jn (α:=Bool×gI×gp×(List eW)×b9×b9×List (Int×Int×Int)) (bu z10.2 0 (aD (ah,M.2)) (jg (aW M.p2) z10.2 (aD (ah,M.2)) (bF pZ M.p2 z10.2 λz12=>(aD (z12.2,M.2))))) λx11=>(bcase x11.1 (aD ai) (cK ((cz M.1),x11.2))))) (obind (iter (σ:=Int×gI×gp×(List eW)×b9×b9×List (Int×Int×Int)) (λI=>(bu I.1 (aW I.q6) (jn (α:=gI×gp×(List eW)×b9×b9×List (Int×Int×Int)) (bF nO I.q6 I.1 λZ=>(jn (α:=Bool×dF×Int×Int×Int) (bu Z.1 0 (aD (ah,I.2,Z)) (aD ((cR (aW I.p5) Z.1),I.2,Z))) λU=>(bcase U.1 (cK (bS ai)) (jn (α:=Bool×dF×Int×Int×Int) (bc I.1 0 (aD (ah,U.2)) (bF nO U.2.1.q5 (bg .i64 (I.1-1)) λz18=>(aD ((!decide ((z18.1:Int)=U.p2)),U.2)))) λJ=>(bcase J.1 (jn (α:=Bool×gI×gp×(List eW)×b9×b9×List (Int×Int×Int)) (iO J.p3 0 (aD (ah,J.2.1)) (bu 0 I.1 (bF nO J.2.1.q5 (bg .i64 (I.1-1)) λz20=>(aD ((fE J.p2 z20.1),J.2.1))) (aD (ai,J.2.1)))) λx19=>(bcase x19.1 (cK (bS ai)) (aD x19.2))) (bF nO J.2.1.q5 (bg .i64 (I.1-1)) λz21=>(iO J.p3 (cz z21.2.1) (cK (bS ai)) (aD J.2.1)))))))) λx14=>(cK ((cz I.1),x14))) (aD ah))) (0,M.2)) λr=>aa (bS r)))) (0,Y.2)) λr=>aa (bS r)))) (0,x1.2))))))
def jm (x:Int×Int×Int×Int×Int×Int):Option (List Int):=
 (jn (α:=Bool×Int×Int×Int×Int×Int×Int) (bc x.1 1 (aD ((decide ((x.1:Int)=1)),x)) (bc x.1 6 (aD ((decide ((x.1:Int)=6)),x)) (bc x.1 10 (aD ((decide ((x.1:Int)=10)),x)) (aD ((decide ((x.1:Int)=27)),x))))) λM=>(bcase M.1 (aa ([M.p2])) (jn (α:=Bool×Int×Int×Int×Int×Int×Int) (bc x.1 2 (aD ((decide ((x.1:Int)=2)),M.2)) (aD ((decide ((x.1:Int)=3)),M.2))) λI=>(bcase I.1 (aa ([I.p2,I.p3])) (bc x.1 4 (aa ([I.p2,I.p3,I.p4])) (bc x.1 7 (aa ([I.p2,I.p4])) (jn (α:=Bool×Int×Int×Int×Int×Int×Int) (bc x.1 8 (aD ((decide ((x.1:Int)=8)),I.2)) (aD ((decide ((x.1:Int)=26)),I.2))) λJ=>(bcase J.1 (aa ([J.p3])) (bc x.1 9 (aa ([J.p3,J.p4])) (aa ([]:List Int)))))))))))
def oX (x:Int):Option (Bool):=
 (jn (α:=Bool) (jg 1 x (aD (cR x 5)) (aD ai)) λI=>(aa I))
def oJ (x:(List jC)×Int):Option (Bool):=
 (iter (σ:=Int×Int) (λI=>(jg I.2 (aW x.1) (jn (α:=Int) (jn (α:=Bool) (bu I.1 0 (aD ah) (aD (cR (aW x.1) I.1))) λZ=>(bcase Z (cK (bS ai)) (bF pX x.1 I.1 λU=>(obind (oX U.1) λY=>(bcase (!Y) (cK (bS ah)) (bF pX x.1 I.1 λM=>(bc M.1 5 (bF pX x.1 I.1 λJ=>(aD J.2.1)) (aD (cz I.1))))))))) λx2=>(cK (x2,(cz I.2)))) (aD ai))) (x.2,0))
def iV (x:Int×Int):Option (Bool):=
 (jn (α:=Bool) (jg 0 x.1 (aD (fE x.1 x.2)) (aD ai)) λI=>(aa I))
def mE (x:dF×Int×Int):Option (Bool):=
 (jn (α:=Bool) (obind (iV (x.2.1,(aW x.1.1))) λU=>(bcase U (bF j_ x.1.1 x.2.1 λM=>(bc M.2.1 0 (bF j_ x.1.1 x.2.1 λJ=>(iO J.2.2.1 0 (bF j_ x.1.1 x.2.1 λI=>(aD (decide ((I.2.2.1:Int)=x.2.2)))) (aD ai))) (aD ai))) (aD ai))) λY=>(aa Y))
def kV (x:dF×Int×Int×Int×Int×Int×Int):Option (Bool):=
 (bc x.2.1 6 (jn (α:=Bool) (obind (iV (x.p3,(aW x.1.1))) λy2=>(bcase y2 (bF j_ x.1.1 x.p3 λz3=>(aD (decide ((z3.2.2.1:Int)=0)))) (aD ai))) λx1=>(aa x1)) (bc x.2.1 8 (jn (α:=Bool) (obind (iV (x.p2,(aW x.1.1))) λy5=>(bcase y5 (bF j_ x.1.1 x.p2 λz6=>(aD (decide ((z6.2.2.1:Int)=0)))) (aD ai))) λx4=>(aa x4)) (bc x.2.1 7 (obind (mE (x.1,x.p3,x.p5)) λy7=>(aa y7)) (bc x.2.1 9 (obind (mE (x.1,x.p2,x.p5)) λy8=>(aa y8)) (jn (α:=Bool×dF×Int×Int×Int×Int×Int×Int) (bc x.2.1 11 (aD ((decide ((x.2.1:Int)=11)),x)) (aD ((decide ((x.2.1:Int)=12)),x))) λU=>(bcase U.1 (jn (α:=Bool) (obind (iV (U.p3,(aW U.2.1.2.1))) λy11=>(bcase y11 (bF pZ U.2.1.2.1 U.p3 λZ=>(aD (!Z.2))) (aD ai))) λx10=>(aa x10)) (jn (α:=Bool×dF×Int×Int×Int×Int×Int×Int) (bc x.2.1 13 (aD ((decide ((x.2.1:Int)=13)),U.2)) (bc x.2.1 14 (aD ((decide ((x.2.1:Int)=14)),U.2)) (bc x.2.1 15 (aD ((decide ((x.2.1:Int)=15)),U.2)) (aD ((decide ((x.2.1:Int)=16)),U.2))))) λJ=>(bcase J.1 (jn (α:=Bool) (obind (iV (J.p3,(aW J.2.1.2.1))) λy15=>(bcase y15 (bF pZ J.2.1.2.1 J.p3 λY=>(aD Y.2)) (aD ai))) λx14=>(aa x14)) (jn (α:=Bool×dF×Int×Int×Int×Int×Int×Int) (bc x.2.1 21 (aD ((decide ((x.2.1:Int)=21)),J.2)) (bc x.2.1 22 (aD ((decide ((x.2.1:Int)=22)),J.2)) (aD ((decide ((x.2.1:Int)=23)),J.2)))) λM=>(bcase M.1 (obind (iV (M.p3,(aW M.2.1.p2))) λy18=>(aa y18)) (jn (α:=Bool×dF×Int×Int×Int×Int×Int×Int) (bc x.2.1 24 (aD ((decide ((x.2.1:Int)=24)),M.2)) (aD ((decide ((x.2.1:Int)=25)),M.2))) λI=>(bcase I.1 (obind (iV (I.p3,(aW I.2.1.p4))) λy20=>(aa y20)) (bc x.2.1 26 (obind (iV (I.p3,(aW I.2.1.p3))) λy21=>(aa y21)) (bc x.2.1 27 (obind (iV (I.p4,(aW I.2.1.p3))) λy22=>(aa y22)) (bc x.2.1 3 (jn (α:=Bool) (bc I.p6 4 (aD ah) (aD (decide ((I.p6:Int)=5)))) λx23=>(aa x23)) (bc x.2.1 4 (jn (α:=Bool) (jg 6 I.p6 (aD (cR I.p6 18)) (aD ai)) λx24=>(aa x24)) (aa ah)))))))))))))))))
def hP (x:dF×Int×Int×List jC):Option (Bool):=
 (jn (α:=Bool×dF×Int×List jC) (bu x.p2 0 (aD (ah,x.1,x.2.2)) (bu 32 x.p2 (aD (ah,x.1,x.2.2)) (aD ((decide (((aW x.q3):Int)=0)),x.1,x.2.2)))) λx1=>(bcase x1.1 (aa ai) (iter (σ:=Int×dF×Int×List jC) (λJ=>(bu J.1 (aW x.q3) (bF pX J.q3 J.1 λY=>(jn (α:=Bool×dF×(Int×List jC)×Int×Int×Int×Int×Int×Int) (bu Y.1 1 (aD (ah,J.2.1,J.2.2,Y)) (bu 28 Y.1 (aD (ah,J.2.1,J.2.2,Y)) (bcase (((decide ((Y.1:Int)=28))==(decide ((J.1:Int)=(bg .i64 ((aW x.q3)-1))))) !=ah) (aD (ah,J.2.1,J.2.2,Y)) (obind (kV (J.2.1,Y)) λy5=>(bcase (!y5) (aD (ah,J.2.1,J.2.2,Y)) (obind (oJ (J.q3,J.1)) λy6=>(aD ((!y6),J.2.1,J.2.2,Y)))))))) λI=>(bcase I.1 (aD ai) (jn (α:=Bool×dF×(Int×List jC)×Int×Int×Int×Int×Int×Int) (bc I.p3 28 (iO I.q8 (-1) (aD (ah,I.2)) (iO I.p3 28 (obind (iV (I.q8,(aW I.2.1.q5))) λy8=>(bcase (!y8) (aD (ah,I.2)) (bF nO I.2.1.q5 I.q8 λz9=>(aD ((!decide ((z9.1:Int)=x.2.1)),I.2))))) (aD (ai,I.2)))) (iO I.p3 28 (obind (iV (I.q8,(aW I.2.1.q5))) λy10=>(bcase (!y10) (aD (ah,I.2)) (bF nO I.2.1.q5 I.q8 λz11=>(aD ((!decide ((z11.1:Int)=x.2.1)),I.2))))) (aD (ai,I.2)))) λU=>(bcase U.1 (aD ai) (jn (α:=Bool×dF×(Int×List jC)×Int×Int×Int×Int×Int×Int) (bc U.p3 5 (obind (iV (U.p4,(aW x.q3))) λy13=>(bcase (!y13) (aD (ah,U.2)) (bc U.p3 10 (obind (iV (U.p5,(aW x.q3))) λy14=>(aD ((!y14),U.2))) (aD (ai,U.2))))) (bc U.p3 10 (obind (iV (U.p5,(aW x.q3))) λy15=>(aD ((!y15),U.2))) (aD (ai,U.2)))) λZ=>(bcase Z.1 (aD ai) (obind (jm Z.q3) λy16=>(iter (σ:=Int×dF×Int×List jC) (λM=>(bu M.1 (aW y16) (bF aM y16 M.1 λz18=>(obind (iV (z18,M.p2)) λy19=>(bcase (!y19) (aD (bS ai)) (cK ((cz M.1),M.2))))) (aD (lX ((cz J.1),M.2))))) (0,Z.2.1,Z.p2)))))))))) (aD ah))) (0,x1.2))))
def jk (x:dF×List (Int×List jC)):Option (Bool):=
 (jn (α:=Bool×dF×List (Int×List jC)) (obind (gP x.1) λY=>(bcase (!Y) (aD (ah,x)) (aD ((!decide (((aW x.2):Int)=(aW x.1.p4))),x)))) λJ=>(bcase J.1 (aa ai) (iter (σ:=Int×dF×List (Int×List jC)) (λI=>(bu I.1 (aW I.2.2) (bF vE I.2.2 I.1 λM=>(obind (hP (I.2.1,I.1,M)) λU=>(bcase (!U) (aD ai) (cK ((cz I.1),I.2))))) (aD ah))) (0,J.2))))
def cr (x:jC×qH×List jC):Option (qH×List jC):=
 (bD (a_ (ak x.2.2+ak ([(x.1.1,x.1.2.1,x.1.p2,x.1.p3,x.1.p4,x.2.1.p7)])) 48) (aa (x.2.1,(x.2.2++([(x.1.1,x.1.2.1,x.1.p2,x.1.p3,x.1.p4,x.2.1.p7)])))))
def pG (rr06_gen_value:((Xp×Int)×qH×List jC)->Option (qH×List jC)) (x:(Xp×Int)×qH×List jC):Option (qH×List jC):=
 (jn (α:=qH×List jC) (bc (Xp.op x.1.1) 1 (obind (cr ((1,x.1.2,0,0,(Xp.n x.1.1),0),x.2)) λy2=>(bD (aA (ak x.2.2) (ak x.2.2)&&ah) (aD y2))) (bc (Xp.op x.1.1) 2 (obind (iH (x.2.1.p6,(Xp.name x.1.1))) λy3=>(jg 0 y3 (obind (cr ((2,x.1.2,y3,0,0,0),x.2)) λy4=>(bD (aA (ak x.2.2) (ak x.2.2)&&ah) (aD y4))) (obind (kN ((x.2.1.1,x.2.1.2.1,x.2.1.p2,x.2.1.p3,x.2.1.p4,x.2.1.p5),(Xp.name x.1.1))) λy5=>(obind (cr ((6,x.1.2,y5,0,0,0),x.2)) λy6=>(bD (aA (ak x.2.2) (ak x.2.2)&&ah) (aD y6)))))) (bc (Xp.op x.1.1) 3 (bF (.ex) (Xp.l x.1.1) 0 λz7=>(obind (rr06_gen_value ((z7,x.1.2),x.2)) λI=>(bD (aA (ak x.2.2) (ak x.2.2)&&ah) (obind (kN ((I.1.1,I.1.2.1,I.1.p2,I.1.p3,I.1.p4,I.1.p5),(Xp.name x.1.1))) λy9=>(bF j_ I.1.1 y9 λz10=>(obind (cr ((7,x.1.2,y9,x.1.2,z10.2.2.1,0),I)) λy11=>(bD (aA (ak I.2) (ak I.2)&&ah) (aD y11)))))))) (bc (aN (ak (Xp.l x.1.1))) 1 (bF (.ex) (Xp.l x.1.1) 0 λz12=>(obind (rr06_gen_value ((z12,x.1.2),x.2)) λU=>(bD (aA (ak x.2.2) (ak x.2.2)&&ah) (obind (cr ((3,x.1.2,x.1.2,0,(Xp.op x.1.1),0),U)) λy14=>(bD (aA (ak U.2) (ak U.2)&&ah) (aD y14)))))) (bF (.ex) (Xp.l x.1.1) 0 λZ=>(obind (rr06_gen_value ((Z,x.1.2),x.2)) λM=>(bD (aA (ak x.2.2) (ak x.2.2)&&ah) (bF (.ex) (Xp.l x.1.1) 1 λY=>(obind (rr06_gen_value ((Y,(cz x.1.2)),M)) λJ=>(bD (aA (ak M.2) (ak M.2)&&ah) (obind (cr ((4,x.1.2,x.1.2,(cz x.1.2),(Xp.op x.1.1),0),J)) λy19=>(bD (aA (ak J.2) (ak J.2)&&ah) (aD y19))))))))))))) λx1=>(aa x1))
def io:Nat->((Xp×Int)×qH×List jC)->Option (qH×List jC)
 |0,_=>af
 |n+1,x=>pG (io n) x
theorem zg (n:Nat) (x:(Xp×Int)×qH×List jC):io (n+1) x=pG (io n) x:=rfl
def im (x:(Xp×Int)×qH×List jC):Option (qH×List jC):=io fuel x
def lx (x:Sx×qH×List jC):Option (qH×List jC):=
 (bu 0 (aN (ak (Sx.index x.1))) (bF (.ex) (Sx.index x.1) 0 λz1=>(obind (im ((z1,(aW x.2.1.p6)),x.2)) λM=>(bD (aA (ak x.2.2) (ak x.2.2)&&ah) (obind (im ((dP ((Xp.op (Sx.expr x.1)),(Xp.n (Sx.expr x.1)),(Xp.name (Sx.expr x.1)),(Xp.l (Sx.expr x.1))),(bg .i64 ((aW x.2.1.p6)+1))),M)) λJ=>(bD (aA (ak M.2) (ak M.2)&&ah) (obind (kN ((J.1.1,J.1.2.1,J.1.p2,J.1.p3,J.1.p4,J.1.p5),(Sx.name x.1))) λy4=>(bF j_ J.1.1 y4 λz5=>(obind (cr ((9,y4,(bg .i64 ((aW x.2.1.p6)+1)),(aW x.2.1.p6),z5.2.2.1,0),J)) λy6=>(bD (aA (ak J.2) (ak J.2)&&ah) (aa y6)))))))))) (obind (im ((dP ((Xp.op (Sx.expr x.1)),(Xp.n (Sx.expr x.1)),(Xp.name (Sx.expr x.1)),(Xp.l (Sx.expr x.1))),(aW x.2.1.p6)),x.2)) λI=>(bD (aA (ak x.2.2) (ak x.2.2)&&ah) (obind (iH (I.1.p6,(Sx.name x.1))) λZ=>(jg 0 Z (obind (cr ((2,Z,(aW x.2.1.p6),0,0,0),I)) λy9=>(bD (aA (ak I.2) (ak I.2)&&ah) (aa y9))) (obind (kN ((I.1.1,I.1.2.1,I.1.p2,I.1.p3,I.1.p4,I.1.p5),(Sx.name x.1))) λY=>(obind (cr ((8,Y,(aW x.2.1.p6),0,0,0),I)) λU=>(bD (aA (ak I.2) (ak I.2)&&ah) (aa U)))))))))
def iZ (x:(List UInt8)×qH×List jC):Option (Int×qH×List jC):=
 (iter (σ:=Int×qH×List jC) (λI=>(bu I.1 (aW I.2.1.p2) (bF li I.2.1.p2 I.1 λJ=>(bcase (decide ((J.1:List UInt8)=x.1)) (aD I) (cK ((cz I.1),I.2)))) (aD ((-1),I.2)))) (0,x.2))
def pH (rr06_gen_stmts:YZ->Option (qH×List jC)) (rr06_gen_stmt:Kq->Option (qH×List jC)) (rr06_gen_branches:Kq->Option (qH×List jC)) (rr06_gen_around:Y0->Option (qH×List jC)) (x:(List Sx)×qH×List jC):Option (qH×List jC):=
 (iter (σ:=Int×qH×List jC) (λI=>(bu I.1 (aW x.1) (bF (.sm) x.1 I.1 λJ=>(obind (rr06_gen_stmt (J,I.2)) λM=>(bD (aA (ak I.2.2) (ak I.2.2)&&ah) (cK ((cz I.1),M))))) (aD I.2))) (0,x.2))
def qR (rr06_gen_stmts:YZ->Option (qH×List jC)) (rr06_gen_stmt:Kq->Option (qH×List jC)) (rr06_gen_branches:Kq->Option (qH×List jC)) (rr06_gen_around:Y0->Option (qH×List jC)) (x:Sx×qH×List jC):Option (qH×List jC):=
 (jn (α:=qH×List jC) (bc (Sx.op x.1) 1 (obind (lx (dS x.1,(x.2.1.1,x.2.1.2.1,x.2.1.p2,x.2.1.p3,x.2.1.p4,x.2.1.p5,x.2.1.p6,x.2.1.q8,(cz x.2.1.q8)),x.2.2)) λy2=>(bD (aA (ak x.2.2) (ak x.2.2)&&ah) (aD y2))) (jn (α:=Bool×qH×Sx×List jC) (bc (Sx.op x.1) 2 (aD ((decide (((Sx.op x.1):Int)=2)),(x.2.1.1,x.2.1.2.1,x.2.1.p2,x.2.1.p3,x.2.1.p4,x.2.1.p5,x.2.1.p6,x.2.1.q8,(cz x.2.1.q8)),dS x.1,x.2.2)) (aD ((decide (((Sx.op x.1):Int)=3)),(x.2.1.1,x.2.1.2.1,x.2.1.p2,x.2.1.p3,x.2.1.p4,x.2.1.p5,x.2.1.p6,x.2.1.q8,(cz x.2.1.q8)),dS x.1,x.2.2))) λI=>(bcase I.1 (obind (rr06_gen_branches (dS I.p2,I.2.1,I.q3)) λy4=>(bD (aA (ak I.q3) (ak I.q3)&&ah) (aD y4))) (bc (Sx.op x.1) 4 (obind (jP (I.2.1.2.1,(Sx.name I.p2))) λy5=>(obind (rr06_gen_around ((dS I.p2,11,12,y5),I.2.1,I.q3)) λy6=>(bD (aA (ak I.q3) (ak I.q3)&&ah) (aD y6)))) (bc (Sx.op x.1) 5 (obind (jP (I.2.1.2.1,(Sx.name I.p2))) λy7=>(obind (rr06_gen_around ((dS I.p2,13,14,y7),I.2.1,I.q3)) λy8=>(bD (aA (ak I.q3) (ak I.q3)&&ah) (aD y8)))) (bc (Sx.op x.1) 6 (obind (jP (I.2.1.2.1,(Sx.name I.p2))) λy9=>(obind (rr06_gen_around ((dS I.p2,15,16,y9),I.2.1,I.q3)) λy10=>(bD (aA (ak I.q3) (ak I.q3)&&ah) (aD y10)))) (bc (Sx.op x.1) 7 (obind (rr06_gen_around ((dS I.p2,17,18,0),I.2.1,I.q3)) λy11=>(bD (aA (ak I.q3) (ak I.q3)&&ah) (aD y11))) (bc (Sx.op x.1) 8 (obind (rr06_gen_around ((dS I.p2,19,20,0),I.2.1,I.q3)) λy12=>(bD (aA (ak I.q3) (ak I.q3)&&ah) (aD y12))) (bc (Sx.op x.1) 9 (obind (iZ ((Sx.name I.p2),I.2.1,I.q3)) λU=>(bD (aA (ak I.q3) (ak U.2.2)&&ah) (obind (cr ((21,U.1,0,0,0,0),U.2)) λy14=>(bD (aA (ak U.2.2) (ak U.2.2)&&ah) (aD y14))))) (bc (Sx.op x.1) 10 (obind (iZ ((Sx.name I.p2),I.2.1,I.q3)) λM=>(bD (aA (ak I.q3) (ak M.2.2)&&ah) (obind (cr ((22,M.1,0,0,0,0),M.2)) λy16=>(bD (aA (ak M.2.2) (ak M.2.2)&&ah) (aD y16))))) (bc (Sx.op x.1) 11 (obind (iZ ((Sx.name I.p2),I.2.1,I.q3)) λJ=>(bD (aA (ak I.q3) (ak J.2.2)&&ah) (obind (cr ((23,J.1,0,0,0,0),J.2)) λy18=>(bD (aA (ak J.2.2) (ak J.2.2)&&ah) (aD y18))))) (bc (Sx.op x.1) 12 (obind (iH (I.2.1.p4,(Sx.name I.p2))) λy19=>(obind (cr ((24,y19,0,0,0,0),I.2.1,I.q3)) λy20=>(bD (aA (ak I.q3) (ak I.q3)&&ah) (aD y20)))) (bc (Sx.op x.1) 13 (obind (iH (I.2.1.p4,(Sx.name I.p2))) λy21=>(obind (cr ((25,y21,0,0,0,0),I.2.1,I.q3)) λy22=>(bD (aA (ak I.q3) (ak I.q3)&&ah) (aD y22)))) (bc (Sx.op x.1) 14 (obind (im ((dP ((Xp.op (Sx.expr I.p2)),(Xp.n (Sx.expr I.p2)),(Xp.name (Sx.expr I.p2)),(Xp.l (Sx.expr I.p2))),(aW x.2.1.p6)),I.2.1,I.q3)) λY=>(bD (aA (ak I.q3) (ak I.q3)&&ah) (obind (iH (Y.1.p3,(Sx.name I.p2))) λy24=>(obind (cr ((26,y24,(aW x.2.1.p6),0,0,0),Y)) λy25=>(bD (aA (ak Y.2) (ak Y.2)&&ah) (aD y25)))))) (bc (Sx.op x.1) 15 (obind (iH (I.2.1.p6,(Sx.name I.p2))) λy26=>(obind (iH (I.2.1.p3,(Sx.arg I.p2))) λy27=>(obind (cr ((27,y26,y27,0,0,0),I.2.1,I.q3)) λZ=>(bD (aA (ak I.q3) (ak I.q3)&&ah) (aD Z))))) (aD (I.2.1,I.q3))))))))))))))))) λx1=>(aa x1))
def l8 (rr06_gen_stmts:YZ->Option (qH×List jC)) (rr06_gen_stmt:Kq->Option (qH×List jC)) (rr06_gen_branches:Kq->Option (qH×List jC)) (rr06_gen_around:Y0->Option (qH×List jC)) (x:Sx×qH×List jC):Option (qH×List jC):=
 (obind (im ((dP ((Xp.op (Sx.expr x.1)),(Xp.n (Sx.expr x.1)),(Xp.name (Sx.expr x.1)),(Xp.l (Sx.expr x.1))),(aW x.2.1.p6)),x.2)) λJ=>(bD (aA (ak x.2.2) (ak x.2.2)&&ah) (obind (cr ((10,(aW J.1.p6),0,0,0,0),J)) λZ=>(bD (aA (ak J.2) (ak J.2)&&ah) (obind (rr06_gen_stmts ((Sx.body x.1),Z)) λI=>(bD (aA (ak Z.2) (ak Z.2)&&ah) (bc (Sx.op x.1) 3 (obind (cr ((5,(aW x.2.2),0,0,0,0),(I.1.1,I.1.2.1,I.1.p2,I.1.p3,I.1.p4,I.1.p5,I.1.p6,x.2.1.p7,I.1.q8),I.2)) λU=>(bD (aA (ak I.2) (ak I.2)&&ah) (ck (fB (aW J.2) (ak U.2)) (aa (U.1,(cJ U.2 (aW J.2) ((aH (T:=pX) U.2 (aW J.2)).1,((aH (T:=pX) U.2 (aW J.2)).2).1,(aW U.2),(((aH (T:=pX) U.2 (aW J.2)).2).2).2))))))) (bc (aN (ak (Sx.els x.1))) 0 (ck (fB (aW J.2) (ak I.2)) (aa ((I.1.1,I.1.2.1,I.1.p2,I.1.p3,I.1.p4,I.1.p5,I.1.p6,x.2.1.p7,I.1.q8),(cJ I.2 (aW J.2) ((aH (T:=pX) I.2 (aW J.2)).1,((aH (T:=pX) I.2 (aW J.2)).2).1,(aW I.2),(((aH (T:=pX) I.2 (aW J.2)).2).2).2))))) (obind (cr ((5,0,0,0,0,0),(I.1.1,I.1.2.1,I.1.p2,I.1.p3,I.1.p4,I.1.p5,I.1.p6,x.2.1.p7,I.1.q8),I.2)) λM=>(bD (aA (ak I.2) (ak I.2)&&ah) (ck (fB (aW J.2) (ak M.2)) (obind (rr06_gen_stmts ((Sx.els x.1),M.1,(cJ M.2 (aW J.2) ((aH (T:=pX) M.2 (aW J.2)).1,((aH (T:=pX) M.2 (aW J.2)).2).1,(aW M.2),(((aH (T:=pX) M.2 (aW J.2)).2).2).2)))) λY=>(bD (aA (ak (cJ M.2 (aW J.2) ((aH (T:=pX) M.2 (aW J.2)).1,((aH (T:=pX) M.2 (aW J.2)).2).1,(aW M.2),(((aH (T:=pX) M.2 (aW J.2)).2).2).2))) (ak (cJ M.2 (aW J.2) ((aH (T:=pX) M.2 (aW J.2)).1,((aH (T:=pX) M.2 (aW J.2)).2).1,(aW M.2),(((aH (T:=pX) M.2 (aW J.2)).2).2).2)))&&ah) (ck (fB (aW I.2) (ak Y.2)) (aa (Y.1,(cJ Y.2 (aW I.2) ((aH (T:=pX) Y.2 (aW I.2)).1,(aW Y.2),((aH (T:=pX) Y.2 (aW I.2)).2).2))))))))))))))))))
def ou (rr06_gen_stmts:YZ->Option (qH×List jC)) (rr06_gen_stmt:Kq->Option (qH×List jC)) (rr06_gen_branches:Kq->Option (qH×List jC)) (rr06_gen_around:Y0->Option (qH×List jC)) (x:(Sx×Int×Int×Int)×qH×List jC):Option (qH×List jC):=
 (obind (cr ((x.1.2.1,x.1.q3,0,0,0,0),x.2)) λJ=>(bD (aA (ak x.2.2) (ak x.2.2)&&ah) (obind (rr06_gen_stmts ((Sx.body x.1.1),J)) λI=>(bD (aA (ak J.2) (ak J.2)&&ah) (obind (cr ((x.1.p2,x.1.q3,0,0,0,0),(I.1.1,I.1.2.1,I.1.p2,I.1.p3,I.1.p4,I.1.p5,I.1.p6,x.2.1.p7,I.1.q8),I.2)) λM=>(bD (aA (ak I.2) (ak I.2)&&ah) (aa M)))))))
mutual
def dA:Nat->YZ->Option (qH×List jC)
 |0,_=>af
 |n+1,x=>pH (dA n) (eB n) (cV n) (dw n) x
def eB:Nat->Kq->Option (qH×List jC)
 |0,_=>af
 |n+1,x=>qR (dA n) (eB n) (cV n) (dw n) x
def cV:Nat->Kq->Option (qH×List jC)
 |0,_=>af
 |n+1,x=>l8 (dA n) (eB n) (cV n) (dw n) x
def dw:Nat->Y0->Option (qH×List jC)
 |0,_=>af
 |n+1,x=>ou (dA n) (eB n) (cV n) (dw n) x
end
def sS (x:(List Sx)×qH×List jC):Option (qH×List jC):=dA fuel x
def pB (x:qY×List qX):Option (yn×Int×Int):=
 (obind (eV x) λy1=>(iO y1.1 0 (aa (((([]:List Qr),([]:List ((List UInt8)×Bool)),([]:List eW),([]:List (List UInt8)),([]:List (List UInt8)),([]:List (Int×Int×Int))),([]:List (Int×List jC))),y1)) (obind (sT x) λy2=>(iter (σ:=(Int×Int)×(qY×List qX)×dF×List (Int×List jC)) (λJ=>(bu J.1.2 (aW J.2.1.2) (bF rN J.2.1.2 J.1.2 λz4=>(bF rN J.2.1.2 J.1.2 λz5=>(obind (sS (z5.2.2.2,(J.p2.1,J.p2.2.1,J.p2.p2,J.p2.p3,J.p2.p4,J.p2.q5,z4.2.2.1,0,J.1.1),([]:List jC))) λU=>(bD (aA (ak ([]:List jC)) (ak ([]:List jC))&&ah) (obind (cr ((28,0,0,0,0,0),(U.1.1,U.1.2.1,U.1.p2,U.1.p3,U.1.p4,U.1.p5,U.1.p6,(-1),U.1.q8),U.2)) λy7=>(bD (aA (ak U.2) (ak U.2)&&ah) (iter (σ:=Int×(qY×List qX)×dF×qH×Int×(List (Int×List jC))×List jC) (λM=>(bu M.1 (aW M.q6) (kK pX M.q6 M.1 λz9=>(obind (jm z9) λY=>(iter (σ:=Int×(qY×List qX)×dF×qH×Int×(List (Int×List jC))×List jC) (λI=>(bu I.1 (aW Y) (bF aM Y I.1 λZ=>(cK ((cz I.1),I.2.1,I.p2,I.p3,(jZ I.p4 (cz Z)),I.q5))) (aD (lX ((cz M.1),I.2))))) (0,M.2)))) (obind (bD (a_ (ak M.p5+ak ([(M.p4,M.q6)])) 32) (cK ((U.1.q8,(cz J.1.2)),M.2.1,M.p2,(M.p5++([(M.p4,M.q6)]))))) λr=>aa (bS r)))) (0,J.2.1,J.p2,y7.1,(aW y7.1.p6),J.q3,y7.2)))))))) (aD (J.2.2,0,0)))) ((0,0),x,y2,([]:List (Int×List jC)))))))
def pA (x:(List Int)×Int):Option (Bool):=
 (iter (σ:=Int) (λI=>(bu I (aW x.1) (bF aM x.1 I λJ=>(bc J x.2 (aD ah) (cK (cz I)))) (aD ai))) 0)
def uT (x:(List Int)×Int):Option (List Int):=
 (iter (σ:=Int) (λI=>(jn (α:=Bool) (bu I (aW x.1) (bF aM x.1 I λM=>(aD (fE M x.2))) (aD ai)) λY=>(bcase Y (cK (cz I)) (obind (jn (α:=Bool) (bu I (aW x.1) (bF aM x.1 I λJ=>(aD (decide ((J:Int)=x.2)))) (aD ai)) λU=>(bcase U (aa x.1) (bD (cR 0 I&&cR I (ak x.1)) (bD (a_ (ak ([]:List Int)+ak (dE (aS I) x.1)) 8) (bD (a_ (ak (([]:List Int)++(dE (aS I) x.1))+ak ([x.2])) 8) (bD (cR 0 I&&cR I (ak x.1)) (bD (a_ (ak ((([]:List Int)++(dE (aS I) x.1))++([x.2]))+ak (List.drop (aS I) x.1)) 8) (aa (((([]:List Int)++(dE (aS I) x.1))++([x.2]))++(List.drop (aS I) x.1)))))))))) λr=>aa (bS r))))) 0)
def qn (x:(List Int)×List Int):Option (List Int):=
 (iter (σ:=(List Int)×Int) (λJ=>(bu J.2 (aW x.1) (bF aM x.1 J.2 λU=>(obind (uT (J.1,U)) λZ=>(cK (Z,(cz J.2))))) (obind (iter (σ:=(List Int)×Int) (λI=>(bu I.2 (aW x.2) (bF aM x.2 I.2 λM=>(obind (uT (I.1,M)) λY=>(cK (Y,(cz I.2))))) (aD I.1))) (J.1,0)) λr=>aa (bS r)))) (([]:List Int),0))
def lI (x:Int):Option (Int):=
 (jn (α:=Bool) (bu x 1 (aD ah) (aD (fE 100 x))) λI=>(bcase I (aa 0) (aa x)))
def ca (x:Int×(List Int)×(List (List Int))×Int):Option ((Int×Int)×(List Int)×List (List Int)):=
 (bD (a_ (ak ([]:List Int)+ak x.2.1) 8) (iter (σ:=Int×sI×(Int×Int)×(Int×Int)×(List Int)×List (List Int)) (λI=>(bu I.1 (aW I.2.1.p2) (bF (.sl aM) I.2.1.p2 I.1 λJ=>(bD (a_ (ak ([]:List Int)+ak J) 8) (bD (a_ (ak I.q5+ak ([(([]:List Int)++J)])) 24) (cK ((cz I.1),I.2.1,I.p2,I.p3,I.p4,(I.q5++([(([]:List Int)++J)]))))))) (aD I.q3))) (0,x,(0,0),(x.1,x.q3),(([]:List Int)++x.2.1),([]:List (List Int)))))
def uS (x:(jC×Int×Int)×(List Int)×List (List Int)):Option (((Int×Int)×Bool)×(List Int)×List (List Int)):=
 (obind (jm x.1.1) λy1=>(iter (σ:=Int×(List Int)×(List (List Int))×jC×(Int×Int)×Int×Int) (λI=>(bu I.1 (aW y1) (jn (α:=Bool×(List Int)×(List (List Int))×jC×(Int×Int)×Int×Int) (bF aM y1 I.1 λz4=>(bu z4 0 (aD (ah,I.2)) (bF aM y1 I.1 λz5=>(aD ((cR (aW I.2.1) z5),I.2))))) λx3=>(bcase x3.1 af (cK ((cz I.1),x3.2)))) (obind (jn (α:=(Int×Bool×List Int)×(List Int)×(List (List Int))×jC×(Int×Int)×Int×Int) (bc I.p3.1 5 (cK (((I.p3.2.1,I.p4.2),ah),I.2.1,I.p2)) (bc I.p3.1 1 (aD ((I.p3.p4,ah,([]:List Int)),I.2)) (bc I.p3.1 2 (kK aM I.2.1 I.p3.p2 λz7=>(kK (.sl aM) I.p2 I.p3.p2 λz8=>(aD ((z7,ah,z8),I.2)))) (bc I.p3.1 3 (obind (lI I.p3.p4) λy9=>(kK aM I.2.1 I.p3.p2 λz10=>(obind (sU (y9,z10)) λU=>(kK (.sl aM) I.p2 I.p3.p2 λz12=>(aD ((U.1,U.2,z12),I.2)))))) (obind (lI I.p3.p4) λy13=>(kK aM I.2.1 I.p3.p2 λz14=>(kK aM I.2.1 I.p3.p3 λz15=>(obind (re (y13,z14,z15)) λM=>(kK (.sl aM) I.p2 I.p3.p2 λZ=>(kK (.sl aM) I.p2 I.p3.p3 λY=>(obind (qn (Z,Y)) λy19=>(aD ((M.1,M.2,y19),I.2))))))))))))) λJ=>(bD (a_ (ak ([]:List Int)+ak J.1.2.2) 8) (ck (fB J.p3.2.1 (ak J.2.1)) (ck (fB J.p3.2.1 (ak J.p2)) (aa ((((cz J.p4.1),J.p4.2),J.1.2.1),(cJ J.2.1 J.p3.2.1 J.1.1),(cJ J.p2 J.p3.2.1 (([]:List Int)++J.1.2.2)))))))) λr=>aa (bS r)))) (0,x.2.1,x.2.2,x.1.1,x.1.2,0,0)))
def mD (x:(Int×List jC)×Int×(List Int)×(List (List Int))×Int):Option (sI×Bool):=
 (jn (α:=Bool×(Int×List jC)×sI×Int×Int) (iO (aW x.p2) x.1.1 (aD (ah,x.1,x.2,0,0)) (aD ((!decide (((aW x.p3):Int)=x.1.1)),x.1,x.2,0,0))) λU=>(bcase U.1 (aa ((0,([]:List Int),([]:List (List Int)),0),ai)) (obind (ca U.p2) λZ=>(iter (σ:=Int×(Int×List jC)×(Int×Int)×(Int×Int)×(List Int)×List (List Int)) (λJ=>(jg J.1 (aW J.2.1.2) (jn (α:=Bool×(Int×List jC)×(Int×Int)×(Int×Int)×(List Int)×List (List Int)) (bu J.p2.1 0 (aD (ah,J.2)) (aD ((cR (aW J.2.1.2) J.p2.1),J.2))) λI=>(bcase I.1 (aD ((0,([]:List Int),([]:List (List Int)),0),ai)) (bF pX I.2.1.2 I.p2.1 λY=>(obind (oX Y.1) λy6=>(bcase (!y6) (aD ((I.p2.1,I.p4,I.q5,I.p2.2),ah)) (bc J.1 (aW I.2.1.2) (aD ((0,([]:List Int),([]:List (List Int)),0),ai)) (obind (uS ((Y,I.p2),I.q4)) λM=>(bD (aA (ak I.q5) (ak M.2.2)&&(aA (ak I.p4) (ak M.2.1)&&ah)) (bcase (!M.1.2) (aD ((0,([]:List Int),([]:List (List Int)),0),ai)) (cK ((cz J.1),I.2.1,M.1.1,I.p3,M.2))))))))))) (aD ((0,([]:List Int),([]:List (List Int)),0),ai)))) (0,U.2.1,Z.1,U.q3,Z.2)))))
def ql (x:gI×gp×(List eW)×b9×b9×List (Int×Int×Int)):Option oz:=
 (iter (σ:=Int×dF×Int×Int×List (Int×List Int)) (λM=>(bu M.1 (aW M.2.1.2.1) (bD (a_ (ak M.q4+ak ([((-1),([]:List Int))])) 32) (cK ((cz M.1),M.2.1,M.p2,M.p3,(M.q4++([((-1),([]:List Int))]))))) (obind (iter (σ:=Int×dF×Int×Int×gm×List Bool) (λJ=>(bu J.1 (aW J.2.1.p3) (bD (a_ (ak J.q5+ak ([ai])) 1) (cK ((cz J.1),J.2.1,J.p2,J.p3,J.p4,(J.q5++([ai]))))) (obind (iter (σ:=Int×dF×Int×Int×gm×(List Bool)×List dg) (λI=>(bu I.1 (aW I.2.1.p4) (jn (α:=dF×Int×Int×dg×gm×(List Bool)×List dg) (bc I.1 0 (aD (I.2.1,I.p2,I.p3,(1,0,ai),I.q4)) (aD (I.2.1,I.p2,I.p3,(0,0,ai),I.q4))) λU=>(bD (a_ (ak U.q6+ak ([U.p3])) 24) (cK ((cz I.1),U.1,U.2.1,U.p2,U.p4,U.p5,(U.q6++([U.p3])))))) (aD (I.p4,I.p3,I.q5)))) (0,J.2.1,J.p2,J.p3,J.p4,J.q5,([]:List dg))) λr=>aa (bS r)))) (0,M.2.1,M.p2,M.p3,M.q4,([]:List Bool))) λr=>aa (bS r)))) (0,x,0,(-1),([]:List (Int×List Int))))
def qm (x:dF×gm×Int×(List Bool)×List dg):Option (Bool):=
 (iter (σ:=Int×dF×gm×Int×(List Bool)×List dg) (λI=>(bu I.1 (aW I.2.1.p2) (jn (α:=Bool×dF×gm×Int×(List Bool)×List dg) (bF li I.2.1.p2 I.1 λU=>(bu U.2 0 (aD (ah,I.2)) (bF li I.2.1.p2 I.1 λM=>(aD ((cR (aW I.2.1.2.1) M.2),I.2))))) λJ=>(bcase J.1 (aD ai) (cK ((cz I.1),J.2)))) (obind (jn (α:=Bool) (bc (aW I.p2) (aW I.2.1.2.1) (bc (aW I.p4) (aW I.2.1.p3) (aD (decide (((aW I.q5):Int)=(aW I.2.1.p4)))) (aD ai)) (aD ai)) λY=>(aa Y)) λr=>aa (bS r)))) (0,x))
def py (x:Int×Int):Option (Bool):=
 (jn (α:=Bool) (jg 0 x.1 (aD (fE x.1 x.2)) (aD ai)) λI=>(aa I))
def sR (x:dF×Int×Int):Option (Bool):=
 (jn (α:=Bool×gI×gp×(List eW)×b9×b9×List (Int×Int×Int)) (bc x.2.1 1 (aD ((decide ((x.2.1:Int)=1)),x.1)) (bc x.2.1 2 (aD ((decide ((x.2.1:Int)=2)),x.1)) (bc x.2.1 5 (aD ((decide ((x.2.1:Int)=5)),x.1)) (bc x.2.1 12 (aD ((decide ((x.2.1:Int)=12)),x.1)) (bc x.2.1 13 (aD ((decide ((x.2.1:Int)=13)),x.1)) (bc x.2.1 14 (aD ((decide ((x.2.1:Int)=14)),x.1)) (aD ((decide ((x.2.1:Int)=15)),x.1)))))))) λx1=>(bcase x1.1 (aa (decide ((x.2.2:Int)=(-1)))) (jn (α:=Bool×gI×gp×(List eW)×b9×b9×List (Int×Int×Int)) (bc x.2.1 3 (aD ((decide ((x.2.1:Int)=3)),x1.2)) (aD ((decide ((x.2.1:Int)=4)),x1.2))) λZ=>(bcase Z.1 (obind (py (x.2.2,(aW Z.2.1))) λy3=>(aa y3)) (jn (α:=Bool×gI×gp×(List eW)×b9×b9×List (Int×Int×Int)) (bc x.2.1 6 (aD ((decide ((x.2.1:Int)=6)),Z.2)) (aD ((decide ((x.2.1:Int)=7)),Z.2))) λU=>(bcase U.1 (jn (α:=Bool) (obind (py (x.2.2,(aW U.p2))) λy6=>(bcase y6 (bF pZ U.p2 x.2.2 λz7=>(aD (!z7.2))) (aD ai))) λx5=>(aa x5)) (jn (α:=Bool×gI×gp×(List eW)×b9×b9×List (Int×Int×Int)) (bc x.2.1 8 (aD ((decide ((x.2.1:Int)=8)),U.2)) (bc x.2.1 9 (aD ((decide ((x.2.1:Int)=9)),U.2)) (bc x.2.1 10 (aD ((decide ((x.2.1:Int)=10)),U.2)) (aD ((decide ((x.2.1:Int)=11)),U.2))))) λM=>(bcase M.1 (jn (α:=Bool) (obind (py (x.2.2,(aW M.p2))) λy10=>(bcase y10 (bF pZ M.p2 x.2.2 λz11=>(aD z11.2)) (aD ai))) λx9=>(aa x9)) (jn (α:=Bool×gI×gp×(List eW)×b9×b9×List (Int×Int×Int)) (bc x.2.1 16 (aD ((decide ((x.2.1:Int)=16)),M.2)) (bc x.2.1 17 (aD ((decide ((x.2.1:Int)=17)),M.2)) (bc x.2.1 18 (aD ((decide ((x.2.1:Int)=18)),M.2)) (aD ((decide ((x.2.1:Int)=19)),M.2))))) λJ=>(bcase J.1 (obind (py (x.2.2,(aW J.p3))) λy13=>(aa y13)) (jn (α:=Bool×gI×gp×(List eW)×b9×b9×List (Int×Int×Int)) (bc x.2.1 20 (aD ((decide ((x.2.1:Int)=20)),J.2)) (aD ((decide ((x.2.1:Int)=21)),J.2))) λI=>(bcase I.1 (obind (py (x.2.2,(aW I.p5))) λy15=>(aa y15)) (jn (α:=Bool×gI×gp×(List eW)×b9×b9×List (Int×Int×Int)) (bc x.2.1 22 (aD ((decide ((x.2.1:Int)=22)),I.2)) (aD ((decide ((x.2.1:Int)=23)),I.2))) λY=>(bcase Y.1 (obind (py (x.2.2,(aW Y.p4))) λy17=>(aa y17)) (aa ai)))))))))))))))
def jO (x:dF×oz×Int×Int×Int):Option (Bool):=
 (jn (α:=Bool×dF×gm×Int×(List Bool)×List dg) (obind (qm (x.1,x.2.1)) λy2=>(bcase (!y2) (aD (ah,x.1,x.2.1)) (obind (py (x.p2,(aW x.1.p4))) λy3=>(bcase (!y3) (aD (ah,x.1,x.2.1)) (obind (sR (x.1,x.q3)) λy4=>(aD ((!y4),x.1,x.2.1))))))) λM=>(bcase M.1 (aa ai) (bF gU M.q5 x.p2 λU=>(bc x.p3 1 (aa (decide ((U.1:Int)=1))) (bc x.p3 17 (jn (α:=Bool) (bc U.1 4 (bc U.2.1 x.q4 (bF li M.2.1.p2 x.q4 λz7=>(bF dO M.p2 z7.2 λz8=>(aD (decide ((z8.1:Int)=(-1)))))) (aD ai)) (aD ai)) λx6=>(aa x6)) (iO U.1 2 (aa ai) (bc x.p3 6 (bF dO M.p2 x.q4 λz9=>(aa (decide ((z9.1:Int)=(-1))))) (bc x.p3 10 (jn (α:=Bool) (bF dO M.p2 x.q4 λz11=>(bc z11.1 (-1) (bF dO M.p2 x.q4 λz12=>(aD (decide (((aW z12.2):Int)=0)))) (aD ai))) λx10=>(aa x10)) (bc x.p3 8 (jn (α:=Bool) (bF dO M.p2 x.q4 λz14=>(bc z14.1 (-1) (bF dO M.p2 x.q4 λz15=>(obind (pA (z15.2,x.p2)) λy16=>(aD (!y16)))) (aD ai))) λx13=>(aa x13)) (jn (α:=Bool×dF×oz×Int×Int×Bool) (bc x.p3 7 (aD ((decide ((x.p3:Int)=7)),M.2.1,M.2.2,U)) (aD ((decide ((x.p3:Int)=11)),M.2.1,M.2.2,U))) λI=>(bcase I.1 (bF dO I.p2.1 x.q4 λz18=>(aa (decide ((z18.1:Int)=x.p2)))) (bc x.p3 9 (bF dO I.p2.1 x.q4 λz19=>(obind (pA (z19.2,x.p2)) λy20=>(aa y20))) (bc x.p3 12 (aa (decide ((I.p2.2.1:Int)=(-1)))) (bc x.p3 13 (aa (decide ((I.p2.2.1:Int)=x.p2))) (bc x.p3 14 (aa (!I.q5)) (bc x.p3 15 (aa I.q5) (jn (α:=Bool×dF×gm×Int×(List Bool)×List dg) (bc x.p3 16 (aD ((decide ((x.p3:Int)=16)),I.2.1,I.p2)) (bc x.p3 18 (aD ((decide ((x.p3:Int)=18)),I.2.1,I.p2)) (aD ((decide ((x.p3:Int)=19)),I.2.1,I.p2)))) λJ=>(bcase J.1 (bF li J.2.1.p2 x.q4 λz22=>(bF dO J.p2 z22.2 λz23=>(aa (decide ((z23.1:Int)=x.p2))))) (bc x.p3 20 (jn (α:=Bool) (iO x.q4 x.p2 (bF gU J.q5 x.q4 λz25=>(aD (decide ((z25.1:Int)=0)))) (aD ai)) λx24=>(aa x24)) (bc x.p3 21 (jn (α:=Bool) (iO x.q4 x.p2 (bF gU J.q5 x.q4 λz27=>(aD (decide ((z27.1:Int)=5)))) (aD ai)) λx26=>(aa x26)) (bc x.p3 22 (bF (.bool) J.p4 x.q4 λZ=>(aa (!Z))) (bc x.p3 23 (bF (.bool) J.p4 x.q4 λY=>(aa Y)) (aa ah)))))))))))))))))))))))
def mZ (x:oz×Int):Option (List Int):=
 (iter (σ:=Int×oz×List Int) (λI=>(bu I.1 (aW I.2.1.q3) (jn (α:=oz×List Int) (jn (α:=Bool×oz×List Int) (bF gU I.2.1.q3 I.1 λU=>(bc U.1 3 (bF gU I.2.1.q3 I.1 λM=>(aD ((decide ((M.2.1:Int)=x.2)),I.2))) (aD (ai,I.2)))) λJ=>(bcase J.1 (bD (a_ (ak J.2.2+ak ([I.1])) 8) (aD (J.2.1,(J.2.2++([I.1]))))) (aD J.2))) λY=>(cK ((cz I.1),Y))) (aD I.2.2))) (0,x.1,([]:List Int)))
def px (x:(List Int)×Int):Option (List Int):=
 (iter (σ:=Int×List Int) (λI=>(bu I.1 (aW x.1) (jn (α:=List Int) (bF aM x.1 I.1 λM=>(iO M x.2 (bF aM x.1 I.1 λJ=>(bD (a_ (ak I.2+ak ([J])) 8) (aD (I.2++([J]))))) (aD I.2))) λU=>(cK ((cz I.1),U))) (aD I.2))) (0,([]:List Int)))
def g_ (x:gm×Int×(List Bool)×List dg):Option (Int×gm×(List Bool)×List dg):=
 (bD (a_ (ak ([]:List Bool)+ak x.p2) 1) (bD (a_ (ak ([]:List dg)+ak x.q3) 24) (iter (σ:=Int×oz×Int×Int×gm×(List Bool)×List dg) (λI=>(bu I.1 (aW I.2.1.1) (bF dO I.2.1.1 I.1 λM=>(bF dO I.2.1.1 I.1 λJ=>(bD (a_ (ak ([]:List Int)+ak J.2) 8) (bD (a_ (ak I.p4+ak ([(M.1,(([]:List Int)++J.2))])) 32) (cK ((cz I.1),I.2.1,I.p2,I.p3,(I.p4++([(M.1,(([]:List Int)++J.2))])),I.q5)))))) (aD I.q3))) (0,x,0,x.2.1,([]:List (Int×List Int)),(([]:List Bool)++x.p2),(([]:List dg)++x.q3)))))
def lH (x:(Int×Int)×gm×(List Bool)×List dg):Option ((List Int)×gm×(List Bool)×List dg):=
 (iter (σ:=Int×gm×(List Bool)×(List dg)×Int×List Int) (λI=>(bu I.1 (aW I.p3) (jn (α:=gm×(List Bool)×(List dg)×Int×List Int) (jn (α:=Bool×gm×(List Bool)×(List dg)×Int×List Int) (kK gU I.p3 I.1 λU=>(bc U.1 3 (kK gU I.p3 I.1 λM=>(aD ((decide ((M.2.1:Int)=x.1.2)),I.2))) (aD (ai,I.2)))) λJ=>(bcase J.1 (bD (a_ (ak J.q5+ak ([I.1])) 8) (aD (J.2.1,J.p2,J.p3,J.p4,(J.q5++([I.1]))))) (aD J.2))) λY=>(cK ((cz I.1),Y))) (aD (I.q5,I.2.1,I.p2,I.p3)))) (0,x.2.1,x.p2,x.q3,x.1.1,([]:List Int)))
def ji (x:(Int×Int)×gm×(List Bool)×List dg):Option (List Int):=obind (lH x) λy=>same y.2 x.2 (aa y.1)
def oH (x:dF×oz×Int×Int×Int×Int):Option (oz×Int×Bool):=
 (obind (jO (x.1,x.2.1,x.p2,x.p3,x.p4)) λy1=>(bcase (!y1) (aa ((([]:List (Int×List Int)),0,([]:List Bool),([]:List dg)),0,ai)) (obind (g_ x.2.1) λU=>(jn (α:=Int×Int×Int×gm×(List Bool)×List dg) (bc x.p3 1 (ck (fB x.p2 (ak U.q3)) (aD (0,U.1,0,U.2.1,U.p2,(cJ U.q3 x.p2 (2,(aH (T:=gU) U.q3 x.p2).2))))) (bc x.p3 2 (ck (fB x.p2 (ak U.q3)) (aD (0,U.1,0,U.2.1,U.p2,(cJ U.q3 x.p2 (5,(aH (T:=gU) U.q3 x.p2).2))))) (jn (α:=Bool×dF×Int×Int×gm×(List Bool)×List dg) (bc x.p3 6 (aD ((decide ((x.p3:Int)=6)),x.1,U.1,0,U.2)) (aD ((decide ((x.p3:Int)=10)),x.1,U.1,0,U.2))) λY=>(bcase Y.1 (ck (fB x.p4 (ak Y.p4)) (aD (0,Y.p2,Y.p3,(cJ Y.p4 x.p4 (x.p2,(aH (T:=dO) Y.p4 x.p4).2)),Y.q5))) (jn (α:=Bool×dF×Int×Int×gm×(List Bool)×List dg) (bc x.p3 7 (aD ((decide ((x.p3:Int)=7)),Y.2)) (aD ((decide ((x.p3:Int)=11)),Y.2))) λI=>(bcase I.1 (ck (fB x.p4 (ak I.p4)) (aD (0,I.p2,I.p3,(cJ I.p4 x.p4 ((-1),(aH (T:=dO) I.p4 x.p4).2)),I.q5))) (bc x.p3 8 (kK dO I.p4 x.p4 λz6=>(obind (qn (z6.2,[x.p2])) λy7=>(ck (fB x.p4 (ak I.p4)) (aD (0,I.p2,I.p3,(cJ I.p4 x.p4 ((aH (T:=dO) I.p4 x.p4).1,y7)),I.q5))))) (bc x.p3 9 (kK dO I.p4 x.p4 λz8=>(obind (px (z8.2,x.p2)) λy9=>(ck (fB x.p4 (ak I.p4)) (aD (0,I.p2,I.p3,(cJ I.p4 x.p4 ((aH (T:=dO) I.p4 x.p4).1,y9)),I.q5))))) (bc x.p3 12 (aD (0,x.p2,I.q3)) (bc x.p3 13 (aD (0,(-1),I.q3)) (bc x.p3 14 (ck (fB x.p2 (ak I.q6)) (aD (0,I.p2,I.p3,I.p4,I.p5,(cJ I.q6 x.p2 ((aH (T:=gU) I.q6 x.p2).1,((aH (T:=gU) I.q6 x.p2).2).1,ah))))) (bc x.p3 15 (ck (fB x.p2 (ak I.q6)) (aD (0,I.p2,I.p3,I.p4,I.p5,(cJ I.q6 x.p2 ((aH (T:=gU) I.q6 x.p2).1,((aH (T:=gU) I.q6 x.p2).2).1,ai))))) (bc x.p3 16 (bF li I.2.1.p2 x.p4 λz10=>(ck (fB z10.2 (ak I.p4)) (ck (fB x.p2 (ak I.q6)) (ck (fB x.p2 (ak (cJ I.q6 x.p2 (3,(aH (T:=gU) I.q6 x.p2).2)))) (aD (0,I.p2,I.p3,(cJ I.p4 z10.2 ((-1),(aH (T:=dO) I.p4 z10.2).2)),I.p5,(cJ (cJ I.q6 x.p2 (3,(aH (T:=gU) I.q6 x.p2).2)) x.p2 ((aH (T:=gU) (cJ I.q6 x.p2 (3,(aH (T:=gU) I.q6 x.p2).2)) x.p2).1,x.p4,((aH (T:=gU) (cJ I.q6 x.p2 (3,(aH (T:=gU) I.q6 x.p2).2)) x.p2).2).2)))))))) (bc x.p3 17 (bF li I.2.1.p2 x.p4 λz11=>(ck (fB z11.2 (ak I.p4)) (ck (fB x.p2 (ak I.q6)) (ck (fB x.p2 (ak (cJ I.q6 x.p2 (2,(aH (T:=gU) I.q6 x.p2).2)))) (aD (0,I.p2,I.p3,(cJ I.p4 z11.2 (x.p2,(aH (T:=dO) I.p4 z11.2).2)),I.p5,(cJ (cJ I.q6 x.p2 (2,(aH (T:=gU) I.q6 x.p2).2)) x.p2 ((aH (T:=gU) (cJ I.q6 x.p2 (2,(aH (T:=gU) I.q6 x.p2).2)) x.p2).1,0,((aH (T:=gU) (cJ I.q6 x.p2 (2,(aH (T:=gU) I.q6 x.p2).2)) x.p2).2).2)))))))) (bc x.p3 18 (obind (ji ((I.p2,x.p4),I.q4)) λy12=>(bu 0 (aW y12) (bF aM y12 0 λz13=>(jn (α:=Int×Int×Int×gm×(List Bool)×List dg) (obind (pA (y12,x.q5)) λy15=>(bcase y15 (aD (x.q5,I.2.2)) (aD (z13,I.2.2)))) λM=>(ck (fB M.1 (ak M.q5)) (aD (M.1,M.2.1,M.p2,M.p3,M.p4,(cJ M.q5 M.1 (4,(aH (T:=gU) M.q5 M.1).2))))))) (aD ((-1),I.2.2)))) (bc x.p3 19 (obind (ji ((I.p2,x.p4),I.q4)) λy16=>(iter (σ:=Int×Int×Int×gm×(List Bool)×List dg) (λJ=>(bu J.1 (aW y16) (bF aM y16 J.1 λZ=>(ck (fB Z (ak J.q5)) (cK ((cz J.1),J.2.1,J.p2,J.p3,J.p4,(cJ J.q5 Z (4,(aH (T:=gU) J.q5 Z).2)))))) (aD (bS ((aW y16),J.2))))) (0,I.2.2))) (bc x.p3 20 (ck (fB x.p4 (ak I.q6)) (aD (0,I.p2,I.p3,I.p4,I.p5,(cJ I.q6 x.p4 (1,(aH (T:=gU) I.q6 x.p4).2))))) (bc x.p3 22 (ck (fB x.p4 (ak I.p5)) (aD (0,I.p2,I.p3,I.p4,(cJ I.p5 x.p4 ah),I.q6))) (aD (0,I.2.2)))))))))))))))))))) λx3=>(aa ((x3.p3,x3.2.1,x3.q4),x3.1,ah))))))
def sQ (x:dF×List (Int×List jC)):Option vD:=
 (obind (jk x) λy1=>(bcase (!y1) (aa ((([]:List (Int×List Int)),0,([]:List Bool),([]:List dg)),([]:List Int),([]:List Int),([]:List sI))) (obind (ql x.1) λy2=>(iter (σ:=Int×yn×Int×oz×List Int) (λM=>(bu M.1 (aW M.2.1.1.1) (bF j_ M.2.1.1.1 M.1 λZ=>(bD (a_ (ak M.q4+ak ([Z.2.2.2.2])) 8) (cK ((cz M.1),M.2.1,M.p2,M.p3,(M.q4++([Z.2.2.2.2])))))) (obind (iter (σ:=Int×yn×Int×oz×(List Int)×List Int) (λJ=>(bu J.1 (aW J.2.1.1.p3) (bD (a_ (ak J.q5+ak ([0])) 8) (cK ((cz J.1),J.2.1,J.p2,J.p3,J.p4,(J.q5++([0]))))) (obind (iter (σ:=Int×yn×Int×oz×(List Int)×(List Int)×List sI) (λI=>(bu I.1 (aW I.2.1.2) (vO I.1 I.2.1.2 (lt ((aH (T:=vE) I.2.1.2 I.1).1) λY=>(bD (cR 0 Y&&cR Y Y&&a_ (aS Y) 8) (vO I.1 I.2.1.2 (lt ((aH (T:=vE) I.2.1.2 I.1).1) λU=>(bD (cR 0 U&&cR U U&&a_ (aS U) 24) (bD (a_ (ak I.q6+ak ([(0,(aF (aS Y) (0:Int)),(aF (aS U) ([]:List Int)),0)])) 64) (cK ((cz I.1),I.2.1,I.p2,I.p3,I.p4,I.p5,(I.q6++([(0,(aF (aS Y) (0:Int)),(aF (aS U) ([]:List Int)),0)]))))))))))) (aD I.q3))) (0,J.2.1,J.p2,J.p3,J.p4,J.q5,([]:List sI))) λr=>aa (bS r)))) (0,M.2.1,M.p2,M.p3,M.q4,([]:List Int))) λr=>aa (bS r)))) (0,x,0,y2,([]:List Int))))))
def uR (x:yn×oz×(List Int)×(List Int)×List sI):Option (Bool):=
 (jn (α:=Bool×yn×oz×(List Int)×(List Int)×List sI) (obind (jk x.1) λy2=>(bcase (!y2) (aD (ah,x)) (obind (qm (x.1.1,x.2.1)) λy3=>(bcase (!y3) (aD (ah,x)) (iO (aW x.p2) (aW x.1.1.1) (aD (ah,x)) (iO (aW x.p3) (aW x.1.1.p3) (aD (ah,x)) (aD ((!decide (((aW x.q4):Int)=(aW x.1.2))),x)))))))) λU=>(bcase U.1 (aa ai) (iter (σ:=Int×yn×oz×(List Int)×(List Int)×List sI) (λI=>(bu I.1 (aW I.2.1.2) (bF eH I.q5 I.1 λJ=>(jn (α:=Bool×yn×oz×(List Int)×(List Int)×List sI) (bu J.1 0 (aD (ah,I.2)) (bF vE I.2.1.2 I.1 λz7=>(jg (aW z7.2) J.1 (aD (ah,I.2)) (bF vE I.2.1.2 I.1 λZ=>(iO (aW J.2.1) Z.1 (aD (ah,I.2)) (bF vE I.2.1.2 I.1 λY=>(aD ((!decide (((aW J.p2):Int)=Y.1)),I.2)))))))) λM=>(bcase M.1 (aD ai) (cK ((cz I.1),M.2))))) (aD ah))) (0,U.2))))
def uP (x:Int):Option (Int):=
 (jn (α:=Bool×List Int) (bu x 6 (aD (ah,[3,3,4,4,5,6,7,8,9,10,11,12,13,14,15,16,18,19,20,21,22,23,2])) (aD ((fE 28 x),[3,3,4,4,5,6,7,8,9,10,11,12,13,14,15,16,18,19,20,21,22,23,2]))) λI=>(bcase I.1 (aa 0) (kK aM I.2 (bg .i64 (x-6)) λJ=>(aa J))))
def rc (x:jC×Int×(List Int)×(List (List Int))×Int):Option (Int):=
 (jn (α:=Bool×jC×Int×(List Int)×(List (List Int))×Int) (bc x.1.1 6 (aD ((decide ((x.1.1:Int)=6)),x)) (aD ((decide ((x.1.1:Int)=27)),x))) λI=>(bcase I.1 (aa I.2.1.p2) (bc x.1.1 7 (bF aM I.p3 I.2.1.p3 λU=>(obind (qo (U,I.2.1.p4)) λZ=>(aa (bg .i64 (I.2.1.p2+Z))))) (bc x.1.1 9 (bF aM I.p3 I.2.1.p3 λM=>(obind (qo (M,I.2.1.p4)) λY=>(aa (bg .i64 (I.2.1.2.1+Y))))) (jn (α:=Bool×Int×Int×Int×Int×Int×Int) (bc x.1.1 10 (aD ((decide ((x.1.1:Int)=10)),I.2.1)) (bc x.1.1 17 (aD ((decide ((x.1.1:Int)=17)),I.2.1)) (bc x.1.1 18 (aD ((decide ((x.1.1:Int)=18)),I.2.1)) (bc x.1.1 19 (aD ((decide ((x.1.1:Int)=19)),I.2.1)) (bc x.1.1 20 (aD ((decide ((x.1.1:Int)=20)),I.2.1)) (aD ((decide ((x.1.1:Int)=28)),I.2.1))))))) λJ=>(bcase J.1 (aa (-1)) (aa J.p2)))))))
def mY (x:yn×vD×Int):Option (gy×Bool):=
 (jn (α:=Bool×yn×vD×Int×Int×Int×Int×Int) (obind (uR (x.1,x.2.1)) λy2=>(bcase (!y2) (aD (ah,x.1,x.2.1,0,0,0,0,0)) (bu x.2.2 0 (aD (ah,x.1,x.2.1,0,0,0,0,0)) (aD ((cR (aW x.1.2) x.2.2),x.1,x.2.1,0,0,0,0,0))))) λZ=>(bcase Z.1 (aa ((0,0,0,0,0,([]:List Int),([]:List Int)),ai)) (bF eH Z.p2.q3 x.2.2 λz3=>(bF vE Z.2.1.2 x.2.2 λz4=>(bF pX z4.2 z3.1 λM=>(bF gU Z.p2.1.q3 x.2.2 λz6=>(bc z6.1 1 (aa ((x.2.2,1,(-1),0,(-1),([]:List Int),([]:List Int)),ah)) (bc z6.1 4 (bF gU Z.p2.1.q3 x.2.2 λz7=>(aa ((x.2.2,17,z7.2.1,0,M.q5,([]:List Int),([]:List Int)),ah))) (bc z6.1 2 (obind (uP M.1) λy8=>(obind (rc (M,z3)) λy9=>(bc y8 0 (aa ((0,0,0,0,0,([]:List Int),([]:List Int)),ai)) (jn (α:=uA×sI×jC×uA×List Int) (bc M.1 10 (bF (.sl aM) z3.p2 M.2.1 λz11=>(bD (a_ (ak (z11:List Int)) 8) (aD (Z.q3,z3,M,(x.2.2,y8,y9,0,M.q5),z11)))) (jn (α:=Bool×uA×sI×jC×Int×Int×Int×Int×Int) (bc M.1 7 (aD ((decide ((M.1:Int)=7)),Z.q3,z3,M,x.2.2,y8,y9,0,M.q5)) (aD ((decide ((M.1:Int)=9)),Z.q3,z3,M,x.2.2,y8,y9,0,M.q5))) λI=>(bcase I.1 (bF (.sl aM) I.p2.p2 I.p3.p3 λz13=>(bD (a_ (ak (z13:List Int)) 8) (aD (I.2.1,I.p2,I.p3,I.q4,z13)))) (aD (I.2.1,I.p2,I.p3,I.q4,([]:List Int)))))) λY=>(jn (α:=uA×uA×(List Int)×List Int) (jn (α:=Bool×uA×sI×jC×uA×List Int) (bc Y.p2.1 8 (aD (ah,Y)) (bc Y.p2.1 9 (aD (ah,Y)) (aD ((decide ((Y.p2.1:Int)=26)),Y)))) λJ=>(bcase J.1 (bF (.sl aM) J.p2.p2 J.p3.p2 λz16=>(bD (a_ (ak (z16:List Int)) 8) (aD (J.2.1,J.p4,J.q5,z16)))) (aD (J.2.1,J.p4,J.q5,([]:List Int))))) λU=>(aa ((U.2.1.1,U.2.1.2.1,U.2.1.p2,U.2.1.p3,U.2.1.q4,U.2.2),ah))))))) (aa ((0,0,0,0,0,([]:List Int),([]:List Int)),ai)))))))))))
def mj (x:gI×gp×(List eW)×b9×b9×List (Int×Int×Int)):Option eg:=
 (obind (ql x) λM=>(bD (cR 0 (aW x.p3)&&cR (aW x.p3) (aW x.p3)&&a_ (aS (aW x.p3)) 8) (bD (cR 0 (aW x.p4)&&cR (aW x.p4) (aW x.p4)&&a_ (aS (aW x.p4)) 8) (iter (σ:=Int×dF×Int×oz×(List Int)×(List Int)×List Int) (λI=>(bu I.1 (aW I.2.1.1) (bF j_ I.2.1.1 I.1 λJ=>(bD (a_ (ak I.p4+ak ([J.2.2.2.2])) 8) (cK ((cz I.1),I.2.1,I.p2,I.p3,(I.p4++([J.2.2.2.2])),I.q5)))) (aD I.q3))) (0,x,0,M,([]:List Int),(aF (aS (aW x.p3)) (0:Int)),(aF (aS (aW x.p4)) (0:Int)))))))
def uO (x:dF×oz×(List Int)×(List Int)×List Int):Option (Bool):=
 (jn (α:=Bool) (obind (qm (x.1,x.2.1)) λI=>(bcase I (bc (aW x.p2) (aW x.1.1) (bc (aW x.p3) (aW x.1.p3) (aD (decide (((aW x.q4):Int)=(aW x.1.p4)))) (aD ai)) (aD ai)) (aD ai))) λJ=>(aa J))
def By (x:Int×Int):Option (Bool):=
 (jn (α:=Bool) (jg 0 x.1 (aD (fE x.1 x.2)) (aD ai)) λI=>(aa I))
def mX (x:(List Int)×Int):Option (Bool):=
 (iter (σ:=Int) (λI=>(bu I (aW x.1) (jn (α:=Bool) (bF aM x.1 I λY=>(bu Y 1 (aD ah) (bF aM x.1 I λU=>(jg x.2 U (aD ah) (bu 0 I (bF aM x.1 I λM=>(bF aM x.1 (bg .i64 (I-1)) λJ=>(aD (cR M J)))) (aD ai)))))) λZ=>(bcase Z (aD ai) (cK (cz I)))) (aD ah))) 0)
def sO (x:eg×Int×Int×Int×Int×Int×(List Int)×List Int):Option (Bool):=
 (bc x.p2 3 (bF aM x.1.2.1 x.p3 λU=>(aa (decide ((x.p4:Int)=U)))) (bc x.p2 23 (bF aM x.1.p2 x.p3 λM=>(aa (decide ((x.p4:Int)=M)))) (bc x.p2 5 (jn (α:=Bool) (bc x.p4 0 (aD ah) (aD (decide ((x.p4:Int)=1)))) λx3=>(aa x3)) (jn (α:=Bool×eg×Int×Int×Int×Int×Int×(List Int)×List Int) (bc x.p2 4 (aD ((decide ((x.p2:Int)=4)),x)) (aD ((decide ((x.p2:Int)=22)),x))) λI=>(bcase I.1 (aa ah) (bc x.p2 18 (obind (mZ (I.2.1.1,I.p4)) λJ=>(bc (aW J) 0 (aa (decide ((I.p5:Int)=(-1)))) (jn (α:=Bool) (jg 0 I.p5 (bu I.p5 (aW I.2.1.1.q3) (obind (pA (J,I.p5)) λZ=>(aD Z)) (aD ai)) (aD ai)) λx6=>(aa x6)))) (bc x.p2 19 (obind (mZ (I.2.1.1,I.p4)) λY=>(aa (decide ((I.p5:Int)=(aW Y))))) (aa (decide ((I.p5:Int)=0))))))))))
def qk (x:dF×eg×Int×Int×Int×Int×Int×(List Int)×List Int):Option (eg×Bool):=
 (jn (α:=Bool×dF×eg×gy×Int) (obind (uO (x.1,x.2.1)) λy2=>(bcase (!y2) (aD (ah,x.1,x.2.1,x.2.2,0)) (obind (By (x.p2,(aW x.1.p4))) λy3=>(bcase (!y3) (aD (ah,x.1,x.2.1,x.2.2,0)) (bu x.p3 1 (aD (ah,x.1,x.2.1,x.2.2,0)) (bu 23 x.p3 (aD (ah,x.1,x.2.1,x.2.2,0)) (obind (jO (x.1,x.2.1.1,x.p2,x.p3,x.p4)) λy4=>(aD ((!y4),x.1,x.2.1,x.2.2,0))))))))) λx1=>(bcase x1.1 (aa (((([]:List (Int×List Int)),0,([]:List Bool),([]:List dg)),([]:List Int),([]:List Int),([]:List Int)),ai)) (jn (α:=dF×eg×gy×Int) (jn (α:=Bool×dF×eg×gy×Int) (bc x1.p3.2.1 1 (aD (ah,x1.2)) (aD ((decide ((x1.p3.2.1:Int)=2)),x1.2))) λx6=>(bcase x6.1 (iO x6.p3.p4 (-1) (cK (((([]:List (Int×List Int)),0,([]:List Bool),([]:List dg)),([]:List Int),([]:List Int),([]:List Int)),ai)) (aD x6.2)) (jn (α:=Bool×dF×eg×gy×Int) (obind (By (x6.p3.p4,(aW x6.2.1.q5))) λy8=>(bcase (!y8) (aD (ah,x6.2)) (bF nO x6.2.1.q5 x6.p3.p4 λz9=>(aD ((!decide ((z9.1:Int)=x6.p3.1)),x6.2))))) λx7=>(bcase x7.1 (cK (((([]:List (Int×List Int)),0,([]:List Bool),([]:List dg)),([]:List Int),([]:List Int),([]:List Int)),ai)) (aD x7.2))))) λx5=>(jn (α:=Bool×dF×eg×gy×Int) (bc x5.p2.2.1 3 (aD (ah,x5)) (aD ((decide ((x5.p2.2.1:Int)=4)),x5))) λZ=>(jn (α:=Bool×dF×eg×gy×Int) (bu 0 (aW Z.p3.p5) (iO Z.p3.2.1 5 (bcase Z.1 (bF j_ Z.2.1.1 Z.p3.p2 λz12=>(aD ((!(!decide ((z12.2.2.1:Int)=0))),Z.2))) (aD (ah,Z.2))) (aD (ai,Z.2))) (aD (ai,Z.2))) λx11=>(bcase x11.1 (aa (((([]:List (Int×List Int)),0,([]:List Bool),([]:List dg)),([]:List Int),([]:List Int),([]:List Int)),ai)) (jn (α:=Bool×dF×eg×gy×Int) (bu 0 (aW x11.p3.q6) (iO x11.p3.2.1 4 (aD ((!decide ((x11.p3.2.1:Int)=22)),x11.2)) (aD (ai,x11.2))) (aD (ai,x11.2))) λU=>(bcase U.1 (aa (((([]:List (Int×List Int)),0,([]:List Bool),([]:List dg)),([]:List Int),([]:List Int),([]:List Int)),ai)) (jn (α:=Bool×dF×eg×gy×Int) (bF aM U.p2.q3 U.p3.1 λz15=>(obind (mX (U.p3.p5,z15)) λy16=>(bcase (!y16) (aD (ah,U.2)) (bF aM U.p2.q3 U.p3.1 λz17=>(obind (mX (U.p3.q6,z17)) λy18=>(bcase (!y18) (aD (ah,U.2)) (obind (sO (U.p2,U.p3)) λy19=>(aD ((!y19),U.2))))))))) λI=>(bcase I.1 (aa (((([]:List (Int×List Int)),0,([]:List Bool),([]:List dg)),([]:List Int),([]:List Int),([]:List Int)),ai)) (bD (a_ (ak ([]:List Int)+ak I.p2.2.1) 8) (bD (a_ (ak ([]:List Int)+ak I.p2.p2) 8) (bD (a_ (ak ([]:List Int)+ak I.p2.q3) 8) (jn (α:=Int×dF×eg×gy×Int×Int×(List Int)×(List Int)×List Int) (bc I.p3.2.1 18 (aD (I.p3.p3,I.2.1,I.p2,I.p3,I.q4,0,(([]:List Int)++I.p2.2.1),(([]:List Int)++I.p2.p2),(([]:List Int)++I.p2.q3))) (aD ((-1),I.2.1,I.p2,I.p3,I.q4,0,(([]:List Int)++I.p2.2.1),(([]:List Int)++I.p2.p2),(([]:List Int)++I.p2.q3)))) λJ=>(obind (oH (J.2.1,J.p2.1,J.p3.1,J.p3.2.1,J.p3.p2,J.1)) λy21=>(jn (α:=gy×Int×oz×(List Int)×(List Int)×List Int) (bc J.p3.2.1 4 (ck (fB J.p3.p2 (ak J.p6)) (aD (J.p3,J.p4,y21.1,(cJ J.p6 J.p3.p2 J.p3.p3),J.q7))) (aD (J.p3,J.p4,y21.1,J.q6))) λM=>(jn (α:=gy×Int×oz×(List Int)×(List Int)×List Int) (bc M.1.2.1 22 (ck (fB M.1.p2 (ak M.p4)) (aD (M.1,M.2.1,M.p2,M.p3,(cJ M.p4 M.1.p2 M.1.p3),M.q5))) (aD M)) λY=>(kK aM Y.q5 Y.1.1 λz24=>(ck (fB Y.1.1 (ak Y.q5)) (aa ((Y.p2,Y.p3,Y.p4,(cJ Y.q5 Y.1.1 (cz z24))),ah)))))))))))))))))))))
def qj (x:(List gy)×Int×Int×List Int):Option (Bool):=
 (iter (σ:=Int) (λJ=>(bu J (aW x.q3) (iter (σ:=Int×Bool×Int) (λI=>(bu I.2.2 x.2.1 (jn (α:=Int×Bool) (bF iK x.1 I.2.2 λz4=>(iO z4.1 x.p2 (aD (I.1,I.2.1)) (jn (α:=Bool) (bcase I.2.1 (aD ah) (bF aM x.q3 J λZ=>(bc I.1 Z (bF iK x.1 I.2.2 λY=>(bc Y.2.1 3 (aD ah) (bF iK x.1 I.2.2 λU=>(aD (decide ((U.2.1:Int)=23)))))) (aD ai)))) λx5=>(aD ((cz I.1),x5))))) λM=>(cK (M.1,M.2,(cz I.2.2)))) (obind (bcase (!I.2.1) (aD ai) (cK (cz J))) λr=>aa (bS r)))) (0,ai,0)) (aD ah))) 0)
def sP (x:dF×List gy):Option (Int×Int):=
 (bu 400 (aW x.2) (aa (0,2)) (obind (gP x.1) λy1=>(bcase (!y1) (aa (0,1)) (obind (mj x.1) λy2=>(iter (σ:=Int×(dF×List gy)×oz×(List Int)×(List Int)×List Int) (λI=>(bu I.1 (aW I.2.1.2) (bF iK I.2.1.2 I.1 λJ=>(obind (qk (I.2.1.1,I.2.2,J)) λM=>(jn (α:=Bool×(dF×List gy)×eg×oz×(List Int)×(List Int)×List Int) (bcase (!M.2) (aD (ah,I.2.1,I.2.2,M.1)) (obind (qj (I.2.1.2,I.1,J.1,J.p5)) λZ=>(bcase (!Z) (aD (ah,I.2.1,I.2.2,M.1)) (obind (qj (I.2.1.2,I.1,J.1,J.q6)) λY=>(aD ((!Y),I.2.1,I.2.2,M.1)))))) λU=>(bcase U.1 (aD (I.1,12)) (cK ((cz I.1),U.2.1,U.q3)))))) (aD (0,0)))) (0,x,y2))))))
def KG {Z W V:Type} (i:Int) (t1:Z->(List Int)->(List (List Int))->W) (t2:W->V) (t3:V->sI->List sI) (x6:Int) (I:yn×oz×(Int×Int)×Int×uA×gy×(Int×Int)×(List Int)×(List Int)×Z×(List Int)×List (List Int)):Option CG:=
 (jn (α:=oz×(Int×Int)×Int×uA×gy×sI×(List Int)×(List Int)×V) (jn (α:=Bool×yn×oz×(Int×Int)×Int×uA×gy×sI×(List Int)×(List Int)×W) (iO I.p5.2.1 16 (aD ((!decide ((I.p5.2.1:Int)=2)),I.1,I.2.1,I.p2,I.p3,I.p4,I.p5,(x6,I.p10,I.q11,(cz I.p6.2)),I.p7,I.p8,(t1 I.p9 I.p10 I.q11))) (aD (ai,I.1,I.2.1,I.p2,I.p3,I.p4,I.p5,(x6,I.p10,I.q11,(cz I.p6.2)),I.p7,I.p8,(t1 I.p9 I.p10 I.q11)))) λJ=>(bcase J.1 (bF vE J.2.1.2 J.p3.1 λU=>(obind (mD (U,J.p7)) λY=>(aD (J.p2,J.p3,J.p4,J.p5,J.p6,Y.1,J.p8,J.p9,(t2 J.q10))))) (aD (J.p2,J.p3,J.p4,J.p5,J.p6,J.p7,J.p8,J.p9,(t2 J.q10))))) λM=>(bc M.2.1.1 i (aa ((M.1,M.p6,M.p7,(t3 M.q8 M.p5)),M.p4,ah)) af))
def SG {Z:Type} (i:Int) (cp:(oz×(List Int)×(List Int)×List sI)->Option (Int×gm×(List Bool)×(List dg)×(List Int)×(List Int)×Z×(List Int)×List (List Int))) (Y ev:Z->Int) (k:Int->(yn×oz×(Int×Int)×Int×uA×gy×(Int×Int)×(List Int)×(List Int)×Z×(List Int)×List (List Int))->Option CG) (x:yn×vD×Int×Int):Option CG:=
 (obind (mY (x.1,x.2.1,x.p2)) λM=>(bcase (!M.2) (aa (((([]:List (Int×List Int)),0,([]:List Bool),([]:List dg)),([]:List Int),([]:List Int),([]:List sI)),(0,0,0,0,0,([]:List Int),([]:List Int)),ai)) (obind (oH (x.1.1,x.2.1.1,x.p2,M.1.2.1,M.1.p2,x.q3)) λy2=>(bcase (!y2.2.2) (aa (((([]:List (Int×List Int)),0,([]:List Bool),([]:List dg)),([]:List Int),([]:List Int),([]:List sI)),(0,0,0,0,0,([]:List Int),([]:List Int)),ai)) (obind (cp x.2.1) λU=>(bc x.p2 i (bF vE x.1.2 i λz4=>(bF pX z4.2 (Y U.p6) λz5=>(jn (α:=Int×yn×oz×(Int×Int)×Int×uA×gy×(Int×Int)×jC×(List Int)×(List Int)×Z×(List Int)×List (List Int)) (jn (α:=Bool×yn×oz×(Int×Int)×Int×uA×gy×(Int×Int)×jC×(List Int)×(List Int)×Z×(List Int)×List (List Int)) (bc M.1.2.1 1 (aD ((decide ((M.1.2.1:Int)=1)),x.1,y2.1,(i,x.q3),0,(0,0,0,0,0),(M.1.1,M.1.2.1,M.1.p2,y2.2.1,M.1.q4),((Y U.p6),(ev U.p6)),z5,U.q4)) (bc M.1.2.1 16 (aD ((decide ((M.1.2.1:Int)=16)),x.1,y2.1,(i,x.q3),0,(0,0,0,0,0),(M.1.1,M.1.2.1,M.1.p2,y2.2.1,M.1.q4),((Y U.p6),(ev U.p6)),z5,U.q4)) (aD ((decide ((M.1.2.1:Int)=2)),x.1,y2.1,(i,x.q3),0,(0,0,0,0,0),(M.1.1,M.1.2.1,M.1.p2,y2.2.1,M.1.q4),((Y U.p6),(ev U.p6)),z5,U.q4)))) λI=>(bcase I.1 (aD (I.p7.1,I.2)) (bc M.1.2.1 3 (kK aM I.p9 I.p6.p2 λz8=>(aD ((bg .i64 ((Y U.p6)+1)),I.2.1,I.p2,I.p3,I.p4,I.p5,(I.p6.1,I.p6.2.1,I.p6.p2,z8,I.p6.q4),I.q7))) (bc M.1.2.1 23 (kK aM I.p10 I.p6.p2 λz9=>(aD ((bg .i64 ((Y U.p6)+1)),I.2.1,I.p2,I.p3,I.p4,I.p5,(I.p6.1,I.p6.2.1,I.p6.p2,z9,I.p6.q4),I.q7))) (bc M.1.2.1 4 (kK aM I.p12 I.p8.p2 λz10=>(ck (fB I.p6.p2 (ak I.p9)) (aD ((bg .i64 ((Y U.p6)+1)),I.2.1,I.p2,I.p3,I.p4,I.p5,(I.p6.1,I.p6.2.1,I.p6.p2,z10,I.p6.q4),I.p7,I.p8,(cJ I.p9 I.p6.p2 z10),I.q10)))) (bc M.1.2.1 22 (kK aM I.p12 I.p8.p2 λz11=>(ck (fB I.p6.p2 (ak I.p10)) (aD ((bg .i64 ((Y U.p6)+1)),I.2.1,I.p2,I.p3,I.p4,I.p5,(I.p6.1,I.p6.2.1,I.p6.p2,z11,I.p6.q4),I.p7,I.p8,I.p9,(cJ I.p10 I.p6.p2 z11),I.q11)))) (bc M.1.2.1 5 (kK aM I.p12 I.p8.2.1 λz12=>(bc z12 0 (aD (I.p8.p2,I.2.1,I.p2,I.p3,I.p4,I.p5,(I.p6.1,I.p6.2.1,I.p6.p2,0,I.p6.q4),I.q7)) (aD ((bg .i64 ((Y U.p6)+1)),I.2.1,I.p2,I.p3,I.p4,I.p5,(I.p6.1,I.p6.2.1,I.p6.p2,1,I.p6.q4),I.q7)))) (aD ((bg .i64 ((Y U.p6)+1)),I.2))))))))) λx6=>(jn (α:=yn×oz×(Int×Int)×Int×uA×gy×(Int×Int)×(List Int)×(List Int)×Z×(List Int)×List (List Int)) (jn (α:=Bool×yn×oz×(Int×Int)×Int×uA×gy×(Int×Int)×jC×(List Int)×(List Int)×Z×(List Int)×List (List Int)) (bc x6.p6.2.1 3 (aD (ah,x6.2)) (aD ((decide ((x6.p6.2.1:Int)=23)),x6.2))) λJ=>(bcase J.1 (ck (fB J.p8.2.1 (ak J.p12)) (ck (fB J.p8.2.1 (ak J.q13)) (aD (J.2.1,J.p2,J.p3,J.p4,J.p5,J.p6,J.p7,J.p9,J.p10,J.p11,(cJ J.p12 J.p8.2.1 J.p6.p3),(cJ J.q13 J.p8.2.1 ([J.p7.2])))))) (aD (J.2.1,J.p2,J.p3,J.p4,J.p5,J.p6,J.p7,J.q9)))) λx13=>(k x6.1 x13))))) af))))))
def mC (x:oz×(List Int)×(List Int)×List sI):Option (Int×gm×(List Bool)×(List dg)×(List Int)×(List Int)×(Int×Int)×(List Int)×List (List Int)):=
 (obind (g_ x.1) λI=>(bD (a_ (ak ([]:List Int)+ak x.2.1) 8) (bD (a_ (ak ([]:List Int)+ak x.p2) 8) (bu 0 (aW x.q3) (bF eH x.q3 0 λM=>(obind (ca M) λU=>(bu 1 (aW x.q3) (bF eH x.q3 1 λJ=>(obind (ca J) λY=>af)) (aa (I.1,I.2.1,I.p2,I.q3,(([]:List Int)++x.2.1),(([]:List Int)++x.p2),U))))) af))))
def fK (x:yn×vD×Int×Int):Option CG:=
 SG 0 mC (λz=>z.1) (λz=>z.2) (KG 0 (λz R T=>(z.1,R,T,z.2)) (λw=>((w.1,w.2.1,w.2.2.1,w.2.2.2))) (λv t=>[t])) x
def mB (x:oz×(List Int)×(List Int)×List sI):Option (Int×gm×(List Bool)×(List dg)×(List Int)×(List Int)×Ya29×(List Int)×List (List Int)):=
 (obind (g_ x.1) λJ=>(bD (a_ (ak ([]:List Int)+ak x.2.1) 8) (bD (a_ (ak ([]:List Int)+ak x.p2) 8) (bu 0 (aW x.q3) (bF eH x.q3 0 λZ=>(obind (ca Z) λM=>(bu 1 (aW x.q3) (bF eH x.q3 1 λY=>(obind (ca Y) λI=>(bu 2 (aW x.q3) (bF eH x.q3 2 λU=>(obind (ca U) λy7=>af)) (aa (J.1,J.2.1,J.p2,J.q3,(([]:List Int)++x.2.1),(([]:List Int)++x.p2),(M.1.1,M.1.2,I.1.1,I.2.1,I.2.2,I.1.2),M.2))))) af))) af))))
def gi (x:yn×vD×Int×Int):Option CG:=
 SG 0 mB (λz=>z.1) (λz=>z.2.1) (KG 0 (λz R T=>(z.1,R,T,z.2.1,z.2.2)) (λw=>((w.1,w.2.1,w.2.2.1,w.2.2.2.1),w.2.2.2.2)) (λv t=>[t,v.2])) x
def mA (x:oz×(List Int)×(List Int)×List sI):Option (Int×gm×(List Bool)×(List dg)×(List Int)×(List Int)×(sI×Int×Int)×(List Int)×List (List Int)):=
 (obind (g_ x.1) λJ=>(bD (a_ (ak ([]:List Int)+ak x.2.1) 8) (bD (a_ (ak ([]:List Int)+ak x.p2) 8) (bu 0 (aW x.q3) (bF eH x.q3 0 λZ=>(obind (ca Z) λI=>(bu 1 (aW x.q3) (bF eH x.q3 1 λY=>(obind (ca Y) λM=>(bu 2 (aW x.q3) (bF eH x.q3 2 λU=>(obind (ca U) λy7=>af)) (aa (J.1,J.2.1,J.p2,J.q3,(([]:List Int)++x.2.1),(([]:List Int)++x.p2),((I.1.1,I.2.1,I.2.2,I.1.2),M.1),M.2))))) af))) af))))
def fJ (x:yn×vD×Int×Int):Option CG:=
 SG 1 mA (λz=>z.2.1) (λz=>z.2.2) (KG 1 (λz R T=>(z.1,z.2.1,R,T,z.2.2)) (λw=>(w.1,(w.2.1,w.2.2.1,w.2.2.2.1,w.2.2.2.2))) (λv t=>[v.1,t])) x
def mz (x:oz×(List Int)×(List Int)×List sI):Option (Int×gm×(List Bool)×(List dg)×(List Int)×(List Int)×Ya27×(List Int)×List (List Int)):=
 (obind (g_ x.1) λM=>(bD (a_ (ak ([]:List Int)+ak x.2.1) 8) (bD (a_ (ak ([]:List Int)+ak x.p2) 8) (bu 0 (aW x.q3) (bF eH x.q3 0 λz2=>(obind (ca z2) λU=>(bu 1 (aW x.q3) (bF eH x.q3 1 λz4=>(obind (ca z4) λJ=>(bu 2 (aW x.q3) (bF eH x.q3 2 λZ=>(obind (ca Z) λI=>(bu 3 (aW x.q3) (bF eH x.q3 3 λY=>(obind (ca Y) λy9=>af)) (aa (M.1,M.2.1,M.p2,M.q3,(([]:List Int)++x.2.1),(([]:List Int)++x.p2),(U.1.1,U.1.2,(J.1.1,J.2.1,J.2.2,J.1.2),I.1.1,I.2.1,I.2.2,I.1.2),U.2))))) af))) af))) af))))
def iY (x:yn×vD×Int×Int):Option CG:=
 SG 0 mz (λz=>z.1) (λz=>z.2.1) (KG 0 (λz R T=>(z.1,R,T,z.2.1,z.p2,z.q3)) (λw=>((w.1,w.2.1,w.2.2.1,w.2.2.2.1),w.2.2.2.2.1,w.2.2.2.2.2)) (λv t=>[t,v.2.1,v.2.2])) x
def my (x:oz×(List Int)×(List Int)×List sI):Option (Int×gm×(List Bool)×(List dg)×(List Int)×(List Int)×Ya28×(List Int)×List (List Int)):=
 (obind (g_ x.1) λM=>(bD (a_ (ak ([]:List Int)+ak x.2.1) 8) (bD (a_ (ak ([]:List Int)+ak x.p2) 8) (bu 0 (aW x.q3) (bF eH x.q3 0 λz2=>(obind (ca z2) λJ=>(bu 1 (aW x.q3) (bF eH x.q3 1 λz4=>(obind (ca z4) λU=>(bu 2 (aW x.q3) (bF eH x.q3 2 λZ=>(obind (ca Z) λI=>(bu 3 (aW x.q3) (bF eH x.q3 3 λY=>(obind (ca Y) λy9=>af)) (aa (M.1,M.2.1,M.p2,M.q3,(([]:List Int)++x.2.1),(([]:List Int)++x.p2),((J.1.1,J.2.1,J.2.2,J.1.2),U.1.1,U.1.2,I.1.1,I.2.1,I.2.2,I.1.2),U.2))))) af))) af))) af))))
def il (x:yn×vD×Int×Int):Option CG:=
 SG 1 my (λz=>z.2.1) (λz=>z.p2) (KG 1 (λz R T=>(z.1,z.2.1,R,T,z.p2,z.q3)) (λw=>(w.1,(w.2.1,w.2.2.1,w.2.2.2.1,w.2.2.2.2.1),w.2.2.2.2.2)) (λv t=>[v.1,t,v.2.2])) x
def mw (x:oz×(List Int)×(List Int)×List sI):Option (Int×gm×(List Bool)×(List dg)×(List Int)×(List Int)×(sI×sI×Int×Int)×(List Int)×List (List Int)):=
 (obind (g_ x.1) λM=>(bD (a_ (ak ([]:List Int)+ak x.2.1) 8) (bD (a_ (ak ([]:List Int)+ak x.p2) 8) (bu 0 (aW x.q3) (bF eH x.q3 0 λz2=>(obind (ca z2) λJ=>(bu 1 (aW x.q3) (bF eH x.q3 1 λz4=>(obind (ca z4) λI=>(bu 2 (aW x.q3) (bF eH x.q3 2 λZ=>(obind (ca Z) λU=>(bu 3 (aW x.q3) (bF eH x.q3 3 λY=>(obind (ca Y) λy9=>af)) (aa (M.1,M.2.1,M.p2,M.q3,(([]:List Int)++x.2.1),(([]:List Int)++x.p2),((J.1.1,J.2.1,J.2.2,J.1.2),(I.1.1,I.2.1,I.2.2,I.1.2),U.1),U.2))))) af))) af))) af))))
def gO (x:yn×vD×Int×Int):Option CG:=
 SG 2 mw (λz=>z.p2) (λz=>z.q3) (KG 2 (λz R T=>(z.1,z.2.1,z.p2,R,T,z.q3)) (λw=>(w.1,w.2.1,(w.2.2.1,w.2.2.2.1,w.2.2.2.2.1,w.2.2.2.2.2))) (λv t=>[v.1,v.2.1,t])) x
def mr (x:oz×(List Int)×(List Int)×List sI):Option (Int×gm×(List Bool)×(List dg)×(List Int)×(List Int)×Ya23×(List Int)×List (List Int)):=
 (obind (g_ x.1) λU=>(bD (a_ (ak ([]:List Int)+ak x.2.1) 8) (bD (a_ (ak ([]:List Int)+ak x.p2) 8) (bu 0 (aW x.q3) (bF eH x.q3 0 λz2=>(obind (ca z2) λZ=>(bu 1 (aW x.q3) (bF eH x.q3 1 λz4=>(obind (ca z4) λM=>(bu 2 (aW x.q3) (bF eH x.q3 2 λz6=>(obind (ca z6) λJ=>(bu 3 (aW x.q3) (bF eH x.q3 3 λz8=>(obind (ca z8) λI=>(bu 4 (aW x.q3) (bF eH x.q3 4 λY=>(obind (ca Y) λy11=>af)) (aa (U.1,U.2.1,U.p2,U.q3,(([]:List Int)++x.2.1),(([]:List Int)++x.p2),(Z.1.1,Z.1.2,(M.1.1,M.2.1,M.2.2,M.1.2),(J.1.1,J.2.1,J.2.2,J.1.2),I.1.1,I.2.1,I.2.2,I.1.2),Z.2))))) af))) af))) af))) af))))
def mm (x:yn×vD×Int×Int):Option CG:=
 SG 0 mr (λz=>z.1) (λz=>z.2.1) (KG 0 (λz R T=>(z.1,R,T,z.2.1,z.p2,z.p3,z.q4)) (λw=>((w.1,w.2.1,w.2.2.1,w.2.2.2.1),w.2.2.2.2.1,w.2.2.2.2.2.1,w.2.2.2.2.2.2)) (λv t=>[t,v.2.1,v.2.2.1,v.2.2.2])) x
def mq (x:oz×(List Int)×(List Int)×List sI):Option (Int×gm×(List Bool)×(List dg)×(List Int)×(List Int)×Ya24×(List Int)×List (List Int)):=
 (obind (g_ x.1) λU=>(bD (a_ (ak ([]:List Int)+ak x.2.1) 8) (bD (a_ (ak ([]:List Int)+ak x.p2) 8) (bu 0 (aW x.q3) (bF eH x.q3 0 λz2=>(obind (ca z2) λM=>(bu 1 (aW x.q3) (bF eH x.q3 1 λz4=>(obind (ca z4) λZ=>(bu 2 (aW x.q3) (bF eH x.q3 2 λz6=>(obind (ca z6) λJ=>(bu 3 (aW x.q3) (bF eH x.q3 3 λz8=>(obind (ca z8) λI=>(bu 4 (aW x.q3) (bF eH x.q3 4 λY=>(obind (ca Y) λy11=>af)) (aa (U.1,U.2.1,U.p2,U.q3,(([]:List Int)++x.2.1),(([]:List Int)++x.p2),((M.1.1,M.2.1,M.2.2,M.1.2),Z.1.1,Z.1.2,(J.1.1,J.2.1,J.2.2,J.1.2),I.1.1,I.2.1,I.2.2,I.1.2),Z.2))))) af))) af))) af))) af))))
def ml (x:yn×vD×Int×Int):Option CG:=
 SG 1 mq (λz=>z.2.1) (λz=>z.p2) (KG 1 (λz R T=>(z.1,z.2.1,R,T,z.p2,z.p3,z.q4)) (λw=>(w.1,(w.2.1,w.2.2.1,w.2.2.2.1,w.2.2.2.2.1),w.2.2.2.2.2.1,w.2.2.2.2.2.2)) (λv t=>[v.1,t,v.2.2.1,v.2.2.2])) x
def mo (x:oz×(List Int)×(List Int)×List sI):Option (Int×gm×(List Bool)×(List dg)×(List Int)×(List Int)×Ya25×(List Int)×List (List Int)):=
 (obind (g_ x.1) λU=>(bD (a_ (ak ([]:List Int)+ak x.2.1) 8) (bD (a_ (ak ([]:List Int)+ak x.p2) 8) (bu 0 (aW x.q3) (bF eH x.q3 0 λz2=>(obind (ca z2) λM=>(bu 1 (aW x.q3) (bF eH x.q3 1 λz4=>(obind (ca z4) λJ=>(bu 2 (aW x.q3) (bF eH x.q3 2 λz6=>(obind (ca z6) λZ=>(bu 3 (aW x.q3) (bF eH x.q3 3 λz8=>(obind (ca z8) λI=>(bu 4 (aW x.q3) (bF eH x.q3 4 λY=>(obind (ca Y) λy11=>af)) (aa (U.1,U.2.1,U.p2,U.q3,(([]:List Int)++x.2.1),(([]:List Int)++x.p2),((M.1.1,M.2.1,M.2.2,M.1.2),(J.1.1,J.2.1,J.2.2,J.1.2),Z.1.1,Z.1.2,I.1.1,I.2.1,I.2.2,I.1.2),Z.2))))) af))) af))) af))) af))))
def kM (x:yn×vD×Int×Int):Option CG:=
 SG 2 mo (λz=>z.p2) (λz=>z.p3) (KG 2 (λz R T=>(z.1,z.2.1,z.p2,R,T,z.p3,z.q4)) (λw=>(w.1,w.2.1,(w.2.2.1,w.2.2.2.1,w.2.2.2.2.1,w.2.2.2.2.2.1),w.2.2.2.2.2.2)) (λv t=>[v.1,v.2.1,t,v.2.2.2])) x
def mn (x:oz×(List Int)×(List Int)×List sI):Option (Int×gm×(List Bool)×(List dg)×(List Int)×(List Int)×Ya42×(List Int)×List (List Int)):=
 (obind (g_ x.1) λU=>(bD (a_ (ak ([]:List Int)+ak x.2.1) 8) (bD (a_ (ak ([]:List Int)+ak x.p2) 8) (bu 0 (aW x.q3) (bF eH x.q3 0 λz2=>(obind (ca z2) λM=>(bu 1 (aW x.q3) (bF eH x.q3 1 λz4=>(obind (ca z4) λJ=>(bu 2 (aW x.q3) (bF eH x.q3 2 λz6=>(obind (ca z6) λI=>(bu 3 (aW x.q3) (bF eH x.q3 3 λz8=>(obind (ca z8) λZ=>(bu 4 (aW x.q3) (bF eH x.q3 4 λY=>(obind (ca Y) λy11=>af)) (aa (U.1,U.2.1,U.p2,U.q3,(([]:List Int)++x.2.1),(([]:List Int)++x.p2),((M.1.1,M.2.1,M.2.2,M.1.2),(J.1.1,J.2.1,J.2.2,J.1.2),(I.1.1,I.2.1,I.2.2,I.1.2),Z.1),Z.2))))) af))) af))) af))) af))))
def jN (x:yn×vD×Int×Int):Option CG:=
 SG 3 mn (λz=>z.p3) (λz=>z.q4) (KG 3 (λz R T=>(z.1,z.2.1,z.p2,z.p3,R,T,z.q4)) (λw=>(w.1,w.2.1,w.2.2.1,(w.2.2.2.1,w.2.2.2.2.1,w.2.2.2.2.2.1,w.2.2.2.2.2.2))) (λv t=>[v.1,v.2.1,v.2.2.1,t])) x
def yH (x:yn×vD×Int×Int):Option CG:=orE (mm x) (orE (ml x) (orE (kM x) (orE (jN x) (orE (iY x) (orE (il x) (orE (gO x) (orE (gi x) (orE (fJ x) (fK x)))))))))
def uQ (x:yn×vD×List (Int×Int)):Option ((List gy)×oz×(List Int)×(List Int)×List sI):=
 (iter (σ:=Int×(List gy)×yn×vD×Int) (λJ=>(jn (α:=Bool×(List gy)×yn×vD×Int) (bu J.1 (aW x.2.2) (aD ((fE (aW J.2.1) 400),J.2)) (aD (ai,J.2))) λI=>(bcase I.1 (jn (α:=(List gy)×yn×vD×Int) (bF ir x.2.2 J.1 λU=>(obind (yH (I.p2,I.p3,U)) λM=>(bcase M.2.2 (bD (a_ (ak I.2.1+ak ([M.2.1])) 88) (aD ((I.2.1++([M.2.1])),I.p2,M.1,I.q4))) (aD I.2)))) λY=>(cK ((cz J.1),Y))) (aD (I.2.1,I.p3))))) (0,([]:List gy),x.1,x.2.1,0))
def xz (x:yn×List (Int×Int)):Option ((dF×List gy)×oz×(List Int)×(List Int)×List sI):=
 (obind (jk x.1) λM=>(bcase (!M) (aa (((([]:List Qr),([]:List ((List UInt8)×Bool)),([]:List eW),([]:List (List UInt8)),([]:List (List UInt8)),([]:List (Int×Int×Int))),([]:List gy)),(([]:List (Int×List Int)),0,([]:List Bool),([]:List dg)),([]:List Int),([]:List Int),([]:List sI))) (obind (sQ x.1) λJ=>(obind (uQ (x.1,J,x.2)) λI=>(aa ((x.1.1,I.1),I.2))))))
def bp (x:Int×(List Int)×Int):Option (Int×(List Int)×Int):=
 (jn (α:=Bool×(List Int)×Int) (jg (aW x.2.1) x.2.2 (aD (ah,x.2)) (aD ((fE x.1 1),x.2))) λI=>(bcase I.1 (aa (0,I.2)) (lt (cz I.2.2) λM=>(bF (.int .u8) I.2.1 (bg .i64 (M-1)) λJ=>(bD (!decide ((x.1:Int)=0)) (aa ((yC (bg .i64 J) x.1),I.2.1,(cz I.2.2))))))))
def qv (x:Int):Option (Xp):=
 (aa (dP (1,x,[],([]:List Xp))))
def oM (x:List UInt8):Option (Xp):=
 (aa (dP (2,0,x,([]:List Xp))))
def m8 (x:Int×Xp×Xp):Option (Xp):=
 (aa (dP (x.1,0,[],[dP ((Xp.op x.2.1),(Xp.n x.2.1),(Xp.name x.2.1),(Xp.l x.2.1)),dP ((Xp.op x.2.2),(Xp.n x.2.2),(Xp.name x.2.2),(Xp.l x.2.2))])))
def iW (x:(List UInt8)×Xp):Option (Sx):=
 (aa (m_ (1,0,x.1,[],([]:List Xp),dP ((Xp.op x.2),(Xp.n x.2),(Xp.name x.2),(Xp.l x.2)),([]:List Sx),([]:List Sx))))
def rf (x:Unit):Option qY:=
 (aa ([(1,0,[120],0,0,[]),(1,0,[121],0,1,[]),(2,0,[118],0,0,[]),(1,0,[113],2,0,[]),(3,0,[109],0,0,[]),(3,0,[110],0,0,[]),(4,0,[114],0,0,[]),(5,0,[99],0,0,[109]),(6,0,[102],0,0,[])]))
def n_ (x:List Int):Option (List (Int×Int)):=
 (iter (σ:=Int×List (Int×Int)) (λI=>(bu I.1 (aW x) (bF (.int .u8) x I.1 λM=>(bF (.int .u8) x I.1 λJ=>(bD (a_ (ak I.2+ak ([((yC (bg .i64 M) 4),(bg .i64 ((yC (bg .i64 (Int.tdiv (bg .i64 J) 4)) 5)-1)))])) 16) (cK ((cz I.1),(I.2++([((yC (bg .i64 M) 4),(bg .i64 ((yC (bg .i64 (Int.tdiv (bg .i64 J) 4)) 5)-1)))]))))))) (aD I.2))) (0,([]:List (Int×Int))))
def nl (rmade_maker_expr:Wo->Option ab1) (x:Int×xn×fx×Bool×List (List UInt8)):Option ab1:=
 (obind (bp (10,x.p2)) λZ=>(jn (α:=Bool×xn×fx×Qs×(Int×Int×List UInt8)×List (List UInt8)) (bu Z.1 2 (aD (ah,x.2.1,Z.2,x.q3,(0,0,[]),[[97],[98],[120],[121],[118],[120],[121]])) (bc x.1 0 (aD ((cR 7 Z.1),x.2.1,Z.2,x.q3,(0,0,[]),[[97],[98],[120],[121],[118],[120],[121]])) (aD (ai,x.2.1,Z.2,x.q3,(0,0,[]),[[97],[98],[120],[121],[118],[120],[121]])))) λI=>(bcase I.1 (obind (bp (4,I.p2)) λy3=>(obind (qv y3.1) λy4=>(aa (dP ((Xp.op y4),(Xp.n y4),(Xp.name y4),(Xp.l y4)),I.2.1,y3.2,I.p3)))) (bu Z.1 7 (obind (bp ((aW I.q5),I.p2)) λy5=>(kK (.str) I.q5 y5.1 λz6=>(obind (oM z6) λy7=>(aa (dP ((Xp.op y7),(Xp.n y7),(Xp.name y7),(Xp.l y7)),I.2.1,y5.2,I.p3))))) (bc Z.1 7 (obind (rmade_maker_expr (0,I.2.1,I.p2,I.p3)) λY=>(bD (((I.p3.1==Y.p3)&&ah)&&aA (ak I.p3.2) (ak Y.q4)&&ah) (aa (dP (3,0,[113],[dP ((Xp.op Y.1),(Xp.n Y.1),(Xp.name Y.1),(Xp.l Y.1))]),Y.2)))) (obind (bp ((aN (ak ([6,7,8,11,13,17]))),I.p2)) λy9=>(kK aM ([6,7,8,11,13,17]) y9.1 λz10=>(obind (rmade_maker_expr ((bg .i64 (x.1-1)),I.2.1,y9.2,I.p3)) λJ=>(bD (((I.p3.1==J.p3)&&ah)&&aA (ak I.p3.2) (ak J.q4)&&ah) (obind (rmade_maker_expr ((bg .i64 (x.1-1)),J.2)) λU=>(bD (((J.p3==U.p3)&&ah)&&aA (ak J.q4) (ak U.q4)&&ah) (obind (m8 (z10,J.1,U.1)) λM=>(aa (dP ((Xp.op M),(Xp.n M),(Xp.name M),(Xp.l M)),U.2))))))))))))))
def hY:Nat->Wo->Option ab1
 |0,_=>af
 |n+1,x=>nl (hY n) x
theorem xj (n:Nat) (x:Int×xn×fx×Bool×List (List UInt8)):hY (n+1) x=nl (hY n) x:=rfl
def eQ (x:Int×xn×fx×Bool×List (List UInt8)):Option ab1:=hY fuel x
def eA (x:(List UInt8)×xn×fx×Bool×List (List UInt8)):Option (Bool×xn×fx×Bool×List (List UInt8)):=
 (obind (iH (x.q4,x.1)) λI=>(aa ((cR 0 I),x.2)))
def l_ (rmade_maker_stmts:ab3->Option Wn) (rmade_maker_stmt:Wo->Option Y2) (rmade_maker_block:ab2->Option Y3) (x:(Int×Int)×xn×fx×Bool×List (List UInt8)):Option Wn:=
 (iter (σ:=Int×xn×fx×(List Sx)×Bool×List (List UInt8)) (λJ=>(jn (α:=Bool×xn×fx×(List Sx)×Bool×List (List UInt8)) (bu J.1 x.1.2 (bc J.1 0 (aD (ah,J.2)) (aD ((fE 0 J.2.1.2.1),J.2))) (aD (ai,J.2))) λI=>(bcase I.1 (obind (rmade_maker_stmt (x.1.1,I.2.1,I.p2,I.q4)) λM=>(bD (((I.p4==I.p4)&&ah)&&aA (ak I.q5) (ak I.q5)&&ah) (bD (a_ (ak I.p3+ak ([dS M.1])) 176) (cK ((cz J.1),M.2.1,M.p2,(I.p3++([dS M.1])),M.q3))))) (aD (I.2.1,I.p2,I.q4,I.p3))))) (0,x.2.1,x.p2,([]:List Sx),x.q3))
def nk (rmade_maker_stmts:ab3->Option Wn) (rmade_maker_stmt:Wo->Option Y2) (rmade_maker_block:ab2->Option Y3) (x:Int×xn×fx×Bool×List (List UInt8)):Option Y2:=
 (obind (bp (18,x.p2)) λy1=>(jn (α:=Bool×xn×fx×FJ×Bool×List (List UInt8)) (bu 0 x.1 (lt (bg .i64 (x.2.1.2.1-1)) λz3=>(bu 0 z3 (aD ((!x.2.1.p3),(x.2.1.1,(bg .i64 (x.2.1.2.1-1)),x.2.1.2.2),y1.2,(0,0,[],[],0,0,[]),x.q3)) (aD (ai,(x.2.1.1,(bg .i64 (x.2.1.2.1-1)),x.2.1.2.2),y1.2,(0,0,[],[],0,0,[]),x.q3)))) (aD (ai,(x.2.1.1,(bg .i64 (x.2.1.2.1-1)),x.2.1.2.2),y1.2,(0,0,[],[],0,0,[]),x.q3))) λx2=>(bu y1.1 4 (kK (.str) ([[120],[121],[120],[118]]) y1.1 λz4=>(obind (eQ (1,x2.2.1,x2.p2,x2.q4)) λy5=>(bD (((x2.p4==y5.p3)&&ah)&&aA (ak x2.q5) (ak y5.q4)&&ah) (obind (iW (z4,y5.1)) λy6=>(aa (dS y6,y5.2)))))) (bc y1.1 4 (obind (bp (2,x2.p2)) λy7=>(kK (.str) ([[97],[98]]) y7.1 λz8=>(obind (eQ (1,x2.2.1,y7.2,x2.q4)) λy9=>(bD (((x2.p4==y9.p3)&&ah)&&aA (ak x2.q5) (ak y9.q4)&&ah) (obind (iW (z8,y9.1)) λy10=>(aa (dS y10,y9.2))))))) (bc y1.1 5 (obind (eQ (0,x2.2.1,x2.p2,x2.q4)) λy11=>(bD (((x2.p4==y11.p3)&&ah)&&aA (ak x2.q5) (ak y11.q4)&&ah) (obind (eQ (1,y11.2)) λy12=>(bD (((y11.p3==y12.p3)&&ah)&&aA (ak y11.q4) (ak y12.q4)&&ah) (aa (m_ (1,0,[113],[],[dP ((Xp.op y11.1),(Xp.n y11.1),(Xp.name y11.1),(Xp.l y11.1))],dP ((Xp.op y12.1),(Xp.n y12.1),(Xp.name y12.1),(Xp.l y12.1)),([]:List Sx),([]:List Sx)),y12.2)))))) (jn (α:=Bool×xn×fx×FJ×Bool×List (List UInt8)) (bc y1.1 6 (aD ((fE 0 x.1),x2.2)) (aD (ai,x2.2))) λx13=>(bcase x13.1 (obind (eQ (1,x13.2.1,x13.p2,x13.q4)) λU=>(bD (((x13.p4==U.p3)&&ah)&&aA (ak x13.q5) (ak U.q4)&&ah) (obind (rmade_maker_stmts (((bg .i64 (x.1-1)),1),U.2)) λy15=>(bD (((U.p3==U.p3)&&ah)&&aA (ak U.q4) (ak U.q4)&&ah) (jn (α:=xn×fx×FJ×(Int×Int×(List UInt8)×(List UInt8)×Int×Int×(List UInt8)×List Xp)×Qs×(List Sx)×List Sx) (obind (bp (2,y15.2.1)) λy17=>(bc y17.1 1 (obind (rmade_maker_stmts (((bg .i64 (x.1-1)),1),y15.1,y17.2,y15.p2)) λy18=>(bD (((y15.p2.1==y15.p2.1)&&ah)&&aA (ak y15.p2.2) (ak y15.p2.2)&&ah) (aD (y18.1,y18.2.1,x13.p3,(2,0,[],[],(Xp.op U.1),(Xp.n U.1),(Xp.name U.1),(Xp.l U.1)),y18.p2,y15.q3,y18.q3)))) (aD (y15.1,y17.2,x13.p3,(2,0,[],[],(Xp.op U.1),(Xp.n U.1),(Xp.name U.1),(Xp.l U.1)),y15.p2,y15.q3,([]:List Sx))))) λx16=>(aa (m_ (x16.p3.1,x16.p3.2.1,x16.p3.p2,x16.p3.p3,([]:List Xp),dP x16.p3.q4,x16.q5),x16.1,x16.2.1,x16.p4))))))) (jn (α:=Bool×xn×fx×FJ×Bool×List (List UInt8)) (bc y1.1 7 (aD ((fE 0 x.1),x13.2)) (aD (ai,x13.2))) λI=>(bcase I.1 (obind (oM ([98])) λy20=>(obind (qv 2) λy21=>(obind (m8 (13,y20,y21)) λy22=>(obind (rmade_maker_stmts (((bg .i64 (x.1-1)),1),(I.2.1.1,I.2.1.2.1,I.2.1.p2,I.2.1.p3,I.2.1.p4,ah),I.p2,I.q4)) λy23=>(bD (((I.p4==I.p4)&&ah)&&aA (ak I.q5) (ak I.q5)&&ah) (obind (oM ([98])) λy24=>(obind (qv 1) λy25=>(obind (m8 (6,y24,y25)) λy26=>(obind (iW ([98],y26)) λy27=>(bD (a_ (ak y23.q3+ak ([dS y27])) 176) (aa (m_ (3,0,[],[],([]:List Xp),dP ((Xp.op y22),(Xp.n y22),(Xp.name y22),(Xp.l y22)),(y23.q3++([dS y27])),([]:List Sx)),(y23.1.1,y23.1.2.1,y23.1.p2,y23.1.p3,y23.1.p4,I.2.1.q5),y23.2.1,y23.p2)))))))))))) (jn (α:=Bool×xn×fx×FJ×Bool×List (List UInt8)) (bc y1.1 8 (bcase x2.1 (kK (.str) ([[109],[110]]) (bg .i64 (y1.1-8)) λz29=>(obind (eA (z29,I.2.1,I.p2,I.q4)) λy30=>(bD (((I.p4==y30.p3)&&ah)&&aA (ak I.q5) (ak y30.q4)&&ah) (aD ((!y30.1),y30.2.1,y30.p2,I.p3,y30.q3))))) (aD (ai,I.2))) (bc y1.1 9 (bcase x2.1 (kK (.str) ([[109],[110]]) (bg .i64 (y1.1-8)) λz31=>(obind (eA (z31,I.2.1,I.p2,I.q4)) λy32=>(bD (((I.p4==y32.p3)&&ah)&&aA (ak I.q5) (ak y32.q4)&&ah) (aD ((!y32.1),y32.2.1,y32.p2,I.p3,y32.q3))))) (aD (ai,I.2))) (aD (ai,I.2)))) λJ=>(bcase J.1 (kK (.str) ([[109],[110]]) (bg .i64 (y1.1-8)) λz33=>(obind (rmade_maker_block ((z33,(bg .i64 (x.1-1))),J.2.1,J.p2,J.q4)) λy34=>(bD (((J.p4==J.p4)&&ah)&&aA (ak J.q5) (ak J.q5)&&ah) (aa (m_ (4,0,z33,[],([]:List Xp),dP (0,0,[],([]:List Xp)),y34.1,([]:List Sx)),y34.2))))) (jn (α:=Bool×xn×fx×FJ×Bool×List (List UInt8)) (bc y1.1 10 (bcase x2.1 (obind (eA ([114],J.2.1,J.p2,J.q4)) λy36=>(bD (((J.p4==y36.p3)&&ah)&&aA (ak J.q5) (ak y36.q4)&&ah) (aD ((!y36.1),y36.2.1,y36.p2,J.p3,y36.q3)))) (aD (ai,J.2))) (bc y1.1 11 (bcase x2.1 (obind (eA ([114],J.2.1,J.p2,J.q4)) λy37=>(bD (((J.p4==y37.p3)&&ah)&&aA (ak J.q5) (ak y37.q4)&&ah) (aD ((!y37.1),y37.2.1,y37.p2,J.p3,y37.q3)))) (aD (ai,J.2))) (aD (ai,J.2)))) λx35=>(bcase x35.1 (obind (rmade_maker_block (([114],(bg .i64 (x.1-1))),x35.2.1,x35.p2,x35.q4)) λy38=>(bD (((x35.p4==x35.p4)&&ah)&&aA (ak x35.q5) (ak x35.q5)&&ah) (aa (m_ ((bg .i64 ((bg .i64 (y1.1-10))+5)),0,[114],[],([]:List Xp),dP (0,0,[],([]:List Xp)),y38.1,([]:List Sx)),y38.2)))) (jn (α:=Bool×xn×fx×FJ×Bool×List (List UInt8)) (bc y1.1 12 (aD (x2.1,x35.2)) (aD (ai,x35.2))) λY=>(bcase Y.1 (obind (bp (2,Y.p2)) λy40=>(obind (rmade_maker_stmts ((0,(bg .i64 (1+y40.1))),(Y.2.1.1,Y.2.1.2.1,Y.2.1.p2,ah,Y.2.1.q4),y40.2,Y.q4)) λy41=>(bD (((Y.p4==Y.p4)&&ah)&&aA (ak Y.q5) (ak Y.q5)&&ah) (aa (m_ (7,0,[],[],([]:List Xp),dP (0,0,[],([]:List Xp)),y41.q3,([]:List Sx)),(y41.1.1,y41.1.2.1,y41.1.p2,ai,y41.1.q4),y41.2.1,y41.p2))))) (jn (α:=Bool×xn×fx×FJ×Bool×List (List UInt8)) (bc y1.1 13 (bcase x2.1 (aD ((!Y.2.1.p4),Y.2)) (aD (ai,Y.2))) (aD (ai,Y.2))) λM=>(bcase M.1 (obind (rmade_maker_stmts (((bg .i64 (x.1-1)),2),(M.2.1.1,M.2.1.2.1,M.2.1.p2,M.2.1.p3,ah,M.2.1.q5),M.p2,M.q4)) λy43=>(bD (((M.p4==M.p4)&&ah)&&aA (ak M.q5) (ak M.q5)&&ah) (aa (m_ (8,0,[],[],([]:List Xp),dP (0,0,[],([]:List Xp)),y43.q3,([]:List Sx)),(y43.1.1,y43.1.2.1,y43.1.p2,y43.1.p3,ai,y43.1.q5),y43.2.1,y43.p2)))) (jn (α:=Bool×xn×fx×FJ×Bool×List (List UInt8)) (bc y1.1 14 (bcase x2.1 (bcase (!M.2.1.p4) (obind (eA ([109],M.2.1,M.p2,M.q4)) λy45=>(bD (((M.p4==y45.p3)&&ah)&&aA (ak M.q5) (ak y45.q4)&&ah) (aD ((!y45.1),y45.2.1,y45.p2,M.p3,y45.q3)))) (aD (ai,M.2))) (aD (ai,M.2))) (aD (ai,M.2))) λx44=>(bcase x44.1 (obind (oM ([120])) λy46=>(obind (iW ([97],y46)) λy47=>(aa (m_ (4,0,[109],[],([]:List Xp),dP (0,0,[],([]:List Xp)),[m_ (9,0,[99],[],([]:List Xp),dP (0,0,[],([]:List Xp)),([]:List Sx),([]:List Sx)),dS y47],([]:List Sx)),x44.2.1,x44.p2,x44.q4)))) (jn (α:=Bool×xn×fx×FJ×Bool×List (List UInt8)) (bc y1.1 15 (bcase x2.1 (obind (eA ([109],x44.2.1,x44.p2,x44.q4)) λy49=>(bD (((x44.p4==y49.p3)&&ah)&&aA (ak x44.q5) (ak y49.q4)&&ah) (aD ((!y49.1),y49.2.1,y49.p2,x44.p3,y49.q3)))) (aD (ai,x44.2))) (aD (ai,x44.2))) λx48=>(bcase x48.1 (obind (bp (2,x48.p2)) λy50=>(aa (m_ (4,0,[109],[],([]:List Xp),dP (0,0,[],([]:List Xp)),[m_ ((bg .i64 (10+y50.1)),0,[99],[],([]:List Xp),dP (0,0,[],([]:List Xp)),([]:List Sx),([]:List Sx))],([]:List Sx)),x48.2.1,y50.2,x48.q4))) (jn (α:=Bool×xn×fx×FJ×Bool×List (List UInt8)) (bc y1.1 16 (bcase (!x48.2.1.p3) (bcase (!x48.2.1.q5) (aD ((!x48.2.1.p2),x48.2)) (aD (ai,x48.2))) (aD (ai,x48.2))) (aD (ai,x48.2))) λZ=>(bcase Z.1 (obind (eQ (1,(Z.2.1.1,Z.2.1.2.1,ah,Z.2.1.q3),Z.p2,Z.q4)) λy52=>(bD (((Z.p4==y52.p3)&&ah)&&aA (ak Z.q5) (ak y52.q4)&&ah) (aa (m_ (14,0,[102],[],([]:List Xp),dP ((Xp.op y52.1),(Xp.n y52.1),(Xp.name y52.1),(Xp.l y52.1)),([]:List Sx),([]:List Sx)),y52.2)))) (jn (α:=Bool×xn×fx×FJ×Bool×List (List UInt8)) (bc y1.1 17 (bcase (!Z.2.1.p3) (obind (bp (2,Z.p2)) λy54=>(aD ((decide ((y54.1:Int)=1)),Z.2.1,y54.2,Z.q3))) (aD (ai,Z.2))) (aD (ai,Z.2))) λx53=>(bcase x53.1 (aa (m_ (15,0,[97],[102],([]:List Xp),dP (0,0,[],([]:List Xp)),([]:List Sx),([]:List Sx)),x53.2.1,x53.p2,x53.q4)) (obind (eQ (1,x53.2.1,x53.p2,x53.q4)) λy55=>(bD (((x53.p4==y55.p3)&&ah)&&aA (ak x53.q5) (ak y55.q4)&&ah) (obind (iW ([120],y55.1)) λy56=>(aa (dS y56,y55.2))))))))))))))))))))))))))))))
def ma (rmade_maker_stmts:ab3->Option Wn) (rmade_maker_stmt:Wo->Option Y2) (rmade_maker_block:ab2->Option Y3) (x:eW×xn×fx×Bool×List (List UInt8)):Option Y3:=
 (bD (a_ (ak x.q4+ak ([x.1.1])) 16) (obind (bp (2,x.p2)) λJ=>(obind (rmade_maker_stmts ((x.1.2,(bg .i64 (1+J.1))),x.2.1,J.2,x.p3,(x.q4++([x.1.1])))) λI=>(bD (((x.p3==x.p3)&&ah)&&aA (ak (x.q4++([x.1.1]))) (ak (x.q4++([x.1.1])))&&ah) (bD (cR 0 (bg .i64 ((aW I.p2.2)-1))&&fE (bg .i64 ((aW I.p2.2)-1)) (ak I.p2.2)) (aa (I.q3,I.1,I.2.1,ai,(dE (aS (bg .i64 ((aW I.p2.2)-1))) I.p2.2))))))))
mutual
def dx:Nat->ab3->Option Wn
 |0,_=>af
 |n+1,x=>l_ (dx n) (ec n) (dM n) x
def ec:Nat->Wo->Option Y2
 |0,_=>af
 |n+1,x=>nk (dx n) (ec n) (dM n) x
def dM:Nat->ab2->Option Y3
 |0,_=>af
 |n+1,x=>ma (dx n) (ec n) (dM n) x
end
def pC (x:(Int×Int)×xn×fx×Bool×List (List UInt8)):Option Wn:=dx fuel x
def nZ (x:List Int):Option (qY×List qX):=
 (obind (rf ()) λy1=>(obind (bp (3,x,0)) λy2=>(iter (σ:=Int×xn×qY×b9×fx×Qs×List qX) (λM=>(bu M.1 (bg .i64 (2+y2.1)) (kK (.str) M.p3 M.1 λz4=>(jn (α:=xn×qY×b9×eW×fx×Qs×(List qX)×b9×List Sx) (bc M.1 0 (iter (σ:=Int×xn×qY×b9×eW×fx×Qs×(List qX)×b9×List Sx) (λY=>(bu Y.1 (bg .i64 (2+y2.1)) (kK (.str) Y.p3 Y.1 λz7=>(bD (a_ (ak Y.q9+ak ([m_ (12,0,z7,[],([]:List Xp),dP (0,0,[],([]:List Xp)),([]:List Sx),([]:List Sx))])) 176) (cK ((cz Y.1),Y.2.1,Y.p2,Y.p3,Y.p4,Y.p5,Y.p6,Y.p7,Y.p8,(Y.q9++([m_ (12,0,z7,[],([]:List Xp),dP (0,0,[],([]:List Xp)),([]:List Sx),([]:List Sx))])))))) (aD (bS Y.2)))) (1,(M.1,M.2.1.2),M.p2,M.p3,(z4,0),M.p4,M.p5,M.q6,[[97],[98]],([]:List Sx))) (aD ((M.1,M.2.1.2),M.p2,M.p3,(z4,0),M.p4,M.p5,M.q6,[[97],[98]],([]:List Sx)))) λU=>(obind (bp (3,U.p4)) λy8=>(obind (pC ((2,(bg .i64 (1+y8.1))),U.1,y8.2,U.p5)) λZ=>(bD (((U.p5.1==U.p5.1)&&ah)&&aA (ak U.p5.2) (ak U.p5.2)&&ah) (bD (a_ (ak U.q8+ak Z.q3) 176) (jn (α:=xn×qY×b9×eW×fx×Qs×(List qX)×b9×List Sx) (jn (α:=Bool×xn×qY×b9×eW×fx×Qs×(List qX)×b9×List Sx) (bc M.1 0 (obind (bp (3,Z.2.1)) λy12=>(aD ((decide ((y12.1:Int)=2)),Z.1,U.2.1,U.p2,U.p3,y12.2,Z.p2,U.p6,U.p7,(U.q8++Z.q3)))) (aD (ai,Z.1,U.2.1,U.p2,U.p3,Z.2.1,Z.p2,U.p6,U.p7,(U.q8++Z.q3)))) λI=>(bcase I.1 (kK (.str) I.p3 1 λz13=>(bD (a_ (ak I.q9+ak ([m_ (13,0,z13,[],([]:List Xp),dP (0,0,[],([]:List Xp)),([]:List Sx),([]:List Sx))])) 176) (aD (I.2.1,I.p2,I.p3,I.p4,I.p5,I.p6,I.p7,I.p8,(I.q9++([m_ (13,0,z13,[],([]:List Xp),dP (0,0,[],([]:List Xp)),([]:List Sx),([]:List Sx))])))))) (aD I.2))) λJ=>(bD (a_ (ak J.p6+ak ([(J.p3.1,J.p3.2,J.q7)])) 72) (cK ((cz M.1),J.1,J.2.1,J.p2,J.p4,J.p5,(J.p6++([(J.p3.1,J.p3.2,J.q7)])))))))))))) (obind (obind (eV (M.p2,M.q6)) λy14=>(iO y14.1 0 (obind (rf ()) λy15=>(obind (qv 1) λy16=>(obind (iW ([120],y16)) λy17=>(aa (y15,[([109,97,105,110],0,[[97],[98]],[dS y17])]))))) (aa (M.p2,M.q6)))) λr=>aa (bS r)))) (0,(0,20,ai,ai,ai,ai),y1,[[109,97,105,110],[116,49],[116,50],[116,51]],y2.2,(ah,([]:List (List UInt8))),([]:List qX)))))
def vV (x:List Int):Option yn:=
 (obind (nZ x) λJ=>(obind (pB J) λI=>(aa I.1)))
def rh (x:(List Int)×List Int):Option (dF×List gy):=
 (obind (vV x.1) λM=>(obind (n_ x.2) λJ=>(obind (xz (M,J)) λI=>(aa I.1))))
def mW (x:Unit):Option dF:=
 (iter (σ:=Int×gI×gp×(List eW)×b9×b9×List (Int×Int×Int)) (λJ=>(bu J.1 (aN (ak ([[109,97,105,110],[116,49],[116,50],[116,51]]))) (iter (σ:=Int×gI×gp×(List eW)×b9×b9×List (Int×Int×Int)) (λI=>(bu I.1 6 (bD (a_ (ak I.q6+ak ([(J.1,I.1,(bg .i64 ((bg .i64 ((bg .i64 (10*J.1))+I.1))+1)))])) 24) (cK ((cz I.1),I.2.1,I.p2,I.p3,I.p4,I.p5,(I.q6++([(J.1,I.1,(bg .i64 ((bg .i64 ((bg .i64 (10*J.1))+I.1))+1)))]))))) (aD (lX ((cz J.1),I.2))))) (0,J.2)) (aD J.2))) (0,[([120],0,0,ai,0),([121],0,0,ai,1),([118],0,0,ah,0),([113],0,2,ai,0),([113],1,2,ai,0)],[([109],ai),([110],ai),([114],ah)],[([99],0)],[[102]],[[109,97,105,110],[116,49],[116,50],[116,51]],([]:List (Int×Int×Int))))
def ky (x:oz×(List Int)×(List Int)×List Int):Option (List Int):=
 (iter (σ:=Int×List Int) (λI=>(bu I.1 (aW x.1.q3) (jn (α:=List Int) (bF gU x.1.q3 I.1 λJ=>(bc J.1 3 (bD (a_ (ak I.2+ak ([I.1])) 8) (aD (I.2++([I.1])))) (aD I.2))) λM=>(cK ((cz I.1),M))) (aD I.2))) (0,([]:List Int)))
def r8 (x:Unit):Option (List Int):=
 (aa ([3,3,3,3,3,4,4,4,4,4,5,5,5,6,6,6,7,7,7,8,9,10,11,12,13,14,14,15,16,16,17,17,18,18,19,20,1,1,2,21,22,23,23]))
def nW (x:(Int×Int)×(List Int)×Int):Option (Int×(List Int)×Int):=
 (jn (α:=Bool×(List Int)×Int) (bc x.1.1 3 (aD ((decide ((x.1.1:Int)=3)),x.2)) (aD ((decide ((x.1.1:Int)=4)),x.2))) λU=>(bcase U.1 (obind (bp (8,U.2)) λy2=>(kK aM ([0,0,0,1,1,2,3,4]) y2.1 λz3=>(aa (z3,y2.2)))) (jn (α:=Bool×(List Int)×Int) (bc x.1.1 6 (aD ((decide ((x.1.1:Int)=6)),U.2)) (aD ((decide ((x.1.1:Int)=7)),U.2))) λJ=>(bcase J.1 (obind (bp (2,J.2)) λy5=>(aa y5)) (jn (α:=Bool×(List Int)×Int) (bc x.1.1 8 (aD ((decide ((x.1.1:Int)=8)),J.2)) (bc x.1.1 9 (aD ((decide ((x.1.1:Int)=9)),J.2)) (bc x.1.1 10 (aD ((decide ((x.1.1:Int)=10)),J.2)) (aD ((decide ((x.1.1:Int)=11)),J.2))))) λI=>(bcase I.1 (aa (2,I.2)) (jn (α:=Bool×(List Int)×Int) (bc x.1.1 16 (aD ((decide ((x.1.1:Int)=16)),I.2)) (bc x.1.1 17 (aD ((decide ((x.1.1:Int)=17)),I.2)) (bc x.1.1 18 (aD ((decide ((x.1.1:Int)=18)),I.2)) (bc x.1.1 19 (aD ((decide ((x.1.1:Int)=19)),I.2)) (bc x.1.1 22 (aD ((decide ((x.1.1:Int)=22)),I.2)) (aD ((decide ((x.1.1:Int)=23)),I.2))))))) λM=>(bcase M.1 (aa (0,M.2)) (jn (α:=Bool×(List Int)×Int) (bc x.1.1 20 (aD ((decide ((x.1.1:Int)=20)),M.2)) (aD ((decide ((x.1.1:Int)=21)),M.2))) λY=>(bcase Y.1 (obind (bp (3,Y.2)) λZ=>(aa ((yC (bg .i64 ((cz x.1.2)+Z.1)) 4),Z.2))) (aa ((-1),Y.2))))))))))))
def pt (x:(eg×Int×Int)×(List Int)×Int):Option (Int×(List Int)×Int):=
 (bc x.1.2.1 3 (bF aM x.1.1.2.1 x.1.2.2 λZ=>(aa (Z,x.2))) (bc x.1.2.1 23 (bF aM x.1.1.p2 0 λY=>(aa (Y,x.2))) (jn (α:=Bool×fx×oz×(List Int)×(List Int)×List Int) (bc x.1.2.1 4 (aD ((decide ((x.1.2.1:Int)=4)),x.2,x.1.1)) (aD ((decide ((x.1.2.1:Int)=22)),x.2,x.1.1))) λI=>(bcase I.1 (obind (bp (3,I.2.1)) λy4=>(aa y4)) (bc x.1.2.1 5 (obind (bp (2,I.2.1)) λy5=>(aa y5)) (bc x.1.2.1 18 (obind (ky I.2.2) λJ=>(bu 0 (aW J) (obind (bp ((aW J),I.2.1)) λM=>(bF aM J M.1 λU=>(aa (U,M.2)))) (aa ((-1),I.2.1)))) (bc x.1.2.1 19 (obind (ky I.2.2) λy9=>(aa ((aW y9),I.2.1))) (aa (0,I.2.1)))))))))
def gh (x:fx×List Int):Option ((List Int)×fx×List Int):=
 (iter (σ:=Int×fx×(List Int)×List Int) (λI=>(bu I.1 (aW x.2) (jn (α:=fx×(List Int)×List Int) (kK aM I.p2 I.1 λM=>(jn (α:=Bool×fx×(List Int)×List Int) (jg (aW I.p2) (bg .i64 (I.1+3)) (obind (bp (2,I.2.1)) λU=>(aD ((decide ((U.1:Int)=1)),U.2,I.2.2))) (aD (ai,I.2))) λJ=>(bcase J.1 (bD (a_ (ak J.q3+ak ([M])) 8) (aD (J.2.1,J.p2,(J.q3++([M]))))) (aD J.2)))) λY=>(cK ((cz I.1),Y))) (aD (I.q3,I.2.1,I.p2)))) (0,x.1,x.2,([]:List Int)))
def pu (x:(eg×gI×gp×(List eW)×b9×b9×List (Int×Int×Int))×fx×(List Int)×(List Int)×(List Int)×List Int):Option (gy×fx×(List Int)×(List Int)×(List Int)×List Int):=
 (obind (bp (4,x.2.1)) λU=>(obind (r8 ()) λy2=>(obind (bp ((aW y2),U.2)) λy3=>(bF aM y2 y3.1 λz4=>(obind (bp (6,y3.2)) λy5=>(jn (α:=fx×(List Int)×(List Int)×(List Int)×(List Int)×eg×dF×uA×Int×Int×Int×Int×Int) (jn (α:=Bool×fx×(List Int)×(List Int)×(List Int)×(List Int)×eg×dF×uA×Int×Int×Int×Int×Int) (bc z4 1 (aD (ah,y5.2,x.p2,x.p3,x.p4,x.q5,x.1.1,x.1.2,(0,0,0,0,0),U.1,z4,0,0,(bg .i64 ((bg .i64 (U.1*6))+y5.1)))) (aD ((decide ((z4:Int)=2)),y5.2,x.p2,x.p3,x.p4,x.q5,x.1.1,x.1.2,(0,0,0,0,0),U.1,z4,0,0,(bg .i64 ((bg .i64 (U.1*6))+y5.1))))) λY=>(bcase Y.1 (aD (Y.2.1,Y.p2,Y.p3,Y.p4,Y.p5,Y.p6,Y.p7,Y.p8,Y.p9,Y.p10,Y.p11,Y.p12,(-1))) (aD Y.2))) λM=>(obind (nW ((M.p9,U.1),M.1)) λy8=>(obind (pt ((M.p5,M.p9,y8.1),y8.2)) λy9=>(jn (α:=fx×(List Int)×(List Int)×(List Int)×(List Int)×uA×Int×Int×Int×Int×Int×List Int) (jn (α:=Bool×fx×(List Int)×(List Int)×(List Int)×(List Int)×uA×Int×Int×Int×Int×Int) (bc M.p9 5 (aD (ah,y9.2,M.2.1,M.p2,M.p3,M.p4,M.p7,M.p8,M.p9,y8.1,y9.1,M.q12)) (bc M.p9 3 (bF j_ M.p6.1 y8.1 λz12=>(aD ((fE 0 z12.2.2.1),y9.2,M.2.1,M.p2,M.p3,M.p4,M.p7,M.p8,M.p9,y8.1,y9.1,M.q12))) (bc M.p9 4 (bF j_ M.p6.1 y8.1 λz13=>(aD ((fE 0 z13.2.2.1),y9.2,M.2.1,M.p2,M.p3,M.p4,M.p7,M.p8,M.p9,y8.1,y9.1,M.q12))) (aD (ai,y9.2,M.2.1,M.p2,M.p3,M.p4,M.p7,M.p8,M.p9,y8.1,y9.1,M.q12))))) λJ=>(bcase J.1 (bc U.1 0 (obind (gh (J.2.1,J.p2)) λy14=>(bD (aA (ak J.p2) (ak y14.2.2)&&ah) (aD (y14.2.1,y14.2.2,J.p3,J.p4,J.p5,J.p6,J.p7,J.p8,J.p9,J.p10,J.q11,y14.1)))) (bc U.1 1 (obind (gh (J.2.1,J.p3)) λy15=>(bD (aA (ak J.p3) (ak y15.2.2)&&ah) (aD (y15.2.1,J.p2,y15.2.2,J.p4,J.p5,J.p6,J.p7,J.p8,J.p9,J.p10,J.q11,y15.1)))) (bc U.1 2 (obind (gh (J.2.1,J.p4)) λy16=>(bD (aA (ak J.p4) (ak y16.2.2)&&ah) (aD (y16.2.1,J.p2,J.p3,y16.2.2,J.p5,J.p6,J.p7,J.p8,J.p9,J.p10,J.q11,y16.1)))) (bc U.1 3 (obind (gh (J.2.1,J.p5)) λy17=>(bD (aA (ak J.p5) (ak y17.2.2)&&ah) (aD (y17.2.1,J.p2,J.p3,J.p4,y17.2.2,J.p6,J.p7,J.p8,J.p9,J.p10,J.q11,y17.1)))) af)))) (aD (J.2.1,J.p2,J.p3,J.p4,J.p5,J.p6,J.p7,J.p8,J.p9,J.p10,J.q11,([]:List Int))))) λx10=>(jn (α:=fx×(List Int)×(List Int)×(List Int)×(List Int)×uA×Int×Int×Int×Int×Int×(List Int)×List Int) (jn (α:=Bool×fx×(List Int)×(List Int)×(List Int)×(List Int)×uA×Int×Int×Int×Int×Int×List Int) (bc x10.p7 4 (aD (ah,x10)) (aD ((decide ((x10.p7:Int)=22)),x10))) λI=>(bcase I.1 (bc U.1 0 (obind (gh (I.2.1,I.p2)) λy20=>(bD (aA (ak I.p2) (ak y20.2.2)&&ah) (aD (y20.2.1,y20.2.2,I.p3,I.p4,I.p5,I.p6,I.p7,I.p8,I.p9,I.p10,I.p11,I.q12,y20.1)))) (bc U.1 1 (obind (gh (I.2.1,I.p3)) λy21=>(bD (aA (ak I.p3) (ak y21.2.2)&&ah) (aD (y21.2.1,I.p2,y21.2.2,I.p4,I.p5,I.p6,I.p7,I.p8,I.p9,I.p10,I.p11,I.q12,y21.1)))) (bc U.1 2 (obind (gh (I.2.1,I.p4)) λy22=>(bD (aA (ak I.p4) (ak y22.2.2)&&ah) (aD (y22.2.1,I.p2,I.p3,y22.2.2,I.p5,I.p6,I.p7,I.p8,I.p9,I.p10,I.p11,I.q12,y22.1)))) (bc U.1 3 (obind (gh (I.2.1,I.p5)) λy23=>(bD (aA (ak I.p5) (ak y23.2.2)&&ah) (aD (y23.2.1,I.p2,I.p3,I.p4,y23.2.2,I.p6,I.p7,I.p8,I.p9,I.p10,I.p11,I.q12,y23.1)))) af)))) (aD (I.2.1,I.p2,I.p3,I.p4,I.p5,I.p6,I.p7,I.p8,I.p9,I.p10,I.p11,I.q12,([]:List Int))))) λZ=>(aa (Z.q6,Z.1,Z.2.1,Z.p2,Z.p3,Z.p4))))))))))))
def q_ (x:(eg×dF×Int×Bool)×(List Int)×Int):Option ((List gy)×(List Int)×Int):=
 (bD (cR 0 (aW x.1.2.1.p4)&&cR (aW x.1.2.1.p4) (aW x.1.2.1.p4)&&a_ (aS (aW x.1.2.1.p4)) 24&&decide (((aW x.1.2.1.p4):Int)=4)) (jn (α:=fx×eg×dF×(List Int)×(List Int)×(List Int)×List Int) (bu 0 (aN 4) (jn (α:=fx×eg×dF×(List Int)×(List Int)×(List Int)×List Int) (jn (α:=Bool×fx×eg×dF×(List Int)×(List Int)×(List Int)×List Int) (bcase x.1.q3 (bF aM x.1.1.q3 0 λz4=>(bu 1 z4 (obind (bp (3,x.2)) λy5=>(aD ((decide ((y5.1:Int)=2)),y5.2,x.1.1,x.1.2.1,([]:List Int),([]:List Int),([]:List Int),([]:List Int)))) (aD (ai,x.2,x.1.1,x.1.2.1,([]:List Int),([]:List Int),([]:List Int),([]:List Int))))) (aD (ai,x.2,x.1.1,x.1.2.1,([]:List Int),([]:List Int),([]:List Int),([]:List Int)))) λx3=>(bcase x3.1 (bD (a_ (ak x3.p4+ak ([1])) 8) (aD (x3.2.1,x3.p2,x3.p3,(x3.p4++([1])),x3.q5))) (aD x3.2))) λx2=>(bu 1 (aN 4) (jn (α:=fx×eg×dF×(List Int)×(List Int)×(List Int)×List Int) (jn (α:=Bool×fx×eg×dF×(List Int)×(List Int)×(List Int)×List Int) (bcase x.1.q3 (bF aM x2.2.1.q3 1 λz8=>(bu 1 z8 (obind (bp (3,x2.1)) λy9=>(aD ((decide ((y9.1:Int)=2)),y9.2,x2.2))) (aD (ai,x2)))) (aD (ai,x2))) λx7=>(bcase x7.1 (bD (a_ (ak x7.p5+ak ([1])) 8) (aD (x7.2.1,x7.p2,x7.p3,x7.p4,(x7.p5++([1])),x7.q6))) (aD x7.2))) λx6=>(bu 2 (aN 4) (jn (α:=fx×eg×dF×(List Int)×(List Int)×(List Int)×List Int) (jn (α:=Bool×fx×eg×dF×(List Int)×(List Int)×(List Int)×List Int) (bcase x.1.q3 (bF aM x6.2.1.q3 2 λz12=>(bu 1 z12 (obind (bp (3,x6.1)) λy13=>(aD ((decide ((y13.1:Int)=2)),y13.2,x6.2))) (aD (ai,x6)))) (aD (ai,x6))) λY=>(bcase Y.1 (bD (a_ (ak Y.p6+ak ([1])) 8) (aD (Y.2.1,Y.p2,Y.p3,Y.p4,Y.p5,(Y.p6++([1])),Y.q7))) (aD Y.2))) λx10=>(bu 3 (aN 4) (jn (α:=fx×eg×dF×(List Int)×(List Int)×(List Int)×List Int) (jn (α:=Bool×fx×eg×dF×(List Int)×(List Int)×(List Int)×List Int) (bcase x.1.q3 (bF aM x10.2.1.q3 3 λz16=>(bu 1 z16 (obind (bp (3,x10.1)) λy17=>(aD ((decide ((y17.1:Int)=2)),y17.2,x10.2))) (aD (ai,x10)))) (aD (ai,x10))) λU=>(bcase U.1 (bD (a_ (ak U.q7+ak ([1])) 8) (aD (U.2.1,U.p2,U.p3,U.p4,U.p5,U.p6,(U.q7++([1]))))) (aD U.2))) λx14=>(bu 4 (aN 4) (jn (α:=fx×eg×dF×(List Int)×(List Int)×(List Int)×List Int) (jn (α:=Bool×fx×eg×dF×(List Int)×(List Int)×(List Int)×List Int) (bcase x.1.q3 (bF aM x14.2.1.q3 4 λz20=>(bu 1 z20 (obind (bp (3,x14.1)) λy21=>(aD ((decide ((y21.1:Int)=2)),y21.2,x14.2))) (aD (ai,x14)))) (aD (ai,x14))) λx19=>(bcase x19.1 af (aD x19.2))) λx18=>af) (aD x14))) (aD x10))) (aD x6))) (aD x2))) (aD (x.2,x.1.1,x.1.2.1,([]:List Int),([]:List Int),([]:List Int),([]:List Int)))) λx1=>(iter (σ:=fx×eg×dF×(List gy)×(List Int)×(List Int)×(List Int)×List Int) (λx22=>(jn (α:=Bool×fx×eg×dF×(List gy)×(List Int)×(List Int)×(List Int)×List Int) (bu (aW x22.p3) x.1.p2 (aD ((fE x22.1.2 (aW x22.1.1)),x22)) (aD (ai,x22))) λJ=>(bcase J.1 (jn (α:=fx×eg×dF×(List gy)×(List Int)×(List Int)×(List Int)×List Int) (obind (pu ((J.p2,J.p3),J.2.1,J.q5)) λM=>(bD (aA (ak J.q8) (ak M.q5)&&(aA (ak J.p7) (ak M.p4)&&(aA (ak J.p6) (ak M.p3)&&(aA (ak J.p5) (ak M.p2)&&ah)))) (obind (qk (J.p3,J.p2,M.1)) λy26=>(bcase (!y26.2) (aD (M.2.1,J.p2,J.p3,J.p4,M.2.2)) (jn (α:=fx×eg×dF×(List gy)×gy×eg×(List Int)×(List Int)×(List Int)×List Int) (jn (α:=Bool×fx×eg×dF×(List gy)×gy×eg×(List Int)×(List Int)×(List Int)×List Int) (bc M.1.2.1 3 (aD (ah,M.2.1,J.p2,J.p3,J.p4,M.1,y26.1,M.2.2)) (aD ((decide ((M.1.2.1:Int)=23)),M.2.1,J.p2,J.p3,J.p4,M.1,y26.1,M.2.2))) λI=>(bcase I.1 (bc I.p5.1 0 (bF aM I.p2.q3 0 λz29=>(bD (a_ (ak I.p7+ak ([z29])) 8) (aD (I.2.1,I.p2,I.p3,I.p4,(0,I.p5.2),I.p6,(I.p7++([z29])),I.q8)))) (bc I.p5.1 1 (bF aM I.p2.q3 1 λz30=>(bD (a_ (ak I.p8+ak ([z30])) 8) (aD (I.2.1,I.p2,I.p3,I.p4,(1,I.p5.2),I.p6,I.p7,(I.p8++([z30])),I.q9)))) (bc I.p5.1 2 (bF aM I.p2.q3 2 λz31=>(bD (a_ (ak I.p9+ak ([z31])) 8) (aD (I.2.1,I.p2,I.p3,I.p4,(2,I.p5.2),I.p6,I.p7,I.p8,(I.p9++([z31])),I.q10)))) (bc I.p5.1 3 (bF aM I.p2.q3 3 λz32=>(bD (a_ (ak I.q10+ak ([z32])) 8) (aD (I.2.1,I.p2,I.p3,I.p4,(3,I.p5.2),I.p6,I.p7,I.p8,I.p9,(I.q10++([z32])))))) af)))) (aD I.2))) λZ=>(bD (a_ (ak Z.p3+ak ([Z.p4])) 88) (aD (Z.1,Z.p5,Z.p2,(Z.p3++([Z.p4])),Z.q6)))))))) λx24=>(cK x24)) (aD (J.p4,J.2.1))))) (x1.1,x1.2.1,x1.p2,([]:List gy),x1.q3))))
def pw (x:(List Int)×Int):Option (dF×List gy):=
 (jn (α:=List Int) (bu 600 (aW x.1) (bD (cR 0 600&&cR 600 (ak x.1)) (aD (dE (aS 600) x.1))) (aD x.1)) λx1=>(obind (mW ()) λy2=>(obind (mj y2) λy3=>(obind (bp (3,x1,0)) λy4=>(iter (σ:=Int×fx×dF×eg×List gy) (λJ=>(jg J.1 (bg .i64 (1+y4.1)) (bD (a_ (ak J.q4+ak ([(0,20,J.1,0,0,([]:List Int),([]:List Int)),(J.1,1,(-1),0,(-1),([]:List Int),([]:List Int))])) 88) (cK ((cz J.1),J.2.1,J.p2,J.p3,(J.q4++([(0,20,J.1,0,0,([]:List Int),([]:List Int)),(J.1,1,(-1),0,(-1),([]:List Int),([]:List Int))]))))) (obind (iter (σ:=Int×fx×dF×eg×(List gy)×List gy) (λI=>(bu I.1 (aW J.q4) (jn (α:=fx×dF×eg×(List gy)×List gy) (kK iK I.p4 I.1 λU=>(obind (qk (I.p2,I.p3,U)) λy9=>(bcase y9.2 (bD (a_ (ak I.q5+ak ([U])) 88) (aD (I.2.1,I.p2,y9.1,I.p4,(I.q5++([U]))))) (aD I.2)))) λx7=>(cK ((cz I.1),x7))) (obind (obind (q_ ((I.p3,I.p2,(Fp (jZ x.2 0) 60),ai),I.2.1)) λM=>(bD (a_ (ak I.q5+ak M.1) 88) (obind (sP (I.p2,(I.q5++M.1))) λZ=>(iO Z.2 0 (obind (mW ()) λY=>(aa (Y,([]:List gy)))) (aa (I.p2,(I.q5++M.1))))))) λr=>aa (bS r)))) (0,J.2.1,J.p2,J.p3,J.q4,([]:List gy))) λr=>aa (bS r)))) (1,y4.2,y2,y3,[(0,1,(-1),0,(-1),([]:List Int),([]:List Int))]))))))
def kz (x:((List Int)×(List Int)×List Int)×Int):Option (dF×List gy):=
 (bu 0 (aW x.1.2.2) (obind (pw (x.1.2.2,x.2)) λJ=>(aa J)) (bD (cR 0 (Fp (aW x.1.2.1) x.2)&&cR (Fp (aW x.1.2.1) x.2) (ak x.1.2.1)) (obind (rh (x.1.1,(dE (aS (Fp (aW x.1.2.1) x.2)) x.1.2.1))) λI=>(aa I))))
end
end Go.Proofs.YthehadcddfilhaaGreatDoor.AI
