/-
  Texts of the proof, part 1 of 5: what is used to prove the statement. No condition.
-/
import Derived.WalkKit
import Derived.Lib.Hide
import Derived.Deep.QuietTactic
namespace Prod
variable {A0 A1 A2 A3 A4 A5 A6 A7 A8 A9 A10 A11 A12 A13 A14 A15 A16 A17 A18 A19 A20 A21 A22 A23 A24:Type}
abbrev p2 (x:A0×A1×A2×A3):A2:=x.2.2.1
abbrev p3 (x:A0×A1×A2×A3×A4):A3:=x.2.2.2.1
abbrev q3 (x:A0×A1×A2×A3):A3:=x.2.2.2
abbrev p4 (x:A0×A1×A2×A3×A4×A5):A4:=x.2.2.2.2.1
abbrev q4 (x:A0×A1×A2×A3×A4):A4:=x.2.2.2.2
abbrev p5 (x:A0×A1×A2×A3×A4×A5×A6):A5:=x.2.2.2.2.2.1
abbrev q5 (x:A0×A1×A2×A3×A4×A5):A5:=x.2.2.2.2.2
abbrev p6 (x:A0×A1×A2×A3×A4×A5×A6×A7):A6:=x.2.2.2.2.2.2.1
abbrev q6 (x:A0×A1×A2×A3×A4×A5×A6):A6:=x.2.2.2.2.2.2
abbrev p7 (x:A0×A1×A2×A3×A4×A5×A6×A7×A8):A7:=x.2.2.2.2.2.2.2.1
abbrev q7 (x:A0×A1×A2×A3×A4×A5×A6×A7):A7:=x.2.2.2.2.2.2.2
abbrev p8 (x:A0×A1×A2×A3×A4×A5×A6×A7×A8×A9):A8:=x.2.2.2.2.2.2.2.2.1
abbrev q8 (x:A0×A1×A2×A3×A4×A5×A6×A7×A8):A8:=x.2.2.2.2.2.2.2.2
abbrev p9 (x:A0×A1×A2×A3×A4×A5×A6×A7×A8×A9×A10):A9:=x.2.2.2.2.2.2.2.2.2.1
abbrev q9 (x:A0×A1×A2×A3×A4×A5×A6×A7×A8×A9):A9:=x.2.2.2.2.2.2.2.2.2
abbrev p10 (x:A0×A1×A2×A3×A4×A5×A6×A7×A8×A9×A10×A11):A10:=x.2.2.2.2.2.2.2.2.2.2.1
abbrev q10 (x:A0×A1×A2×A3×A4×A5×A6×A7×A8×A9×A10):A10:=x.2.2.2.2.2.2.2.2.2.2
abbrev p11 (x:A0×A1×A2×A3×A4×A5×A6×A7×A8×A9×A10×A11×A12):A11:=x.2.2.2.2.2.2.2.2.2.2.2.1
abbrev q11 (x:A0×A1×A2×A3×A4×A5×A6×A7×A8×A9×A10×A11):A11:=x.2.2.2.2.2.2.2.2.2.2.2
abbrev p12 (x:A0×A1×A2×A3×A4×A5×A6×A7×A8×A9×A10×A11×A12×A13):A12:=x.2.2.2.2.2.2.2.2.2.2.2.2.1
abbrev q12 (x:A0×A1×A2×A3×A4×A5×A6×A7×A8×A9×A10×A11×A12):A12:=x.2.2.2.2.2.2.2.2.2.2.2.2
abbrev p13 (x:A0×A1×A2×A3×A4×A5×A6×A7×A8×A9×A10×A11×A12×A13×A14):A13:=x.2.2.2.2.2.2.2.2.2.2.2.2.2.1
abbrev q13 (x:A0×A1×A2×A3×A4×A5×A6×A7×A8×A9×A10×A11×A12×A13):A13:=x.2.2.2.2.2.2.2.2.2.2.2.2.2
abbrev p14 (x:A0×A1×A2×A3×A4×A5×A6×A7×A8×A9×A10×A11×A12×A13×A14×A15):A14:=x.2.2.2.2.2.2.2.2.2.2.2.2.2.2.1
abbrev p15 (x:A0×A1×A2×A3×A4×A5×A6×A7×A8×A9×A10×A11×A12×A13×A14×A15×A16):A15:=x.2.2.2.2.2.2.2.2.2.2.2.2.2.2.2.1
abbrev p16 (x:A0×A1×A2×A3×A4×A5×A6×A7×A8×A9×A10×A11×A12×A13×A14×A15×A16×A17):A16:=x.2.2.2.2.2.2.2.2.2.2.2.2.2.2.2.2.1
abbrev q16 (x:A0×A1×A2×A3×A4×A5×A6×A7×A8×A9×A10×A11×A12×A13×A14×A15×A16):A16:=x.2.2.2.2.2.2.2.2.2.2.2.2.2.2.2.2
abbrev p17 (x:A0×A1×A2×A3×A4×A5×A6×A7×A8×A9×A10×A11×A12×A13×A14×A15×A16×A17×A18):A17:=x.2.2.2.2.2.2.2.2.2.2.2.2.2.2.2.2.2.1
abbrev q17 (x:A0×A1×A2×A3×A4×A5×A6×A7×A8×A9×A10×A11×A12×A13×A14×A15×A16×A17):A17:=x.2.2.2.2.2.2.2.2.2.2.2.2.2.2.2.2.2
abbrev p18 (x:A0×A1×A2×A3×A4×A5×A6×A7×A8×A9×A10×A11×A12×A13×A14×A15×A16×A17×A18×A19):A18:=x.2.2.2.2.2.2.2.2.2.2.2.2.2.2.2.2.2.2.1
abbrev q18 (x:A0×A1×A2×A3×A4×A5×A6×A7×A8×A9×A10×A11×A12×A13×A14×A15×A16×A17×A18):A18:=x.2.2.2.2.2.2.2.2.2.2.2.2.2.2.2.2.2.2
abbrev p19 (x:A0×A1×A2×A3×A4×A5×A6×A7×A8×A9×A10×A11×A12×A13×A14×A15×A16×A17×A18×A19×A20):A19:=x.2.2.2.2.2.2.2.2.2.2.2.2.2.2.2.2.2.2.2.1
abbrev p20 (x:A0×A1×A2×A3×A4×A5×A6×A7×A8×A9×A10×A11×A12×A13×A14×A15×A16×A17×A18×A19×A20×A21):A20:=x.2.2.2.2.2.2.2.2.2.2.2.2.2.2.2.2.2.2.2.2.1
abbrev q21 (x:A0×A1×A2×A3×A4×A5×A6×A7×A8×A9×A10×A11×A12×A13×A14×A15×A16×A17×A18×A19×A20×A21):A21:=x.2.2.2.2.2.2.2.2.2.2.2.2.2.2.2.2.2.2.2.2.2
end Prod
namespace Go.Proofs.YtkagidinekdnoaaGreatDoor.AI
open Go.RowKit
set_option maxRecDepth 100000
set_option maxHeartbeats 4000000
set_option linter.unusedVariables false
set_option linter.unusedSimpArgs false
open Act renaming put→LY
open _root_.Array renaming length_toList→ia,replicate→nR
open _root_.Bool renaming true→ah,false→ai
open _root_.Int renaming ofNat→aN,toNat→aR,tmod→p_
open IntKind renaming wrap→oo
open _root_.List renaming length→ak,replicate→aE,take→dF,range→eg,length_singleton→gg,getElem?_cons_zero→pZ
open _root_.Nat renaming beq→aA,testBit→aL,ble→ep,blt→fV,min→iB
open Oper renaming wp→F0
open _root_.Option renaming some→aa,none→af,bind_some→aF
open Region renaming wanted→ir,binds→yC,ready→FZ
open _root_.Sum renaming inr→bZ,inl→oh
open World renaming shape?→qM,cell?→LV
noncomputable section
abbrev aC:=@if_neg
abbrev aI:=@if_pos
abbrev aP:=@decide_eq_true
abbrev bm:=@of_decide_eq_true
abbrev bC:=@if_true
abbrev bM:=@decide_eq_false
abbrev bQ:=@decide_eq_true_eq
abbrev cM:=@beq_iff_eq
abbrev cP:=@beq_self_eq_true
abbrev cW:=@absurd
abbrev c5:=@decide_false
abbrev dJ:=@decide_true
abbrev dR:=@if_false
abbrev fP:=@or_false
abbrev gx:=@congrArg
abbrev Ab:=@true_and
abbrev Rm:=@of_decide_eq_false
abbrev aj:=@Option.some.injEq
abbrev au:=@Bool.and_eq_true
abbrev av:=@Nat.eq_of_beq_eq_true
abbrev ax:=@List.getD_eq_getElem?_getD
abbrev ay:=@List.getElem?_eq_getElem
abbrev aB:=@Prod.mk.injEq
abbrev aK:=@List.mem_singleton
abbrev aY:=@Nat.le_of_ble_eq_true
abbrev aZ:=@List.getElem?_map
abbrev a8:=@List.mem_of_getElem?
abbrev bf:=@List.getElem?_eq_some_iff
abbrev bh:=@List.mem_cons
abbrev bl:=@Nat.testBit_or
abbrev bn:=@List.length_append
abbrev bz:=@List.length_take
abbrev bD:=@Nat.ble_eq_true_of_le
abbrev bJ:=@Nat.zero_add
abbrev bK:=@List.getElem?_eq_none
abbrev bL:=@List.getElem?_append_left
abbrev bO:=@Nat.le_refl
abbrev bR:=@List.mem_append
abbrev bS:=@List.length_map
abbrev bV:=@Nat.lt_or_ge
abbrev bW:=@List.getElem?_append_right
abbrev cj:=@List.not_mem_nil
abbrev co:=@Bool.false_eq_true
abbrev cu:=@Array.getElem?_eq_some_iff
abbrev cz:=@Nat.mul_le_mul_right
abbrev cB:=@Array.getElem?_toList
abbrev cH:=@List.getElem?_take
abbrev cI:=@List.map_append
abbrev cL:=@List.take_length
abbrev cN:=@List.mem_cons_of_mem
abbrev c6:=@List.ext_getElem
abbrev c_:=@Nat.le_trans
abbrev dc:=@List.mem_map
abbrev dl:=@Nat.lt_of_lt_of_le
abbrev dt:=@Int.natCast_nonneg
abbrev dH:=@List.mem_cons_self
abbrev dZ:=@Bool.not_eq_true'
abbrev ey:=@List.length_replicate
abbrev eD:=@Int.le_refl
abbrev eQ:=@List.getElem?_of_mem
abbrev fe:=@List.foldl_append
abbrev fg:=@List.flatMap_cons
abbrev fJ:=@List.take_of_length_le
abbrev fY:=@List.map_cons
abbrev f_:=@List.all_eq_true
abbrev gr:=@Array.getD_eq_getD_getElem?
abbrev gw:=@List.length_eq_zero_iff
abbrev gJ:=@List.getElem?_drop
abbrev gT:=@Nat.ne_of_beq_eq_false
abbrev gX:=@Array.getElem?_eq_getElem
abbrev ib:=@Nat.le_succ_of_le
abbrev ic:=@List.length_range
abbrev iu:=@Option.isSome_iff_exists
abbrev iz:=@Nat.succ_mul
abbrev iC:=@List.cons.injEq
abbrev iD:=@Bool.or_eq_true
abbrev iT:=@List.mem_of_mem_take
abbrev jx:=@Option.map_eq_some_iff
abbrev jy:=@List.append_assoc
abbrev jE:=@Option.some.inj
abbrev jW:=@List.getElem?_toArray
abbrev j8:=@List.getElem_range
abbrev kf:=@Nat.or_assoc
abbrev kh:=@List.map_take
abbrev ki:=@Bool.and_self
abbrev kG:=@Nat.zero_le
abbrev kH:=@List.take_append_of_le_length
abbrev kJ:=@List.mem_append_left
abbrev lm:=@List.append_nil
abbrev lK:=@List.map_congr_left
abbrev mf:=@List.length_drop
abbrev mg:=@List.getElem_map
abbrev mS:=@List.mem_range
abbrev mT:=@Bool.false_and
abbrev mW:=@List.mem_append_right
abbrev om:=@List.take_succ_eq_append_getElem
abbrev oW:=@Bool.true_and
abbrev pe:=@Array.getElem?_setIfInBounds_ne
abbrev pl:=@List.length_take_le
abbrev pX:=@List.getElem_set
abbrev pY:=@List.getElem?_replicate
abbrev qN:=@List.drop_of_length_le
abbrev rB:=@Nat.min_eq_left
abbrev rC:=@List.length_set
abbrev rD:=@Nat.add_assoc
abbrev rO:=@List.contains_iff_mem
abbrev rX:=@List.size_toArray
abbrev rY:=@List.getElem?_set
abbrev tF:=@Bool.and_eq_true_iff
abbrev tP:=@Nat.beq_refl
abbrev tQ:=@List.mem_flatMap
abbrev tR:=@List.getElem_mem
abbrev tS:=@List.drop_append
abbrev um:=@Classical.byContradiction
abbrev uK:=@List.getElem?_range
abbrev uL:=@List.drop_succ_cons
abbrev vO:=@List.eq_of_mem_replicate
abbrev vQ:=@Nat.not_lt_zero
abbrev yE:=@Nat.lt_succ_of_lt
abbrev yF:=@List.map_map
abbrev Aa:=@List.take_append_drop
abbrev Ba:=@Nat.lt_succ_self
abbrev Bb:=@Int.not_lt
abbrev Bg:=@Nat.lt_irrefl
abbrev CW:=@Nat.zero_or
abbrev CX:=@List.replicate_succ'
abbrev CY:=@List.drop_append_of_le_length
abbrev D_:=@List.sum_append
abbrev D':=@List.mem_filter
abbrev Fk:=@Int.toNat_of_nonneg
abbrev F1:=@Nat.mul_comm
abbrev Jv:=@Nat.eq_zero_or_pos
abbrev Jx:=@Array.ext'
abbrev LW:=@Nat.lt_trichotomy
abbrev LX:=@Nat.add_mul
inductive FV where
 |raw (v:Value)
 |sl (cells:List FV) (n:Nat)
 |ptr (cells:List FV) (off:Nat)
 |agg (cells:List FV)
inductive AV where
 |f (x:FV)
 |ptr (id off:Nat)
 |sl (id off n:Nat)
 |row (id sz n:Nat)
 |mp (id:Nat)
 |emp
 |anyb
 |agg (cells:List AV)
 |tup (vs:List AV)
 |clo (g:FuncId) (cap:List AV)
def FV.isCell:FV->Bool
 |.raw v=>v.oneCell'
 |.sl _ _=>ah
 |.ptr _ _=>ah
 |.agg _=>ai
def AV.isCell:AV->Bool
 |.f x=>x.isCell
 |.ptr _ _=>ah
 |.sl _ _ _=>ah
 |.row _ _ _=>ah
 |.mp _=>ah
 |.emp=>ah
 |.clo _ _=>ah
 |_=>ai
inductive mR (O:Nat->Prop) (w:World):FV->Value->Prop
 |raw (v:Value):mR O w (.raw v) v
 |nil (a:Option Addr) (c:Nat) (hc:c<=maxLen):mR O w (.sl [] 0) (.slice a 0 c)
 |sl (cells:List FV) (n c b off:Nat) (us:Nat->Value) (hn:n<=c) (hc:c<=maxLen) (hO:¬O b) (hb:b<w.heap.size)
   (hcl:∀ x∈cells,x.isCell=ah)
   (hu:∀ j,j<cells.length->w.cell? ⟨b,off+j,af⟩=aa (us j)) (hr:∀ (j:Nat) x,cells[j]? =aa x->mR O w x (us j)):
   mR O w (.sl cells n) (.slice (aa ⟨b,off,af⟩) n c)
 |ptr (cells:List FV) (o b off:Nat) (us:Nat->Value) (hO:¬O b) (hb:b<w.heap.size)
   (hcl:∀ x∈cells,x.isCell=ah)
   (hu:∀ j,j<cells.length->w.cell? ⟨b,off+j,af⟩=aa (us j)) (hr:∀ (j:Nat) x,cells[j]? =aa x->mR O w x (us j)):
   mR O w (.ptr cells o) (.pointer (aa ⟨b,off+o,af⟩))
 |agg (cells:List FV) (vs:List Value) (hl:vs.length=cells.length) (hcl:∀ x∈cells,x.isCell=ah)
   (hr:∀ (j:Nat) x v,cells[j]? =aa x->vs[j]? =aa v->mR O w x v):mR O w (.agg cells) (.agg vs.toArray)
abbrev PM:=Nat->Option Nat
inductive cG (φ:PM) (O:Nat->Prop) (w:World):AV->Value->Prop
 |f {x:FV} {v:Value} (h:mR O w x v):cG φ O w (.f x) v
 |ptr {id off b:Nat} (h:φ id=aa b):cG φ O w (.ptr id off) (.pointer (aa ⟨b,off,af⟩))
 |sl {id off n c b:Nat} (h:φ id=aa b) (hn:n<=c) (hc:c<=maxLen):cG φ O w (.sl id off n) (.slice (aa ⟨b,off,af⟩) n c)
 |row {id sz n c b:Nat} (h:φ id=aa b) (hn:n<=c) (hc:c<=maxLen) (hs:∃ ty,w.shape? b=aa (ty,c*sz)):
   cG φ O w (.row id sz n) (.slice (aa ⟨b,0,af⟩) n c)
 |emp {a:Option Addr}:cG φ O w .emp (.slice a 0 0)
 |anyb {b:Bool}:cG φ O w .anyb (.bool b)
 |mp {id b:Nat} (h:φ id=aa b):cG φ O w (.mp id) (.map (aa b))
 |agg {cells:List AV} {vs:List Value} (hl:vs.length=cells.length) (hcl:∀ x∈cells,x.isCell=ah)
   (hr:∀ (j:Nat) x v,cells[j]? =aa x->vs[j]? =aa v->cG φ O w x v):cG φ O w (.agg cells) (.agg vs.toArray)
 |tup {cells:List AV} {vs:List Value} (hl:vs.length=cells.length)
   (hr:∀ (j:Nat) x v,cells[j]? =aa x->vs[j]? =aa v->cG φ O w x v):cG φ O w (.tup cells) (.tuple vs.toArray)
 |clo {g:FuncId} {cells:List AV} {vs:List Value} (hl:vs.length=cells.length)
   (hr:∀ (j:Nat) x v,cells[j]? =aa x->vs[j]? =aa v->cG φ O w x v):cG φ O w (.clo g cells) (.func (.func g) #[] vs.toArray)
structure Js (O:Nat->Prop) (w w':World):Prop where
 os:w'.os=w.os
 tape:w'.tape=w.tape
 output:w'.output=w.output
 size:w.heap.size<=w'.heap.size
 blk:∀ k,k<w.heap.size->¬O k->w'.heap[k]? =w.heap[k]?
 shp:∀ k,k<w.heap.size->w'.shape? k=w.shape? k
theorem Js.refl (O:Nat->Prop) (w:World):Js O w w:=⟨rfl,rfl,rfl,bO _,λ_ _ _=>rfl,λ_ _=>rfl⟩
theorem CH {w w':World} {b:Nat} (h:w'.heap[b]? =w.heap[b]?) (o:Nat):w'.cell? ⟨b,o,af⟩=w.cell? ⟨b,o,af⟩:=by
 unfold LV;rw[h]
theorem mR.ext {O O':Nat->Prop} {w w':World} (he:Js O w w') (J:∀ k,k<w.heap.size->O' k->O k) {x:FV} {v:Value} (h:mR O w x v):mR O' w' x v:=by
 induction h with
 |raw v=>exact .raw v
 |nil a c hc=>exact .nil a c hc
 |sl cells n c b off us hn hc hO hb hcl hu hr I=>
  exact .sl cells n c b off us hn hc (λh=>hO (J b hb h)) (dl hb he.size) hcl (λj hj=>by rw[CH (he.blk b hb hO)];exact hu j hj) I
 |ptr cells o b off us hO hb hcl hu hr I=>
  exact .ptr cells o b off us (λh=>hO (J b hb h)) (dl hb he.size) hcl (λj hj=>by rw[CH (he.blk b hb hO)];exact hu j hj) I
 |agg cells vs hl hcl hr I=>exact .agg cells vs hl hcl I
theorem cG.ext {φ φ':PM} {O O':Nat->Prop} {w w':World} (hs:∀ i k,φ i=aa k->φ' i=aa k) (he:Js O w w') (J:∀ k,k<w.heap.size->O' k->O k) {x:AV} {v:Value} (h:cG φ O w x v):cG φ' O' w' x v:=by
 induction h with
 |f h=>exact .f (h.ext he J)
 |ptr h=>exact .ptr (hs _ _ h)
 |sl h hn hc=>exact .sl (hs _ _ h) hn hc
 |row h hn hc hsh=>
  obtain⟨ty,hty⟩:=hsh;refine .row (hs _ _ h) hn hc ⟨ty,?_⟩;rw[he.shp _ ?_];exact hty;unfold qM at hty;rcases bV _ w.heap.size with hlt|hge
  .exact hlt
  .rw[Array.getElem?_eq_none hge] at hty;cases hty
 |emp=>exact .emp
 |anyb=>exact .anyb
 |mp h=>exact .mp (hs _ _ h)
 |agg hl hcl hr I=>exact .agg hl hcl I
 |tup hl hr I=>exact .tup hl I
 |clo hl hr I=>exact .clo hl I
inductive BC where
 |fz (l:List FV)
 |mx (l:List AV)
 |mp (es:List (Value×AV))
 |it (s:ByteArray) (pos:Nat)
def BC.get:BC->Nat->Option AV
 |.fz l,j=>l[j]?.map AV.f
 |.mx l,j=>l[j]?
 |_,_=>af
def BC.len:BC->Nat
 |.fz l=>l.length
 |.mx l=>l.length
 |_=>0
def BC.isCells:BC->Bool
 |.fz _=>ah
 |.mx _=>ah
 |_=>ai
structure vN where
 ty:TypeId
 c:BC
abbrev HF:=Nat->Option vN
def own (φ:PM) (h:HF) (k:Nat):Prop:=∃ id b,h id=aa b/\φ id=aa k
def tot (E:Nat->Prop) (φ:PM) (h:HF) (k:Nat):Prop:=E k\/own φ h k
def ul (φ:PM) (O:Nat->Prop) (w:World) (c:BC) (arr:Array Value):Prop:=
 c.len<=arr.size/\∀ j x,c.get j=aa x->x.isCell=ah/\∃ v,arr[j]? =aa v/\cG φ O w x v
def jd (φ:PM) (O:Nat->Prop) (w:World) (b:vN) (o:Obj):Prop:=
 match b.c with
 |.mp es=>∃ ents clock,o= .map ents clock/\ents.toList.map (·.key)=es.map (·.1)/\∀ (j:Nat) x,es[j]? =aa x->∃ m,ents[j]? =aa m/\cG φ O w x.2 m.val
 |.it s p=>o= .stringIter s p
 |c=>∃ arr,o= .cells arr b.ty (0,0)/\ul φ O w c arr
def Vk (φ:PM) (O:Nat->Prop) (w:World) (k:Nat) (b:vN):Prop:=∃ o,w.heap[k]? =aa o/\jd φ O w b o
theorem Vk.cells {φ:PM} {O:Nat->Prop} {w:World} {k:Nat} {b:vN} (h:Vk φ O w k b) (hc:b.c.isCells=ah):
 ∃ arr,w.heap[k]? =aa (.cells arr b.ty (0,0))/\ul φ O w b.c arr:=by
 obtain⟨o,h1,h2⟩:=h;unfold jd at h2;cases hb:b.c with
 |fz l=>rw[hb] at h2;obtain⟨arr,rfl,I⟩:=h2;exact⟨arr,h1,I⟩
 |mx l=>rw[hb] at h2;obtain⟨arr,rfl,I⟩:=h2;exact⟨arr,h1,I⟩
 |mp _=>rw[hb] at hc;cases hc
 |it _ _=>rw[hb] at hc;cases hc
theorem jd.mono {φ φ':PM} {O O':Nat->Prop} {w w':World} (hk:∀ x v,cG φ O w x v->cG φ' O' w' x v) {b:vN} {o:Obj} (h:jd φ O w b o):jd φ' O' w' b o:=by
 unfold jd at h ⊢;cases hb:b.c with
 |fz l=>rw[hb] at h;obtain⟨arr,h1,h2,J⟩:=h;exact⟨arr,h1,h2,λj x I=>by obtain⟨a,v,c,d⟩:=J j x I;exact⟨a,v,c,hk _ _ d⟩⟩
 |mx l=>rw[hb] at h;obtain⟨arr,h1,h2,J⟩:=h;exact⟨arr,h1,h2,λj x I=>by obtain⟨a,v,c,d⟩:=J j x I;exact⟨a,v,c,hk _ _ d⟩⟩
 |mp es=>rw[hb] at h;obtain⟨e,c,h1,h2,J⟩:=h;exact⟨e,c,h1,h2,λj x I=>by obtain⟨m,a,b⟩:=J j x I;exact⟨m,a,hk _ _ b⟩⟩
 |it s p=>rw[hb] at h;exact h
theorem ul.mono {φ φ':PM} {O O':Nat->Prop} {w w':World} (hk:∀ x v,cG φ O w x v->cG φ' O' w' x v) {c:BC} {arr:Array Value} (h:ul φ O w c arr):ul φ' O' w' c arr:=
 ⟨h.1,λj x I=>by obtain⟨a,v,c,d⟩:=h.2 j x I;exact⟨a,v,c,hk _ _ d⟩⟩
def tJ (l:List UInt8):FV:=.raw (.string ⟨l.toArray⟩)
def BJ:List FV:=[tJ [118,97,114],tJ [118,111,108,97,116,105,108,101],tJ [109,117,116,101,120],tJ [114,119,108,111,99,107],tJ [99,111,110,100],tJ [102,117,116,117,114,101],tJ [116,104,114,101,97,100],tJ [105,102],tJ [101,108,115,101],tJ [119,104,105,108,101],tJ [108,111,99,107],tJ [114,101,97,100],tJ [119,114,105,116,101],tJ [116,114,97,110,115,97,99,116,105,111,110],tJ [97,116,111,109,105,99],tJ [119,97,105,116],tJ [110,111,116,105,102,121],tJ [110,111,116,105,102,121,97,108,108],tJ [115,112,97,119,110],tJ [106,111,105,110],tJ [115,101,116],tJ [103,101,116]]
def G (g:Nat):Option (List FV):=if g==0 then aa BJ else af
structure qh (φ:PM) (E:Nat->Prop) (h:HF) (w:World):Prop where
 inj:∀ i j b b' k,h i=aa b->h j=aa b'->φ i=aa k->φ j=aa k->i=j
 at_:∀ i b,h i=aa b->∃ k,φ i=aa k/\¬E k/\Vk φ (tot E φ h) w k b
 el:∀ k,E k->k<w.heap.size
 gl:∀ g cells,G g=aa cells->mR (tot E φ h) w (.ptr cells 0) (.pointer (aa ⟨g,0,af⟩))
structure iK (φ φ':PM) (h h':HF) (w w':World):Prop where
 sub:∀ i k,φ i=aa k->φ' i=aa k
 ext:Js (own φ h) w w'
 own_:∀ k,k<w.heap.size->own φ' h' k->own φ h k
theorem iK.refl (φ:PM) (h:HF) (w:World):iK φ φ h h w w:=⟨λ_ _ h=>h,Js.refl _ _,λ_ _ h=>h⟩
theorem iK.trans {φ φ' φ'':PM} {h h' h'':HF} {w w' w'':World} (m:iK φ φ' h h' w w') (n:iK φ' φ'' h' h'' w' w''):iK φ φ'' h h'' w w'' where
 sub:=λi k e=>n.sub i k (m.sub i k e)
 ext:=⟨n.ext.os.trans m.ext.os,n.ext.tape.trans m.ext.tape,n.ext.output.trans m.ext.output,c_ m.ext.size n.ext.size,
  λk hk I=>(n.ext.blk k (dl hk m.ext.size) (λh=>I (m.own_ k hk h))).trans (m.ext.blk k hk I),
  λk hk=>(n.ext.shp k (dl hk m.ext.size)).trans (m.ext.shp k hk)⟩
 own_:=λk hk h=>m.own_ k hk (n.own_ k (dl hk m.ext.size) h)
theorem Js.mono {O O':Nat->Prop} {w w':World} (h:Js O w w') (I:∀ k,O k->O' k):Js O' w w':=
 ⟨h.os,h.tape,h.output,h.size,λk hk hO=>h.blk k hk (λx=>hO (I k x)),h.shp⟩
theorem iK.keep {φ φ':PM} {h h':HF} {w w':World} (m:iK φ φ' h h' w w') {E:Nat->Prop} {x:AV} {v:Value} (r:cG φ (tot E φ h) w x v):cG φ' (tot E φ' h') w' x v:=
 r.ext m.sub (m.ext.mono λ_ h=>.inr h) λk hk I=>I.elim .inl λo=>.inr (m.own_ k hk o)
theorem iK.keepF {φ φ':PM} {h h':HF} {w w':World} (m:iK φ φ' h h' w w') {E:Nat->Prop} {x:FV} {v:Value} (r:mR (tot E φ h) w x v):mR (tot E φ' h') w' x v:=
 r.ext (m.ext.mono λ_ h=>.inr h) λk hk I=>I.elim .inl λo=>.inr (m.own_ k hk o)
abbrev EF:=Nat->Option AV
def LP (φ:PM) (O:Nat->Prop) (w:World) (e:EF) (a:Act):Prop:=∀ t x,e t=aa x->cG φ O w x (a.tmps.getD t undef)
def Bx (e:EF) (dst:Option Nat) (x:AV):EF:=λt=>if dst=aa t then aa x else e t
def eJ (h:HF) (wr:List Nat) (nw:HF):HF:=λi=>if i∈wr then nw i else h i
structure z_ where
 val:AV
 rd:List Nat
 wr:List Nat
 nw:HF
 N:List Nat
def gz (P:Program) (o:Oper) (e:EF) (h:HF) (f:z_):Prop:=
 ∀ (φ:PM) (E:Nat->Prop) (h':HF) (w:World) (a:Act),(∀ i∈f.rd,h' i=h i)->(∀ i∈f.wr,h' i=h i)->
  (∀ t,.tmp t∈o.op.operands->∀ y,e t=aa y->cG φ (tot E φ h') w y (a.tmps.getD t undef))->qh φ E h' w->(∀ n∈f.N,φ n=af)->
  o.wp P a w (λa' w'=>∃ v φ',a'=a.put o.dst v/\iK φ φ' h' (eJ h' f.wr f.nw) w w'/\(∀ i k,φ' i=aa k->φ i=aa k\/i∈f.N)/\
   qh φ' E (eJ h' f.wr f.nw) w'/\cG φ' (tot E φ' (eJ h' f.wr f.nw)) w' f.val v) (λ_ _ _=>False)
def qO:z_:=⟨.f (.raw undef),[],[],λ_=>af,[]⟩
inductive Jf (P:Program) (ops:Array Oper) (o:Oper) (f:z_) (e:EF) (h:HF):Prop
 |run (hg:o.guard=af) (ht:gz P o e h f)
 |runG (j t:Nat) (want:Bool) (hg:o.guard=aa (j,want)) (hj:(ops[j]?).bind (·.dst)=aa t) (he:e t=aa (.f (.raw (.bool want)))) (ht:gz P o e h f)
 |skip (j t:Nat) (want:Bool) (hg:o.guard=aa (j,want)) (hj:(ops[j]?).bind (·.dst)=aa t) (v:Value) (he:e t=aa (.f (.raw v))) (hv:v≠ .bool want) (hf:f=qO)
inductive yB (P:Program) (ops:Array Oper):List (Oper×z_)->EF->HF->EF->HF->Prop
 |nil (e:EF) (h:HF):yB P ops [] e h e h
 |cons {o:Oper} {f:z_} {r:List (Oper×z_)} {e e':EF} {h h':HF} (hs:Jf P ops o f e h)
   (hr:yB P ops r (Bx e o.dst f.val) (eJ h f.wr f.nw) e' h'):yB P ops ((o,f)::r) e h e' h'
def Jz (S:Nat->Bool):Nat->List (Oper×z_)->EF->EF
 |_,[],e=>e
 |k,(o,f)::r,e=>Jz S (k+1) r (if S k then Bx e o.dst f.val else e)
def Bd (S:Nat->Bool):Nat->List (Oper×z_)->HF->HF
 |_,[],h=>h
 |k,(_,f)::r,h=>Bd S (k+1) r (if S k then eJ h f.wr f.nw else h)
theorem C5 {S S':Nat->Bool} {t:Nat}:∀ (l:List (Oper×z_)) (k:Nat) (e e':EF),e t=e' t->
 (∀ (j:Nat) o f,l[j]? =aa (o,f)->o.dst=aa t->S (k+j)=S' (k+j))->Jz S k l e t=Jz S' k l e' t
 |[],_,_,_,he,_=>he
 |(o,f)::r,k,e,e',he,I=>by
  simp only[Jz];refine C5 r (k+1) _ _ ?_ (λj o f hj hd=>by have:=I (j+1) o f (by simpa using hj) hd;rwa [show k+(j+1)=k+1+j from by omega] at this);by_cases hd:o.dst=aa t
  .rw[show S k=S' k from by simpa using I 0 o f rfl hd];split
   .simp[Bx,hd]
   .exact he
  .split<;>split<;>simp[Bx,hd,he]
theorem C4 {S S':Nat->Bool} {t:Nat}:∀ (l:List (Oper×z_)) (k:Nat) (e e':HF),e t=e' t->
 (∀ (j:Nat) o f,l[j]? =aa (o,f)->t∈f.wr->S (k+j)=S' (k+j))->Bd S k l e t=Bd S' k l e' t
 |[],_,_,_,he,_=>he
 |(o,f)::r,k,e,e',he,I=>by
  simp only[Bd];refine C4 r (k+1) _ _ ?_ (λj o f hj hd=>by have:=I (j+1) o f (by simpa using hj) hd;rwa [show k+(j+1)=k+1+j from by omega] at this);by_cases hd:t∈f.wr
  .rw[show S k=S' k from by simpa using I 0 o f rfl hd];split
   .simp[eJ,hd]
   .exact he
  .split<;>split<;>simp[eJ,hd,he]
theorem Bn {S:Nat->Bool} {t:Nat}:∀ (l:List (Oper×z_)) (k:Nat) (e:EF),(∀ (j:Nat) o f,l[j]? =aa (o,f)->o.dst=aa t->S (k+j)=ai)->Jz S k l e t=e t
 |[],_,_,_=>rfl
 |(o,f)::r,k,e,I=>by
  simp only[Jz];rw[Bn r (k+1) _ (λj o f hj hd=>by have:=I (j+1) o f (by simpa using hj) hd;rwa [show k+(j+1)=k+1+j from by omega] at this)];split
  .rename_i h;unfold Bx;rw[aC];intro hd;have:=I 0 o f rfl hd;simp_all
  .rfl
theorem Bm {S:Nat->Bool} {t:Nat}:∀ (l:List (Oper×z_)) (k:Nat) (e:HF),(∀ (j:Nat) o f,l[j]? =aa (o,f)->t∈f.wr->S (k+j)=ai)->Bd S k l e t=e t
 |[],_,_,_=>rfl
 |(o,f)::r,k,e,I=>by
  simp only[Bd];rw[Bm r (k+1) _ (λj o f hj hd=>by have:=I (j+1) o f (by simpa using hj) hd;rwa [show k+(j+1)=k+1+j from by omega] at this)];split
  .rename_i h;unfold eJ;rw[aC];intro hd;have:=I 0 o f rfl hd;simp_all
  .rfl
theorem NY {S:Nat->Bool} {t:Nat}:∀ (l:List (Oper×z_)) (k i:Nat) (e:EF) (o:Oper) (f:z_),l[i]? =aa (o,f)->o.dst=aa t->S (k+i)=ah->
 (∀ (j:Nat) o' f',i<j->l[j]? =aa (o',f')->o'.dst=aa t->S (k+j)=ai)->Jz S k l e t=aa f.val
 |[],_,_,_,_,_,h,_,_,_=>by simp at h
 |(o',f')::r,k,0,e,o,f,h,hd,I,hl=>by
  simp only[pZ,aj,aB] at h;obtain⟨rfl,rfl⟩:=h;simp only[Jz];rw[Bn r (k+1) _ (λj o f hj hd=>by have:=hl (j+1) o f (by omega) (by simpa using hj) hd;rwa [show k+(j+1)=k+1+j from by omega] at this)];simp at I;simp[I,Bx,hd]
 |(o',f')::r,k,i+1,e,o,f,h,hd,I,hl=>by
  simp only[Jz];exact NY r (k+1) i _ o f (by simpa using h) hd (by rwa [show k+1+i=k+(i+1) from by omega])
   (λj o f hij hj hd=>by have:=hl (j+1) o f (by omega) (by simpa using hj) hd;rwa [show k+(j+1)=k+1+j from by omega] at this)
theorem NX {S:Nat->Bool} {t:Nat}:∀ (l:List (Oper×z_)) (k i:Nat) (e:HF) (o:Oper) (f:z_),l[i]? =aa (o,f)->t∈f.wr->S (k+i)=ah->
 (∀ (j:Nat) o' f',i<j->l[j]? =aa (o',f')->t∈f'.wr->S (k+j)=ai)->Bd S k l e t=f.nw t
 |[],_,_,_,_,_,h,_,_,_=>by simp at h
 |(o',f')::r,k,0,e,o,f,h,hd,I,hl=>by
  simp only[pZ,aj,aB] at h;obtain⟨rfl,rfl⟩:=h;simp only[Bd];rw[Bm r (k+1) _ (λj o f hj hd=>by have:=hl (j+1) o f (by omega) (by simpa using hj) hd;rwa [show k+(j+1)=k+1+j from by omega] at this)];simp at I;simp[I,eJ,hd]
 |(o',f')::r,k,i+1,e,o,f,h,hd,I,hl=>by
  simp only[Bd];exact NX r (k+1) i _ o f (by simpa using h) hd (by rwa [show k+1+i=k+(i+1) from by omega])
   (λj o f hij hj hd=>by have:=hl (j+1) o f (by omega) (by simpa using hj) hd;rwa [show k+(j+1)=k+1+j from by omega] at this)
theorem yB.step {P:Program} {ops:Array Oper}:∀ {l:List (Oper×z_)} {e e':EF} {h h':HF} (_:yB P ops l e h e' h') (k i:Nat) (o:Oper) (f:z_),l[i]? =aa (o,f)->
 Jf P ops o f (Jz (λj=>decide (j<k+i)) k l e) (Bd (λj=>decide (j<k+i)) k l h):=by
 intro l e e' h h' hc;induction hc with
 |nil=>intro k i o f hi;simp at hi
 |@cons o1 I r e e' h h' hs hr J=>
  intro k i o f hi;cases i with
  |zero=>
   simp only[pZ,aj,aB] at hi;obtain⟨rfl,rfl⟩:=hi;have e1:Jz (λj=>decide (j<k+0)) k ((o1,I)::r) e=e:=by
    funext t;rw[Bn];intro j o f _ _;simp
   have e2:Bd (λj=>decide (j<k+0)) k ((o1,I)::r) h=h:=by
    funext t;rw[Bm];intro j o f _ _;simp
   rw[e1,e2];exact hs
  |succ i=>
   have:=J (k+1) i o f (by simpa using hi);simp only[Jz,Bd];rw[show k+(i+1)=k+1+i from by omega];simpa[show k<k+1+i from by omega] using this
theorem yB.final {P:Program} {ops:Array Oper}:∀ {l:List (Oper×z_)} {e e':EF} {h h':HF} (_:yB P ops l e h e' h') (k:Nat) (S:Nat->Bool),(∀ j,j<l.length->S (k+j)=ah)->
 Jz S k l e=e'/\Bd S k l h=h':=by
 intro l e e' h h' hc;induction hc with
 |nil=>intro k S _;exact⟨rfl,rfl⟩
 |@cons o1 M r e e' h h' hs hr J=>
  intro k S I;have h0:S k=ah:=by simpa using I 0 (by simp)
  simp only[Jz,Bd,h0,bC];exact J (k+1) S (λj hj=>by have:=I (j+1) (by simpa using hj);rwa [show k+(j+1)=k+1+j from by omega] at this)
theorem NP {P:Program} {o:Oper} {a:Act} {w:World} {K K':Act->World->Prop} {Q:Exit->Act->World->Prop} (h:∀ a w,K a w->K' a w)
 (hh:o.wp P a w K (λ_ _ _=>False)):o.wp P a w K' Q:=by
 unfold F0 at*
 generalize (execOp a.eval o).run P w=r at*
 cases r with
 |ok n w'=>
  cases n<;>simp only[Oper.upon] at hh ⊢<;>
   first
    |exact h _ _ hh
    |exact Calls.mono hh (λe w'' he=>by
      cases e with
      |returned v=>exact h _ _ he
      |panicked c=>exact he.elim
      |outgrown=>obtain⟨_,_,h⟩:=he;exact h.elim)
    |exact Rows.mono hh (λ_ _ he=>h _ _ he)
 |halt x w'=>cases x<;>simp only[Oper.upon] at hh ⊢<;>first|exact hh.elim|exact hh
inductive ZP (ops:Array Oper):Nat->Nat->Prop
 |one {j:Nat} {o:Oper} {e:Edge} (h:ops[j]? =aa o) (he:e∈o.after) (hb:yC .any e=ah):ZP ops j e.on
 |more {j i:Nat} {o:Oper} {e:Edge} (h:ops[j]? =aa o) (he:e∈o.after) (hb:yC .any e=ah) (hi:ZP ops e.on i):ZP ops j i
structure NIP (ops:Array Oper) (l:List (Oper×z_)):Prop where
 edge:∀ (j:Nat) o,ops[j]? =aa o->∀ e∈o.after,yC .any e=ah->e.on<j
 pair:∀ (i j:Nat) oi fi oj fj,i<j->l[i]? =aa (oi,fi)->l[j]? =aa (oj,fj)->ZP ops j i\/
  (oi.apart ops oj=ah/\(∀ x∈fi.wr,x∉fj.rd/\x∉fj.wr)/\(∀ x∈fj.wr,x∉fi.rd))
 names:∀ (i j:Nat) oi fi oj fj,i<j->l[i]? =aa (oi,fi)->l[j]? =aa (oj,fj)->∀ n∈fi.N,n∉fj.N
def D8 (ops:Array Oper) (listed:Array Bool):Prop:=∀ (j:Nat) o,ops[j]? =aa o->listed.getD j ai=ah->∀ e∈o.after,yC .any e=ah->listed.getD e.on ai=ah
theorem D8.bef {ops:Array Oper} {listed:Array Bool} (hc:D8 ops listed) {j i:Nat} (h:ZP ops j i):listed.getD j ai=ah->listed.getD i ai=ah:=by
 induction h with
 |one h he hb=>intro hj;exact hc _ _ h hj _ he hb
 |more h he hb hi I=>intro hj;exact I (hc _ _ h hj _ he hb)
theorem Vs {ops:Array Oper} {listed:Array Bool} (hc:D8 ops listed) {j i:Nat} {o:Oper} (I:ops[j]? =aa o) (hr:∀ e∈o.after,yC .any e=ah->listed.getD e.on ai=ah) (h:ZP ops j i):listed.getD i ai=ah:=by
 cases h with
 |one h he hb=>rw[h] at I;cases I;exact hr _ he hb
 |more h he hb hi=>rw[h] at I;cases I;exact hc.bef hi (hr _ he hb)
theorem rI {listed:Array Bool} {j:Nat} (h:listed.getD j ah=ai):listed.getD j ai=ai/\j<listed.size:=by
 rcases bV j listed.size with h1|h1
 .simp[h1] at h ⊢;exact h
 .simp[Array.getElem?_eq_none h1] at h
def StP (φ0:PM) (E:Nat->Prop) (e0:EF) (h0:HF) (w0:World) (a0:Act) (l:List (Oper×z_)) (S:Nat->Bool) (a:Act) (w:World):Prop:=
 ∃ φ,iK φ0 φ h0 (Bd S 0 l h0) w0 w/\(∀ i k,φ i=aa k->φ0 i=aa k\/∃ (j:Nat) (o:Oper) (f:z_),S j=ah/\l[j]? =aa (o,f)/\i∈f.N)/\
  qh φ E (Bd S 0 l h0) w/\LP φ (tot E φ (Bd S 0 l h0)) w (Jz S 0 l e0) a/\a.defers=a0.defers/\a.tmps.size=a0.tmps.size
theorem GM {a:Act} {dst:Option Tmp} {v:Value} {t:Nat} (hd:∀ d,dst=aa d->d<a.tmps.size):(a.put dst v).tmps.getD t undef=if dst=aa t then v else a.tmps.getD t undef:=by
 cases dst with
 |none=>simp[LY]
 |some d=>
  by_cases h:d=t
  .subst h;simp[LY,hd d rfl]
  .simp[LY,h,pe h]
theorem Oe {a:Act} {dst:Option Tmp} {v:Value}:(a.put dst v).tmps.size=a.tmps.size:=by cases dst<;>simp[LY]
theorem GP {a:Act} {dst:Option Tmp} {v:Value}:(a.put dst v).defers=a.defers:=by cases dst<;>rfl
theorem X4 {P:Program} {ops:Array Oper} {l:List (Oper×z_)} {e0 e':EF} {h0 h':HF} {φ0:PM} {E:Nat->Prop} {w0:World} {a0:Act}
 (hl:l.map (·.1)=ops.toList) (hc:yB P ops l e0 h0 e' h') (ni:NIP ops l) (hfr:∀ (j:Nat) o f,l[j]? =aa (o,f)->∀ n∈f.N,φ0 n=af)
 (hsz:∀ (j:Nat) o,ops[j]? =aa o->∀ d,o.dst=aa d->d<a0.tmps.size) {listed:Array Bool} (hcl:D8 ops listed) {i:Nat} (hi:i∈FZ .any ops listed) {Q:Exit->Act->World->Prop} {K:Act->World->Prop}
 (hK:∀ a w,StP φ0 E e0 h0 w0 a0 l (λj=>(listed.setIfInBounds i ah).getD j ai) a w->K a w) {a:Act} {w:World} (hst:StP φ0 E e0 h0 w0 a0 l (λj=>listed.getD j ai) a w):
 wpOp P ops Q i K a w:=by
 obtain⟨hun,o,ho,hdeps⟩:=mem_ready.1 hi;obtain⟨hnf,hlt⟩:=rI hun;have hln:∀ (j:Nat) o',ops[j]? =aa o'->∃ f,l[j]? =aa (o',f):=λj o' h=>by
  have h1:(l.map (·.1))[j]? =aa o':=by rw[hl];simpa using h
  rw[aZ] at h1;cases hj:l[j]? with
  |none=>rw[hj] at h1;cases h1
  |some p=>rw[hj] at h1;obtain⟨a,b⟩:=p;simp at h1;subst h1;exact⟨b,rfl⟩
 have hnl:∀ (j:Nat) o' f,l[j]? =aa (o',f)->ops[j]? =aa o':=λj o' f h=>by
  have h1:(l.map (·.1))[j]? =aa o':=by rw[aZ,h];rfl
  rw[hl] at h1;simpa using h1
 obtain⟨f,hf⟩:=hln i o ho;have hord:∀ (j:Nat) oj fj,j≠i->l[j]? =aa (oj,fj)->(listed.getD j ai=decide (j<i))\/
  (o.apart ops oj=ah\/oj.apart ops o=ah)/\(∀ x∈f.wr,x∉fj.rd/\x∉fj.wr)/\(∀ x∈fj.wr,x∉f.rd/\x∉f.wr):=by
  intro j oj fj hji hj;rcases bV j i with h|h
  .rcases ni.pair j i oj fj o f h hj hf with hb|⟨h1,h2,h3⟩
   .left;rw[Vs hcl ho hdeps hb];simp[h]
   .right;exact⟨.inr h1,λx I=>⟨h3 x I,λU=>(h2 x U).2 I⟩,λx I=>h2 x I⟩
  .have h:i<j:=by omega
   rcases ni.pair i j o f oj fj h hf hj with hb|⟨h1,h2,h3⟩
   .left;have:listed.getD j ai=ai:=by
     cases I:listed.getD j ai with
     |false=>rfl
     |true=>have:=hcl.bef hb I;rw[hnf] at this;cases this
    rw[this];simp;omega
   .right;exact⟨.inl h1,λx I=>h2 x I,λx I=>⟨h3 x I,λU=>(h2 x U).2 I⟩⟩
 have J:∀ j,(listed.setIfInBounds i ah).getD j ai=if j=i then ah else listed.getD j ai:=λj=>by
  by_cases h:i=j
  .subst h;simp[hlt]
  .rw[getD_set_ne ai h,aC (λe=>h e.symm)]
 have hlater:∀ (j:Nat) oj fj,i<j->l[j]? =aa (oj,fj)->(listed.getD j ai=ai)\/((o.apart ops oj=ah\/oj.apart ops o=ah)/\(∀ x∈f.wr,x∉fj.rd/\x∉fj.wr)):=by
  intro j oj fj hij hj;rcases hord j oj fj (by omega) hj with h|⟨h1,h2,_⟩
  .left;rw[h];simp;omega
  .right;exact⟨h1,h2⟩
 have hdd:∀ {x y:Oper},(x.apart ops y=ah\/y.apart ops x=ah)->∀ d,x.dst=aa d->y.dst≠aa d:=by
  intro x y h d hd he;rcases h with h|h
  .exact (Oper.apart_spec h).2.1 d hd he
  .exact (Oper.apart_spec h).2.1 d he hd
 have hlook:∀ {x y:Oper},(x.apart ops y=ah\/y.apart ops x=ah)->∀ d,y.dst=aa d->d∉x.looksAt ops:=by
  intro x y h d hd;rcases h with h|h
  .exact (Oper.apart_spec h).2.2 d hd
  .exact (Oper.apart_spec h).1 d hd
 have heL:∀ t,t∈o.looksAt ops->Jz (λj=>listed.getD j ai) 0 l e0 t=Jz (λj=>decide (j<0+i)) 0 l e0 t:=λt ht=>by
  refine C5 l 0 e0 e0 rfl λj oj fj hj hd=>?_
  simp only[bJ];by_cases hji:j=i
  .subst hji;rw[hnf];simp
  .rcases hord j oj fj hji hj with h|⟨h,_⟩
   .exact h
   .exact cW ht (hlook h t hd)
 have hhL:∀ t,t∈f.rd\/t∈f.wr->Bd (λj=>listed.getD j ai) 0 l h0 t=Bd (λj=>decide (j<0+i)) 0 l h0 t:=λt ht=>by
  refine C4 l 0 h0 h0 rfl λj oj fj hj hd=>?_
  simp only[bJ];by_cases hji:j=i
  .subst hji;rw[hnf];simp
  .rcases hord j oj fj hji hj with h|⟨_,_,h⟩
   .exact h
   .rcases ht with ht|ht
    .exact cW ht (h t hd).1
    .exact cW ht (h t hd).2
 have hE':∀ t,Jz (λj=>(listed.setIfInBounds i ah).getD j ai) 0 l e0 t=if o.dst=aa t then aa f.val else Jz (λj=>listed.getD j ai) 0 l e0 t:=λt=>by
  by_cases hd:o.dst=aa t
  .rw[aI hd];refine NY l 0 i e0 o f hf hd (by simp[J]) λj o' f' hij hj M=>?_
   simp only[bJ,J,aC (show ¬j=i by omega)];rcases hlater j o' f' hij hj with h|⟨h,_⟩
   .exact h
   .exact cW M (hdd h t hd)
  .rw[aC hd];refine C5 l 0 e0 e0 rfl λj oj fj hj M=>?_
   simp only[bJ,J];rw[aC];intro hji;subst hji;rw[hf] at hj;cases hj;exact hd M
 have Y:Bd (λj=>(listed.setIfInBounds i ah).getD j ai) 0 l h0=eJ (Bd (λj=>listed.getD j ai) 0 l h0) f.wr f.nw:=by
  funext t;unfold eJ;by_cases hd:t∈f.wr
  .rw[aI hd];refine NX l 0 i h0 o f hf hd (by simp[J]) λj o' f' hij hj M=>?_
   simp only[bJ,J,aC (show ¬j=i by omega)];rcases hlater j o' f' hij hj with h|⟨_,h⟩
   .exact h
   .exact cW M (h t hd).2
  .rw[aC hd];refine C4 l 0 h0 h0 rfl λj oj fj hj M=>?_
   simp only[bJ,J];rw[aC];intro hji;subst hji;rw[hf] at hj;cases hj;exact hd M
 obtain⟨φ,hm,hdom,hrep,henv,hdef,hsize⟩:=hst;have hfrN:∀ n∈f.N,φ n=af:=λn hn=>by
  cases I:φ n with
  |none=>rfl
  |some k=>
   rcases hdom n k I with h|⟨j,oj,fj,hSj,hj,hnj⟩
   .rw[hfr i o f hf n hn] at h;cases h
   .have hji:j≠i:=by intro h;subst h;exact cW hSj (by simp only[hnf];simp)
    rcases bV j i with h|h
    .exact cW hn (ni.names j i oj fj o f h hj hf n hnj)
    .exact cW hnj (ni.names i j o f oj fj (by omega) hf hj n hn)
 have hdsz:∀ d,o.dst=aa d->d<a.tmps.size:=λd hd=>by rw[hsize];exact hsz i o ho d hd
 have main:∀ (v:Value) (φ':PM) (w':World),iK φ φ' (Bd (λj=>listed.getD j ai) 0 l h0) (eJ (Bd (λj=>listed.getD j ai) 0 l h0) f.wr f.nw) w w'->
  (∀ i k,φ' i=aa k->φ i=aa k\/i∈f.N)->qh φ' E (eJ (Bd (λj=>listed.getD j ai) 0 l h0) f.wr f.nw) w'->
  cG φ' (tot E φ' (eJ (Bd (λj=>listed.getD j ai) 0 l h0) f.wr f.nw)) w' f.val v->K (a.put o.dst v) w':=by
  intro v φ' w' m1 d1 r1 v1;refine hK _ _ ⟨φ',?_,?_,?_,?_,?_,?_⟩
  .rw[Y];exact hm.trans m1
  .intro i' k h;rcases d1 i' k h with h|h
   .rcases hdom i' k h with h|⟨j,oj,fj,hSj,hj,hnj⟩
    .exact .inl h
    .refine .inr ⟨j,oj,fj,?_,hj,hnj⟩;show (listed.setIfInBounds i ah).getD j ai=ah;rw[J j];split
     .rfl
     .exact hSj
   .exact .inr ⟨i,o,f,(J i).trans (by simp),hf,h⟩
  .rw[Y];exact r1
  .rw[Y];intro t x I;rw[hE' t] at I;rw[GM hdsz];by_cases hd:o.dst=aa t
   .rw[aI hd] at I ⊢;cases I;exact v1
   .rw[aC hd] at I ⊢;exact m1.keep (henv t x I)
  .rw[GP];exact hdef
  .rw[Oe];exact hsize
 have hstep:=hc.step 0 i o f hf;have hrun:gz P o (Jz (λj=>decide (j<0+i)) 0 l e0) (Bd (λj=>decide (j<0+i)) 0 l h0) f->o.wp P a w K Q:=by
  intro ht;refine NP ?_ (ht φ E (Bd (λj=>listed.getD j ai) 0 l h0) w a (λt h=>hhL t (.inl h)) (λt h=>hhL t (.inr h)) ?_ hrep hfrN)
  .rintro a' w' ⟨v,φ',rfl,m1,d1,r1,v1⟩;exact main v φ' w' m1 d1 r1 v1
  .intro t ht' y hy;refine henv t y ?_;rw[heL t (kJ _ (List.mem_filterMap.2 ⟨.tmp t,by simpa using ht',rfl⟩))];exact hy
 have hyield:∀ (j t:Nat) (want b:Bool),o.guard=aa (j,want)->(ops[j]?).bind (·.dst)=aa t->Jz (λj=>decide (j<0+i)) 0 l e0 t=aa (.f (.raw (.bool b)))->ir o (yielded ops a.tmps)=(b==want):=by
  intro j t want b hg hj he;rw[<- heL t (mW _ (by rw[hg];simp[hj]))] at he;have h1:=henv t _ he;have h2:a.tmps.getD t undef= .bool b:=by
   generalize Z:a.tmps.getD t undef=z at h1;cases h1 with
   |f h=>cases h;rfl
  have h3:a.tmps[t]? =aa (.bool b):=by
   rw[gr] at h2;cases Z:a.tmps[t]? with
   |none=>rw[Z] at h2;simp[undef] at h2
   |some z=>rw[Z] at h2;simp at h2;rw[h2]
  unfold ir yielded;rw[hg];simp[hj,h3]
 unfold wpOp;simp only[ho];cases hstep with
 |run hg ht=>
  rw[aI (by unfold ir;rw[hg])];exact .inl (hrun ht)
 |runG j t want hg hj he ht=>
  rw[aI (by rw[hyield j t want want hg hj he];simp)];exact .inl (hrun ht)
 |skip j t want hg hj v he hv hf'=>
  have hnw:ir o (yielded ops a.tmps)=ai:=by
   rw[<- heL t (mW _ (by rw[hg];simp[hj]))] at he;have h1:=henv t _ he;have h2:a.tmps.getD t undef=v:=by
    generalize a.tmps.getD t undef=z at h1;cases h1 with
    |f h=>cases h;rfl
   unfold ir yielded;rw[hg];simp only[hj,aF];rw[gr] at h2;cases Z:a.tmps[t]? with
   |none=>simp
   |some z=>
    rw[Z] at h2;simp at h2;subst h2;cases z<;>simp at hv ⊢;exact hv
  rw[aC (by rw[hnw];simp)];subst hf';have hu:eJ (Bd (λj=>listed.getD j ai) 0 l h0) qO.wr qO.nw=Bd (λj=>listed.getD j ai) 0 l h0:=by
   funext t;simp[eJ,qO]
  refine main undef φ w ?_ (λ_ _ h=>.inl h) ?_ ?_
  .rw[hu];exact iK.refl _ _ _
  .rw[hu];exact hrep
  .exact .f (.raw _)
theorem Wp {l:List Bool}:∀ {i:Nat},l[i]? =aa ai->(l.set i ah).countP id=l.countP id+1:=by
 induction l with
 |nil=>intro i h;simp at h
 |cons b l I=>
  intro i h;cases i with
  |zero=>simp at h;subst h;simp
  |succ i=>
   simp only[List.set_cons_succ,List.countP_cons];rw[I (by simpa using h)];omega
theorem Nu {l:List Bool} (h:l.length<=l.countP id):∀ (j:Nat),j<l.length->l[j]? =aa ah:=by
 have h1:l.countP id=l.length:=Nat.le_antisymm List.countP_le_length h;rw[List.countP_eq_length] at h1;intro j hj;rw[ay hj];simpa using h1 _ (tR hj)
theorem TK {ops:Array Oper} {l:List (Oper×z_)} (J:NIP ops l) {listed:Array Bool} (hs:listed.size=ops.size) (hr:FZ .any ops listed=[]):
 ∀ (n j:Nat),j<n->j<ops.size->listed.getD j ai=ah:=by
 intro n;induction n with
 |zero=>intro j h;omega
 |succ n M=>
  intro j hj hjs;cases I:listed.getD j ai with
  |true=>rfl
  |false=>
   exfalso;have hmem:j∈FZ .any ops listed:=by
    refine mem_ready.2 ⟨?_,ops[j],gX hjs,λe he hb=>?_⟩
    .have:j<listed.size:=by omega
     simp[this] at I ⊢;exact I
    .have h1:=J.edge j _ (gX hjs) e he hb;exact M e.on (by omega) (by omega)
   rw[hr] at hmem;cases hmem
theorem LK {P:Program} {ops:Array Oper} {l:List (Oper×z_)} {e0 e':EF} {h0 h':HF} {φ0:PM} {E:Nat->Prop} {w0:World} {a0:Act}
 (hl:l.map (·.1)=ops.toList) (hc:yB P ops l e0 h0 e' h') (J:NIP ops l) (hfr:∀ (j:Nat) o f,l[j]? =aa (o,f)->∀ n∈f.N,φ0 n=af)
 (hsz:∀ (j:Nat) o,ops[j]? =aa o->∀ d,o.dst=aa d->d<a0.tmps.size) {Q:Exit->Act->World->Prop}
 (U:∀ a w,StP φ0 E e0 h0 w0 a0 l (λ_=>ah) a w->Q .normal a w):
 ∀ (fuel:Nat) (listed:Array Bool) (a:Act) (w:World),listed.size=ops.size->D8 ops listed->ops.size<=fuel+listed.toList.countP id->
  StP φ0 E e0 h0 w0 a0 l (λj=>listed.getD j ai) a w->wpAny P .any ops Q fuel listed a w:=by
 have hlen:l.length=ops.size:=by have:=gx ak hl;simpa using this
 have fin:∀ (listed:Array Bool) (a:Act) (w:World),(∀ j,j<ops.size->listed.getD j ai=ah)->StP φ0 E e0 h0 w0 a0 l (λj=>listed.getD j ai) a w->Q .normal a w:=by
  intro listed a w hall hst;refine U a w ?_;have h1:=hc.final 0 (λj=>listed.getD j ai) (λj hj=>by simp only[bJ];exact hall j (by omega));have h2:=hc.final 0 (λ_=>ah) (λ_ _=>rfl);unfold StP at hst ⊢;rw[h1.1,h1.2] at hst;rw[h2.1,h2.2];obtain⟨φ,m,d,r⟩:=hst;refine ⟨φ,m,λi k h=>?_,r⟩;rcases d i k h with h|⟨j,o,f,_,hj,hn⟩
  .exact .inl h
  .exact .inr ⟨j,o,f,rfl,hj,hn⟩
 intro fuel;induction fuel with
 |zero=>
  intro listed a w hs hcl hcnt hst;have hall:∀ j,j<ops.size->listed.getD j ai=ah:=λj hj=>by
   have:=Nu (l:=listed.toList) (by simp only[ia];omega) j (by simp only[ia];omega);rw[cB] at this;rw[gr,this];rfl
  refine ⟨?_,fin listed a w hall hst⟩;cases hr:FZ .any ops listed with
  |nil=>rfl
  |cons i r=>
   have hi:i∈FZ .any ops listed:=by rw[hr];simp
   obtain⟨hun,o,I,_⟩:=mem_ready.1 hi;have hnf:=(rI hun).1;rw[hall i (cu.1 I).1] at hnf;cases hnf
 |succ fuel M=>
  intro listed a w hs hcl hcnt hst;refine ⟨λhr=>fin listed a w (λj hj=>TK J hs hr (j+1) j (by omega) hj) hst,λi hi=>?_⟩;obtain⟨hun,o,I,hdeps⟩:=mem_ready.1 hi;obtain⟨hnf,hlt⟩:=rI hun;refine X4 hl hc J hfr hsz hcl hi (λa' w' h=>M _ a' w' ?_ ?_ ?_ h) hst
  .simpa using hs
  .intro j oj hoj hj e he hb;by_cases hji:i=j
   .subst hji;rw[I] at hoj;cases hoj;exact getD_set_true (hdeps e he hb)
   .rw[getD_set_ne ai hji] at hj;exact getD_set_true (hcl j oj hoj hj e he hb)
  .have h1:listed.toList[i]? =aa ai:=by
    rw[cB,gX hlt];simp[hlt] at hnf;rw[hnf]
   rw[Array.toList_setIfInBounds,Wp h1];omega
def ajq (φ0:PM) (E:Nat->Prop) (e':EF) (h0 h':HF) (N:List Nat) (w0:World) (a0:Act) (a:Act) (w:World):Prop:=
 ∃ φ,iK φ0 φ h0 h' w0 w/\(∀ i k,φ i=aa k->φ0 i=aa k\/i∈N)/\qh φ E h' w/\LP φ (tot E φ h') w e' a/\a.defers=a0.defers/\a.tmps.size=a0.tmps.size
theorem iK.drew {φ:PM} {h:HF} (w:World):iK φ φ h h w {w with drawn:=w.drawn+1}:=
 ⟨λ_ _ h=>h,⟨rfl,rfl,rfl,bO _,λ_ _ _=>rfl,λ_ _=>rfl⟩,λ_ _ h=>h⟩
theorem qh.moved {φ:PM} {E:Nat->Prop} {h:HF} {w w':World} (r:qh φ E h w) (m:iK φ φ h h w w') (hk:∀ k,own φ h k->w'.heap[k]? =w.heap[k]?):qh φ E h w':=
 ⟨r.inj,λi b hb=>by
   obtain⟨k,h1,h2,o,J,I⟩:=r.at_ i b hb;exact⟨k,h1,h2,o,by rw[hk k ⟨i,b,hb,h1⟩];exact J,I.mono λ_ _ h=>m.keep h⟩,λk hk=>dl (r.el k hk) m.ext.size,
   λg cells hg=>m.keepF (r.gl g cells hg)⟩
theorem Oc {P:Program} {ops:Array Oper} {l:List (Oper×z_)} {e0 e':EF} {h0 h':HF} {φ0:PM} {E:Nat->Prop} {w0:World} {a0:Act} {id:Nat} {draw:Bool}
 (hm:P.follows .mixedOrders=ah) (hl:l.map (·.1)=ops.toList) (hc:yB P ops l e0 h0 e' h') (I:NIP ops l) (hfr:∀ n∈l.flatMap (λp=>p.2.N),φ0 n=af)
 (hsz:∀ (j:Nat) o,ops[j]? =aa o->∀ d,o.dst=aa d->d<a0.tmps.size) (hrep:qh φ0 E h0 w0) (henv:LP φ0 (tot E φ0 h0) w0 e0 a0) {Q:Exit->Act->World->Prop}
 (Y:∀ a w,ajq φ0 E e' h0 h' (l.flatMap (λp=>p.2.N)) w0 a0 a w->Q .normal a w):(Code.region id ops draw).wp P Q a0 w0:=by
 have hfr':∀ (j:Nat) o f,l[j]? =aa (o,f)->∀ n∈f.N,φ0 n=af:=λj o f hj n hn=>hfr n (tQ.2 ⟨(o,f),a8 hj,hn⟩)
 have fin:∀ a w,StP φ0 E e0 h0 w0 a0 l (λ_=>ah) a w->Q .normal a w:=by
  rintro a w ⟨φ,m,d,r,en,Z,sz⟩;have h2:=hc.final 0 (λ_=>ah) (λ_ _=>rfl);rw[h2.2] at m r en;rw[h2.1] at en;refine Y a w ⟨φ,m,λi k h=>?_,r,en,Z,sz⟩;rcases d i k h with h|⟨j,o,f,_,hj,hn⟩
  .exact .inl h
  .exact .inr (tQ.2 ⟨(o,f),a8 hj,hn⟩)
 have st0:∀ (w:World),iK φ0 φ0 h0 h0 w0 w->qh φ0 E h0 w->StP φ0 E e0 h0 w0 a0 l (λj=>(nR ops.size ai).getD j ai) a0 w:=by
  intro w m r;have e1:(λj=>(nR ops.size ai).getD j ai)=λ_=>ai:=by
   funext j;rw[gr,Array.getElem?_replicate];split<;>rfl
  rw[e1];have e2:Jz (λ_=>ai) 0 l e0=e0:=by funext t;rw[Bn];intros;rfl
  have e3:Bd (λ_=>ai) 0 l h0=h0:=by funext t;rw[Bm];intros;rfl
  refine ⟨φ0,by rw[e3];exact m,λ_ _ h=>.inl h,by rw[e3];exact r,?_,rfl,rfl⟩;rw[e2,e3];exact λt x U=>m.keep (henv t x U)
 have cl0:D8 ops (nR ops.size ai):=by
  intro j o ho hj;rw[gr,Array.getElem?_replicate] at hj;split at hj<;>simp at hj
 cases draw with
 |true=>
  refine wp_region_any hm ?_;exact LK hl hc I hfr' hsz fin ops.size _ a0 _ (by simp) cl0 (by omega) (st0 _ (iK.drew w0) (hrep.moved (iK.drew w0) λ_ _=>rfl))
 |false=>
  have hany:=LK (E:=E) (w0:=w0) hl hc I hfr' hsz fin ops.size _ a0 w0 (by simp) cl0 (by omega) (st0 _ (iK.refl _ _ _) hrep);refine wp_region ?_;have key:∀ (m k:Nat) (listed:Array Bool) (a:Act) (w:World),k+m=ops.size->listed.size=ops.size->(∀ j,j<k->listed.getD j ai=ah)->(∀ j,k<=j->j<ops.size->listed.getD j ah=ai)->
   wpAny P .any ops Q m listed a w->wpOps P ops Q (List.range' k m) a w:=by
   intro m;induction m with
   |zero=>intro k listed a w hk hs h1 h2 h;simpa[wpOps] using h.2
   |succ m M=>
    intro k listed a w hk hs h1 h2 h;rw[List.range'_succ,wpOps_cons];have hkr:k∈FZ .any ops listed:=by
     refine mem_ready.2 ⟨h2 k (bO _) (by omega),ops[k]'(by omega),gX (by omega),λe he hb=>?_⟩;exact h1 _ (I.edge k _ (gX (by omega)) e he hb)
    refine wpOp_mono (λa' w' h'=>M (k+1) (listed.setIfInBounds k ah) a' w' (by omega) (by simpa using hs) ?_ ?_ h') (h.2 k hkr)
    .intro j hj;by_cases hjk:k=j
     .subst hjk;simp[show k<listed.size by omega]
     .rw[getD_set_ne ai hjk];exact h1 j (by omega)
    .intro j hj J;rw[getD_set_ne ah (by omega)];exact h2 j (by omega) J
  have:=key ops.size 0 (nR ops.size ai) a0 w0 (by omega) (by simp) (by intro j hj;omega) (by
   intro j _ hj;rw[gr,Array.getElem?_replicate,aI hj];rfl) hany
  rwa [List.range_eq_range']
inductive PT (α:Type) where
 |leaf
 |node (v:Option α) (l r:PT α)
namespace PT
variable {α:Type}
def get:PT α->Nat->Option α
 |leaf,_=>af
 |node v l r,n=>match n with
  |0=>v
  |m+1=>if aA (m%2) 0 then get l (m/2) else get r (m/2)
def L_:Nat->PT α->Nat->Option α->PT α
 |0,t,_,_=>t
 |k+1,t,n,x=>match t with
  |leaf=>(match n with
   |0=>node x leaf leaf
   |m+1=>if aA (m%2) 0 then node af (L_ k leaf (m/2) x) leaf else node af leaf (L_ k leaf (m/2) x))
  |node v l r=>(match n with
   |0=>node x l r
   |m+1=>if aA (m%2) 0 then node v (L_ k l (m/2) x) r else node v l (L_ k r (m/2) x))
def set (t:PT α) (n:Nat) (x:Option α):PT α:=L_ (n+1) t n x
theorem xR:∀ (k:Nat) (t:PT α) (n:Nat) (x:Option α),n<k->∀ i,(L_ k t n x).get i=if i=n then x else t.get i
 |0,_,_,_,h,_=>cW h (vQ _)
 |k+1,t,n,x,h,i=>by
  cases n with
  |zero=>
   cases t<;>cases i<;>simp[L_,get]
  |succ m=>
   have hm:m/2<k:=by have:=Nat.div_le_self m 2;omega
   cases t with
   |leaf=>
    simp only[L_];cases hb:aA (m%2) 0 with
    |true=>
     have J:m%2=0:=av hb;simp only[bC];cases i with
     |zero=>simp[get]
     |succ j=>
      simp only[get];cases hj:aA (j%2) 0 with
      |true=>
       have I:j%2=0:=av hj;simp only[bC];rw[xR k _ _ _ hm];by_cases he:j/2=m/2
       .rw[aI he,aI (by omega)]
       .rw[aC he,aC (by omega)];rfl
      |false=>
       have I:¬j%2=0:=gT hj;simp only[co,dR];rw[aC (by omega)]
    |false=>
     have J:¬m%2=0:=gT hb;simp only[co,dR];cases i with
     |zero=>simp[get]
     |succ j=>
      simp only[get];cases hj:aA (j%2) 0 with
      |true=>
       have I:j%2=0:=av hj;simp only[bC];rw[aC (by omega)]
      |false=>
       have I:¬j%2=0:=gT hj;simp only[co,dR];rw[xR k _ _ _ hm];by_cases he:j/2=m/2
       .rw[aI he,aI (by omega)]
       .rw[aC he,aC (by omega)];rfl
   |node v l r=>
    simp only[L_];cases hb:aA (m%2) 0 with
    |true=>
     have J:m%2=0:=av hb;simp only[bC];cases i with
     |zero=>simp[get]
     |succ j=>
      simp only[get];cases hj:aA (j%2) 0 with
      |true=>
       have I:j%2=0:=av hj;simp only[bC];rw[xR k _ _ _ hm];by_cases he:j/2=m/2
       .rw[aI he,aI (by omega)]
       .rw[aC he,aC (by omega)]
      |false=>
       have I:¬j%2=0:=gT hj;simp only[co,dR];rw[aC (by omega)]
    |false=>
     have J:¬m%2=0:=gT hb;simp only[co,dR];cases i with
     |zero=>simp[get]
     |succ j=>
      simp only[get];cases hj:aA (j%2) 0 with
      |true=>
       have I:j%2=0:=av hj;simp only[bC];rw[aC (by omega)]
      |false=>
       have I:¬j%2=0:=gT hj;simp only[co,dR];rw[xR k _ _ _ hm];by_cases he:j/2=m/2
       .rw[aI he,aI (by omega)]
       .rw[aC he,aC (by omega)]
theorem get_set (t:PT α) (n:Nat) (x:Option α) (i:Nat):(t.set n x).get i=if i=n then x else t.get i:=xR (n+1) t n x (by omega) i
def mask {β:Type}:PT α->PT β->PT α
 |leaf,_=>leaf
 |node _ _ _,leaf=>leaf
 |node v l r,node u J I=>node (match u with|some _=>v|none=>af) (mask l J) (mask r I)
def mk:Option α->PT α->PT α->PT α
 |none,leaf,leaf=>leaf
 |v,l,r=>node v l r
def only (m:Nat):Nat->Nat->PT α->PT α
 |_,_,leaf=>leaf
 |a,b,node v l r=>mk (if aL m b then v else af) (only m (2*a) (a+b) l) (only m (2*a) (2*a+b) r)
def exc (m:Nat):Nat->Nat->PT α->PT α
 |_,_,leaf=>leaf
 |a,b,node v l r=>mk (if aL m b then af else v) (exc m (2*a) (a+b) l) (exc m (2*a) (2*a+b) r)
def merge (m:Nat):Nat->Nat->PT α->PT α->PT α
 |a,b,leaf,t=>only m a b t
 |a,b,node v l r,leaf=>exc m a b (node v l r)
 |a,b,node v l r,node I M J=>mk (if aL m b then I else v) (merge m (2*a) (a+b) l M) (merge m (2*a) (2*a+b) r J)
def all (p:Nat->α->Bool):Nat->Nat->PT α->Bool
 |_,_,leaf=>ah
 |a,b,node v l r=>(match v with|some x=>p b x|none=>ah)&&all p (2*a) (a+b) l&&all p (2*a) (2*a+b) r
theorem get_all (p:Nat->α->Bool):∀ (t:PT α) (a b i:Nat) (x:α),all p a b t=ah->t.get i=aa x->p (a*i+b) x=ah
 |leaf,_,_,_,_,_,h=>by simp[get] at h
 |node v l r,a,b,0,x,h,I=>by
  simp only[get] at I;subst I;simp only[all,au] at h;rw[Nat.mul_zero,bJ];exact h.1.1
 |node v l r,a,b,j+1,x,h,I=>by
  simp only[all,au] at h;simp only[get] at I;cases hj:aA (j%2) 0 with
  |true=>
   have J:j%2=0:=av hj;simp only[hj,bC] at I;have key:=get_all p l _ _ _ x h.1.2 I;have:2*a*(j/2)+(a+b)=a*(j+1)+b:=by
    have e:j=2*(j/2):=by omega
    calc 2*a*(j/2)+(a+b)=a*(2*(j/2))+a+b:=by rw[F1 2 a,Nat.mul_assoc];omega
     _=a*(j+1)+b:=by rw[<- e,Nat.mul_add];omega
   rw[this] at key;exact key
  |false=>
   have J:¬j%2=0:=gT hj;simp only[hj,co,dR] at I;have key:=get_all p r _ _ _ x h.2 I;have:2*a*(j/2)+(2*a+b)=a*(j+1)+b:=by
    have e:j=2*(j/2)+1:=by omega
    have h2:a*(j+1)=a*(2*(j/2))+2*a:=by
     calc a*(j+1)=a*(2*(j/2)+2):=by rw[show j+1=2*(j/2)+2 from by omega]
      _=a*(2*(j/2))+2*a:=by rw[Nat.mul_add];omega
    have M:2*a*(j/2)=a*(2*(j/2)):=by rw[F1 2 a,Nat.mul_assoc]
    omega
   rw[this] at key;exact key
def dom:Nat->Nat->PT α->Nat->Nat
 |_,_,leaf,acc=>acc
 |a,b,node v l r,acc=>dom (2*a) (a+b) l (dom (2*a) (2*a+b) r (match v with|some _=>acc|||(1<<<b)|none=>acc))
def emp:PT α:=leaf
end PT
abbrev yA:=PT AV
abbrev nB:=PT vN
abbrev NW:=List (Nat×vN)
def yA.put (e:yA):Option Nat->AV->yA
 |none,_=>e
 |some d,x=>e.set d (aa x)
def iP:NW->HF
 |[],_=>af
 |(s,x)::r,t=>if aA s t then aa x else iP r t
theorem XW (e:yA) (d:Option Nat) (x:AV):Bx e.get d x=(e.put d x).get:=by
 funext t;cases d with
 |none=>simp[Bx,yA.put]
 |some d=>
  simp only[Bx,yA.put,PT.get_set,aj];by_cases h:d=t
  .simp[h]
  .rw[aC h,aC (λe=>h e.symm)]
def Gl (acc:List Nat) (s:Nat) (e:Edge):Nat:=if yC .any e then (s|||2^e.on)|||acc.getD e.on 0 else s
def I5:List Oper->List Nat->List Nat
 |[],acc=>acc
 |o::r,acc=>I5 r (acc++[o.after.toList.foldl (Gl acc) 0])
theorem I6 {ops:Array Oper} {o:Oper} {k:Nat} {acc:List Nat} (J:ops[k]? =aa o) (M:∀ (j:Nat) B,acc[j]? =aa B->∀ i,B.testBit i=ah->ZP ops j i):
 ∀ (es:List Edge) (s:Nat),(∀ e∈es,e∈o.after)->(∀ i,s.testBit i=ah->ZP ops k i)->∀ i,(es.foldl (Gl acc) s).testBit i=ah->ZP ops k i
 |[],s,_,hs,i,hi=>hs i hi
 |e::r,s,he,hs,i,hi=>by
  refine I6 J M r (Gl acc s e) (λe' h'=>he e' (cN _ h')) (λi hi=>?_) i hi;unfold Gl at hi;split at hi
  .rename_i hb;rw[bl,bl,iD,iD] at hi;rcases hi with (hi|hi)|hi
   .exact hs i hi
   .rw[Nat.testBit_two_pow] at hi;have:e.on=i:=by simpa using hi
    subst this;exact .one J (he e (dH ..)) hb
   .refine .more J (he e (dH ..)) hb ?_;rw[ax] at hi;cases I:acc[e.on]? with
    |none=>rw[I] at hi;simp at hi
    |some C=>rw[I] at hi;exact M _ C I i hi
  .exact hs i hi
theorem LJ {ops:Array Oper}:∀ (rest:List Oper) (acc:List Nat),(∀ (j:Nat),∀ o,rest[j]? =aa o->ops[acc.length+j]? =aa o)->
 (∀ (j:Nat) B,acc[j]? =aa B->∀ i,B.testBit i=ah->ZP ops j i)->∀ (j:Nat) B,(I5 rest acc)[j]? =aa B->∀ i,B.testBit i=ah->ZP ops j i
 |[],acc,_,I=>I
 |o::r,acc,J,I=>by
  refine LJ r _ (λj o' hj=>?_) ?_
  .rw[bn,gg,show acc.length+1+j=acc.length+(j+1) from by omega];exact J (j+1) o' (by simpa using hj)
  .intro j B hj i hi;rcases bV j acc.length with h|h
   .rw[bL h] at hj;exact I j B hj i hi
   .rw[bW h] at hj;have M:j-acc.length=0:=by
     rcases Jv (j-acc.length) with h0|h0
     .exact h0
     .rw[bK (by simp;omega)] at hj;cases hj
    have hjl:j=acc.length:=by omega
    subst hjl;simp at hj;subst hj;have hoo:ops[acc.length]? =aa o:=by simpa using J 0 o rfl
    rw[<- Array.foldl_toList] at hi;exact I6 hoo I _ 0 (λe he=>by simpa using he) (λi hi=>by simp at hi) i hi
inductive WZ where
 |mv (x:Operand)
 |pick (c a b:Operand)
 |alloc (ty:TypeId) (z:List Value)
 |box (ty:TypeId) (x:Operand)
 |build (z:List Value) (parts:List (Nat×Nat×Operand))
 |bsl (ty:TypeId) (sz len:Nat) (z:List Value) (parts:List (Nat×Nat×Operand))
 |load (sz:Nat) (ag:Bool) (x:Operand)
 |store (sz:Nat) (x v:Operand)
 |nilc (x:Operand)
 |bin (op:BinOp) (x y:Operand)
 |eqs (neg:Bool) (ds:List TypeDesc) (x y:Operand)
 |isnil (neg:Bool) (x:Operand)
 |eqb (neg:Bool) (x y:Operand)
 |not (x:Operand)
 |conv (k:IntKind) (x:Operand)
 |mksl (ty:TypeId) (sz bytes:Nat) (z:List Value) (l c:Operand)
 |slc (sz:Nat) (x:Operand) (lo hi mx:Option Operand)
 |fad (off:Nat) (x:Operand)
 |fld (off sz:Nat) (ag:Bool) (x:Operand)
 |iad (sz:Nat) (x i:Operand)
 |iada (n sz:Nat) (x i:Operand)
 |idx (n sz:Nat) (ag:Bool) (x i:Operand)
 |ext (x:Operand) (i:Nat)
 |len (x:Operand)
 |lens (x:Operand)
 |lenm (x:Operand)
 |max (x y:Operand)
 |min (x y:Operand)
 |sidx (x i:Operand)
 |app (ty:TypeId) (sz bytes:Nat) (s x:Operand)
 |copy (sz:Nat) (d x:Operand)
 |clr (sz:Nat) (z:List Value) (x:Operand)
 |mkf (f:FuncId) (caps:List Operand)
 |mkm
 |lku (str:Bool) (z:Value) (x k:Operand)
 |mup (str:Bool) (x k v:Operand)
 |rng (x:Operand)
 |nxt (x:Operand)
 |bad
inductive SI where
 |op (s:WZ)
 |call (f:FuncId) (args:List Operand)
 |callv (x:Operand) (args:List Operand)
def Vz (t:Nat):List Nat->Bool
 |[]=>ai
 |x::r=>aA x t||Vz t r
def I1:List Value->Bool
 |[]=>ah
 |v::r=>v.oneCell'&&I1 r
def DR:Value->AV
 |.agg vs=>if I1 vs.toList then .agg (vs.toList.map λv=>.f (.raw v)) else .f (.raw (.agg vs))
 |v=>.f (.raw v)
def mh (e:yA):Operand->Option AV
 |.tmp t=>e.get t
 |.const v=>aa (DR v)
 |.func g=>aa (.clo g [])
 |.global g=>match G g with|some cells=>aa (.f (.ptr cells 0))|none=>af
def UQ (e:yA):List Operand->Option (List AV)
 |[]=>aa []
 |x::xs=>match mh e x with|some y=>(match UQ e xs with|some I=>aa (y::I)|none=>af)|none=>af
structure AX where
 val:AV
 rd:List Nat
 wr:List Nat
 nw:NW
 N:List Nat
def AX.eff (r:AX):z_:=⟨r.val,r.rd,r.wr,iP r.nw,r.N⟩
def rv (x:AV):Option AX:=aa ⟨x,[],[],[],[]⟩
def raw (v:Value):AV:=.f (.raw v)
def wN:List AV->Option (List FV)
 |[]=>aa []
 |.f x::r=>match wN r with|some l=>aa (x::l)|none=>af
 |_::_=>af
def oP (l:List AV):BC:=match wN l with|some fs=>.fz fs|none=>.mx l
def K3 (l:List AV):AV:=match wN l with|some fs=>.f (.agg fs)|none=>.agg l
def splice {α:Type} (l:List α) (off:Nat) (vs:List α):List α:=l.take off++vs++l.drop (off+vs.length)
def BC.toMx:BC->List AV
 |.fz l=>l.map .f
 |.mx l=>l
 |_=>[]
def gu:List AV->Bool
 |[]=>ah
 |x::r=>x.isCell&&gu r
def BC.put (c:BC) (off:Nat) (vs:List AV):Option BC:=
 if c.isCells&&ep (off+vs.length) c.len&&gu vs then
  match c,wN vs with
  |.fz l,aa I=>aa (.fz (splice l off I))
  |c,_=>aa (.mx (splice c.toMx off vs))
 else af
def BC.sub? (c:BC) (off sz:Nat):Bool->Option AV
 |false=>match sz with|1=>c.get off|_=>af
 |true=>match c with
  |.fz l=>if ep (off+sz) l.length then aa (.f (.agg ((l.drop off).take sz))) else af
  |.mx l=>if ep (off+sz) l.length then aa (.agg ((l.drop off).take sz)) else af
  |_=>af
def AV.cs:AV->List AV
 |.agg l=>l
 |.f (.agg l)=>l.map .f
 |x=>[x]
def CL (h:nB) (sz:Nat) (ag:Bool):AV->Option AX
 |.ptr id off=>match h.get id with
  |some b=>(match b.c.sub? off sz ag with|some v=>aa ⟨v,[id],[],[],[]⟩|none=>af)
  |none=>af
 |.f (.ptr cells off)=>(match (BC.fz cells).sub? off sz ag with|some v=>rv v|none=>af)
 |_=>af
def Nq (h:nB) (sz:Nat) (v:AV):AV->Option AX
 |.ptr id off=>match h.get id with
  |some b=>if v.cs.length==sz then (match b.c.put off v.cs with|some c=>aa ⟨raw undef,[id],[id],[(id,⟨b.ty,c⟩)],[]⟩|none=>af) else af
  |none=>af
 |_=>af
def xW (cells:List AV) (e:yA):List (Nat×Nat×Operand)->Option (List AV)
 |[]=>aa cells
 |(off,sz,x)::r=>match mh e x with
  |some v=>if v.cs.length==sz&&ep (off+sz) cells.length&&gu v.cs then xW (splice cells off v.cs) e r else af
  |none=>af
def cR (a b:Int):Bool:=decide (a<=b)
def fG (a b:Int):Bool:=decide (a<b)
def KH (k:IntKind) (n:Int):Int:=
 match k with
 |.i64=>if cR (-9223372036854775808) n&&cR n 9223372036854775807 then n else oo .i64 n
 |.u8=>if cR 0 n&&cR n 255 then n else oo .u8 n
 |k=>oo k n
def nok:Int->Bool
 |.ofNat k=>aA k k
 |.negSucc k=>aA k k
theorem ah7 (n:Int):nok n=ah:=by cases n<;>exact tP _
def be (k:IntKind) (n:Int):Int:=bif nok n then KH k n else 0
theorem F3 (k:IntKind) (n:Int):be k n=KH k n:=by unfold be;rw[ah7];rfl
def qX (a b:ByteArray):Bool:=a.data.toList==b.data.toList
def tL (op:BinOp):Value->Value->Option Value
 |.int k a,.int k' b=>if k==k' then
   match op with
   |.add=>aa (.int k (be k (a+b)))
   |.sub=>aa (.int k (be k (a-b)))
   |.mul=>aa (.int k (be k (a*b)))
   |.rem=>if b==0 then af else aa (.int k (a.tmod b))
   |.quo=>if b==0 then af else aa (.int k (be k (a.tdiv b)))
   |.eql=>aa (.bool (a==b))
   |.neq=>aa (.bool (a !=b))
   |.lss=>aa (.bool (fG a b))
   |.leq=>aa (.bool (cR a b))
   |.gtr=>aa (.bool (fG b a))
   |.geq=>aa (.bool (cR b a))
   |_=>af
  else af
 |.string a,.string b=>match op with
   |.eql=>aa (.bool (qX a b))
   |.neq=>aa (.bool !(qX a b))
   |_=>af
 |_,_=>af
def wD:TypeDesc->FV->FV->Option Bool
 |.int _,.raw (.int k a),.raw (.int k' b)=>if k==k' then aa (a==b) else af
 |.bool,.raw (.bool a),.raw (.bool b)=>aa (a==b)
 |.string,.raw (.string a),.raw (.string b)=>aa (qX a b)
 |_,_,_=>af
def oz:List TypeDesc->List FV->List FV->Option Bool
 |[],[],[]=>aa ah
 |d::ds,x::xs,y::I=>match wD d x y with
  |some ah=>oz ds xs I
  |some ai=>aa ai
  |none=>af
 |_,_,_=>af
def AV.row? (h:nB) (sz:Nat):AV->Option (List AV×Nat×List Nat)
 |.f (.sl cells n)=>if ep (n*sz) cells.length then aa ((cells.take (n*sz)).map .f,n,[]) else af
 |.f (.raw (.slice af 0 0))=>aa ([],0,[])
 |.emp=>aa ([],0,[])
 |.row id sz' n=>if sz'==sz then (match h.get id with|some b=>if b.c.isCells&&ep (n*sz) b.c.len then aa (b.c.toMx.take (n*sz),n,[id]) else af|none=>af) else af
 |.sl id off n=>match h.get id with|some b=>if b.c.isCells&&ep (off+n*sz) b.c.len then aa ((b.c.toMx.drop off).take (n*sz),n,[id]) else af|none=>af
 |_=>af
def AV.slen:AV->Option Nat
 |.f (.sl _ n)=>aa n
 |.f (.raw (.slice _ n _))=>aa n
 |.emp=>aa 0
 |.row _ _ n=>aa n
 |.sl _ _ n=>aa n
 |_=>af
def a_ (n bytes:Nat):Bool:=ep n 1099511627776&&ep (n*bytes) 1099511627776
def repl (z:List Value):Nat->List FV
 |0=>[]
 |n+1=>z.map .raw++repl z n
def yN:Value->Bool
 |.slice af 0 0=>ah
 |_=>ai
def Hj:AV->Bool
 |.emp=>ah
 |.f (.raw v)=>yN v
 |_=>ai
def r9 (k:Value):List (Value×AV)->Option (Option AV)
 |[]=>aa af
 |(k',v)::r=>match tL .eql k k' with
  |some (.bool ah)=>aa (aa v)
  |some (.bool ai)=>r9 k r
  |_=>af
def xJ (k:Value) (v:AV):List (Value×AV)->Option (List (Value×AV))
 |[]=>aa [(k,v)]
 |(k',I)::r=>match tL .eql k k' with
  |some (.bool ah)=>aa ((k,v)::r)
  |some (.bool ai)=>(match xJ k v r with|some J=>aa ((k',I)::J)|none=>af)
  |_=>af
def xL:Bool->Value->Bool
 |false,.int _ _=>ah
 |true,.string _=>ah
 |_,_=>ai
def eE (s:WZ) (e:yA) (h:nB) (nx:Nat):Option AX:=
 match s with
 |.mv x=>match mh e x with|some v=>rv v|none=>af
 |.pick c a b=>match mh e c with
  |some (.f (.raw (.bool t)))=>(match mh e (if t then a else b) with|some v=>rv v|none=>af)
  |_=>af
 |.alloc ty z=>aa ⟨.ptr nx 0,[],[nx],[(nx,⟨ty,.fz (z.map .raw)⟩)],[nx]⟩
 |.box ty x=>match mh e x with
  |some v=>if gu v.cs then aa ⟨.ptr nx 0,[],[nx],[(nx,⟨ty,oP v.cs⟩)],[nx]⟩ else af
  |none=>af
 |.build z parts=>match xW (z.map raw) e parts with|some cs=>rv (K3 cs)|none=>af
 |.bsl ty sz len z parts=>match xW ((repl z len).map .f) e parts with
  |some cs=>aa ⟨if len=0 then .emp else .row nx sz len,[],[nx],[(nx,⟨ty,oP cs⟩)],[nx]⟩
  |none=>af
 |.load sz ag x=>match mh e x with|some p=>CL h sz ag p|none=>af
 |.store sz x v=>match mh e x,mh e v with|some p,aa y=>Nq h sz y p|_,_=>af
 |.nilc x=>match mh e x with
  |some (.ptr id off)=>rv (.ptr id off)
  |some (.f (.ptr cells off))=>rv (.f (.ptr cells off))
  |some (.clo g cap)=>rv (.clo g cap)
  |_=>af
 |.bin op x y=>match mh e x,mh e y with
  |some (.f (.raw u)),aa (.f (.raw v))=>(match tL op u v with|some r=>rv (raw r)|none=>af)
  |_,_=>af
 |.eqs neg ds x y=>match mh e x,mh e y with
  |some (.f (.agg a)),aa (.f (.agg b))=>(match oz ds a b with|some r=>rv (raw (.bool (r !=neg)))|none=>af)
  |_,_=>af
 |.eqb neg x y=>match mh e x,mh e y with
  |some (.f (.raw (.bool a))),aa (.f (.raw (.bool b)))=>rv (raw (.bool ((a==b) !=neg)))
  |_,_=>af
 |.isnil neg x=>match mh e x with
  |some (.row _ _ _)=>rv (raw (.bool neg))
  |some (.sl _ _ _)=>rv (raw (.bool neg))
  |some (.f (.sl _ (_+1)))=>rv (raw (.bool neg))
  |some (.f (.sl _ 0))=>rv .anyb
  |some .emp=>rv .anyb
  |some (.f (.raw v))=>if yN v then rv (raw (.bool !neg)) else af
  |_=>af
 |.not x=>match mh e x with|some (.f (.raw (.bool b)))=>rv (raw (.bool !b))|_=>af
 |.conv k x=>match mh e x with|some (.f (.raw (.int _ n)))=>rv (raw (.int k (be k n)))|_=>af
 |.mksl ty sz bytes z l c=>match mh e l,mh e c with
  |some (.f (.raw (.int _ a))),aa (.f (.raw (.int _ b)))=>
   if cR 0 a&&cR a b&&a_ b.toNat bytes then aa ⟨.row nx sz a.toNat,[],[nx],[(nx,⟨ty,.fz (repl z a.toNat)⟩)],[nx]⟩ else af
  |_,_=>af
 |.slc sz x lo hi mx=>match mh e x with
  |some v=>match lo,hi,mx with
   |none,aa (.const (.int _ 0)),aa (.const (.int _ 0))=>if v.slen.isSome then rv .emp else af
   |none,aa b,af=>match v,mh e b with
    |.row id sz' n,aa (.f (.raw (.int _ j)))=>if sz'==sz&&cR 0 j&&cR j n then (match h.get id with
     |some blk=>if blk.c.isCells&&ep (n*sz) blk.c.len then aa ⟨.row nx sz j.toNat,[id],[nx,id],[(nx,⟨blk.ty,oP (blk.c.toMx.take (j.toNat*sz))⟩)],[nx]⟩ else af
     |none=>af) else af
    |.f (.sl cells n),aa (.f (.raw (.int _ j)))=>if cR 0 j&&cR j n&&ep (n*sz) cells.length then rv (.f (.sl (cells.take (j.toNat*sz)) j.toNat)) else af
    |_,_=>af
   |some b,af,af=>match v,mh e b with
    |.row id sz' n,aa (.f (.raw (.int _ j)))=>if sz'==sz&&cR 0 j&&fG j n then rv (.sl id (j.toNat*sz) (n-j.toNat)) else af
    |.f (.sl cells n),aa (.f (.raw (.int _ j)))=>if cR 0 j&&cR j n&&ep (n*sz) cells.length then rv (.f (.sl ((cells.drop (j.toNat*sz)).take ((n-j.toNat)*sz)) (n-j.toNat))) else af
    |_,_=>af
   |_,_,_=>af
  |none=>af
 |.fad off x=>match mh e x with
  |some (.ptr id o)=>rv (.ptr id (o+off))
  |some (.f (.ptr cells o))=>rv (.f (.ptr cells (o+off)))
  |_=>af
 |.fld off sz ag x=>match mh e x with
  |some (.agg l)=>(match (BC.mx l).sub? off sz ag with|some v=>rv v|none=>af)
  |some (.f (.agg l))=>(match (BC.fz l).sub? off sz ag with|some v=>rv v|none=>af)
  |_=>af
 |.iad sz x i=>match mh e x,mh e i with
  |some v,aa (.f (.raw (.int _ j)))=>match v with
   |.row id sz' n=>if sz'==sz&&cR 0 j&&fG j n then rv (.ptr id (j.toNat*sz)) else af
   |.sl id off n=>if cR 0 j&&fG j n then rv (.ptr id (off+j.toNat*sz)) else af
   |.f (.sl cells n)=>if cR 0 j&&fG j n then rv (.f (.ptr cells (j.toNat*sz))) else af
   |_=>af
  |_,_=>af
 |.iada n sz x i=>match mh e x,mh e i with
  |some v,aa (.f (.raw (.int _ j)))=>if cR 0 j&&fG j n then (match v with
   |.ptr id off=>rv (.ptr id (off+j.toNat*sz))
   |.f (.ptr cells off)=>rv (.f (.ptr cells (off+j.toNat*sz)))
   |_=>af) else af
  |_,_=>af
 |.idx n sz ag x i=>match mh e x,mh e i with
  |some v,aa (.f (.raw (.int _ j)))=>if cR 0 j&&fG j n then (match v with
   |.agg l=>(match (BC.mx l).sub? (j.toNat*sz) sz ag with|some v=>rv v|none=>af)
   |.f (.agg l)=>(match (BC.fz l).sub? (j.toNat*sz) sz ag with|some v=>rv v|none=>af)
   |_=>af) else af
  |_,_=>af
 |.ext x i=>match mh e x with|some (.tup l)=>(match l[i]? with|some v=>rv v|none=>af)|_=>af
 |.len x=>match mh e x with
  |some v=>(match v.slen with|some n=>rv (raw (.int .i64 n))|none=>af)
  |none=>af
 |.lens x=>match mh e x with
  |some (.f (.raw (.string s)))=>rv (raw (.int .i64 s.data.toList.length))
  |_=>af
 |.lenm x=>match mh e x with
  |some (.mp id)=>(match h.get id with|some ⟨_,.mp es⟩=>aa ⟨raw (.int .i64 es.length),[id],[],[],[]⟩|_=>af)
  |_=>af
 |.max x y=>match mh e x,mh e y with
  |some (.f (.raw (.int k a))),aa (.f (.raw (.int _ b)))=>rv (raw (.int k (if fG a b then b else a)))
  |_,_=>af
 |.min x y=>match mh e x,mh e y with
  |some (.f (.raw (.int k a))),aa (.f (.raw (.int _ b)))=>rv (raw (.int k (if fG b a then b else a)))
  |_,_=>af
 |.sidx x i=>match mh e x,mh e i with
  |some (.f (.raw (.string s))),aa (.f (.raw (.int _ j)))=>if cR 0 j then (match s.data.toList[j.toNat]? with|some b=>rv (raw (.int .u8 b.toNat))|none=>af) else af
  |_,_=>af
 |.app ty sz bytes s x=>match mh e s,mh e x with
  |some b,aa y=>match y.row? h sz with
   |some (src,m,rd)=>match b with
    |.row id sz' n=>match h.get id with
     |some blk=>if sz'==sz&& !(Vz id rd)&&blk.c.isCells&&ep (n*sz) blk.c.len&&blk.ty==ty&&a_ (n+m) bytes then
       aa ⟨.row nx sz (n+m),id::rd,[nx,id],[(nx,⟨ty,oP (blk.c.toMx.take (n*sz)++src)⟩)],[nx]⟩ else af
     |none=>af
    |b=>if Hj b&&a_ m bytes then
      (if m==0 then aa ⟨b,rd,[],[],[]⟩ else aa ⟨.row nx sz m,rd,[nx],[(nx,⟨ty,oP src⟩)],[nx]⟩) else af
   |none=>af
  |_,_=>af
 |.copy sz d x=>match mh e d,mh e x with
  |some (.row id sz' n),aa y=>(match h.get id,y.row? h sz with
   |some blk,aa (src,m,rd)=>if sz'==sz&& !(Vz id rd)&&ep (n*sz) blk.c.len then
     (match blk.c.put 0 (src.take (iB m n*sz)) with
     |some c=>aa ⟨raw (.int .i64 (iB m n)),id::rd,[id],[(id,⟨blk.ty,c⟩)],[]⟩
     |none=>af) else af
   |_,_=>af)
  |_,_=>af
 |.clr _ z x=>match mh e x with
  |some (.sl id off n)=>(match h.get id with
   |some blk=>if fV 0 n then (match blk.c.put off ((repl z n).map .f) with
    |some c=>aa ⟨.tup [],[id],[id],[(id,⟨blk.ty,c⟩)],[]⟩
    |none=>af) else af
   |none=>af)
  |_=>af
 |.mkf f caps=>match UQ e caps with|some l=>rv (.clo f l)|none=>af
 |.mkm=>aa ⟨.mp nx,[],[nx],[(nx,⟨0,.mp []⟩)],[nx]⟩
 |.lku str z x k=>match mh e x,mh e k with
  |some (.mp id),aa (.f (.raw key))=>(match h.get id with
   |some ⟨_,.mp es⟩=>if xL str key then (match r9 key es with|some (aa v)=>aa ⟨v,[id],[],[],[]⟩|some af=>aa ⟨raw z,[id],[],[],[]⟩|none=>af) else af
   |_=>af)
  |_,_=>af
 |.mup str x k v=>match mh e x,mh e k,mh e v with
  |some (.mp id),aa (.f (.raw key)),aa y=>(match h.get id with
   |some ⟨ty,.mp es⟩=>if xL str key then (match xJ key y es with|some es'=>aa ⟨raw undef,[id],[id],[(id,⟨ty,.mp es'⟩)],[]⟩|none=>af) else af
   |_=>af)
  |_,_,_=>af
 |.rng x=>match mh e x with
  |some (.f (.raw (.string s)))=>aa ⟨.ptr nx 0,[],[nx],[(nx,⟨0,.it s 0⟩)],[nx]⟩
  |_=>af
 |.nxt x=>match mh e x with
  |some (.ptr id 0)=>(match h.get id with
   |some ⟨ty,.it s p⟩=>(match s.data.toList[p]? with
    |some b=>if fV b.toNat 128 then aa ⟨.tup [raw (.bool ah),raw (.int .i64 p),raw (.int .i32 b.toNat)],[id],[id],[(id,⟨ty,.it s (p+1)⟩)],[]⟩ else af
    |none=>aa ⟨.tup [raw (.bool ai)],[id],[id],[(id,⟨ty,.it s p⟩)],[]⟩)
   |_=>af)
  |_=>af
 |.bad=>af
structure rA where
 dst:Option Nat
 op:SI
 guard:Option (Nat×Bool)
inductive SC where
 |skip
 |reg (ops:List rA) (prs:List (Nat×Nat))
 |seq (a b:SC)
 |cond (c:Nat) (a b:SC)
 |block (id:Nat) (b:SC)
 |loop (b:SC)
 |exit (id:Nat)
 |ret
 |defer (f:FuncId) (caps:List Operand) (t:Nat)
 |bad
structure ajp where
 val:AV
 h:nB
 nx:Nat
 wr:Nat
abbrev Vj:=FuncId->List AV->nB->Nat->Option ajp
mutual
def AV.ids:AV->Nat->Nat
 |.ptr id _,acc=>acc|||(1<<<id)
 |.sl id _ _,acc=>acc|||(1<<<id)
 |.row id _ _,acc=>acc|||(1<<<id)
 |.mp id,acc=>acc|||(1<<<id)
 |.agg l,acc=>AV.idsL l acc
 |.tup l,acc=>AV.idsL l acc
 |.clo _ l,acc=>AV.idsL l acc
 |.f _,acc=>acc
 |.emp,acc=>acc
 |.anyb,acc=>acc
def AV.idsL:List AV->Nat->Nat
 |[],acc=>acc
 |x::r,acc=>AV.idsL r (AV.ids x acc)
end
mutual
def AV.all (p:Nat->Bool):AV->Bool
 |.ptr id _=>p id
 |.sl id _ _=>p id
 |.row id _ _=>p id
 |.mp id=>p id
 |.agg l=>AV.allL p l
 |.tup l=>AV.allL p l
 |.clo _ l=>AV.allL p l
 |.f _=>ah
 |.emp=>ah
 |.anyb=>ah
def AV.allL (p:Nat->Bool):List AV->Bool
 |[]=>ah
 |x::r=>AV.all p x&&AV.allL p r
end
def BC.ids:BC->Nat->Nat
 |.mx l,acc=>AV.idsL l acc
 |.mp es,acc=>AV.idsL (es.map (·.2)) acc
 |_,acc=>acc
def BC.all (p:Nat->Bool):BC->Bool
 |.mx l=>AV.allL p l
 |.mp es=>AV.allL p (es.map (·.2))
 |_=>ah
def nB.all (p:Nat->Bool) (h:nB):Bool:=PT.all (λi b=>p i&&b.c.all p) 1 0 h
def Ul:Nat->nB->Nat->Nat->Nat
 |0,_,_,JH=>JH
 |n+1,h,todo,JH=>
  if aA todo 0 then JH else
  match Nat.log2 todo with
  |id=>if aL JH id then Ul n h (todo ^^^ (1<<<id)) JH else
   match h.get id with
   |some b=>Ul n h (b.c.ids (todo ^^^ (1<<<id))) (JH|||(1<<<id))
   |none=>Ul n h (todo ^^^ (1<<<id)) JH
section force
variable {α:Type}
def rK (n:Nat) (k:Nat->α):α:=match n with|0=>k 0|m+1=>k (m+1)
def frcI (n:Int) (k:Int->α):α:=match n with|.ofNat m=>rK m λm=>k (.ofNat m)|.negSucc m=>rK m λm=>k (.negSucc m)
def frcB (b:Bool) (k:Bool->α):α:=match b with|true=>k ah|false=>k ai
def frcV (v:Value) (k:Value->α):α:=match v with
 |.int kd n=>frcI n λn=>k (.int kd n)
 |.bool b=>frcB b λb=>k (.bool b)
 |v=>k v
def ahe (x:FV) (k:FV->α):α:=match x with
 |.raw v=>frcV v λv=>k (.raw v)
 |.ptr cells off=>rK off λoff=>k (.ptr cells off)
 |.sl cells n=>rK n λn=>k (.sl cells n)
 |.agg l=>k (.agg l)
def YG:List FV->(List FV->α)->α
 |[],k=>k []
 |x::r,k=>ahe x λx=>YG r λr=>k (x::r)
def ahd (x:FV) (k:FV->α):α:=match x with
 |.agg l=>YG l λl=>k (.agg l)
 |x=>ahe x k
def ad3 (x:AV) (k:AV->α):α:=match x with
 |.f x=>ahd x λx=>k (.f x)
 |.ptr id off=>rK id λid=>rK off λoff=>k (.ptr id off)
 |.sl id off n=>rK id λid=>rK off λoff=>rK n λn=>k (.sl id off n)
 |.row id sz n=>rK id λid=>rK sz λsz=>rK n λn=>k (.row id sz n)
 |.mp id=>rK id λid=>k (.mp id)
 |x=>k x
def Pd:List AV->(List AV->α)->α
 |[],k=>k []
 |x::r,k=>ad3 x λx=>Pd r λr=>k (x::r)
def ahf (x:AV) (k:AV->α):α:=match x with
 |.agg l=>Pd l λl=>k (.agg l)
 |.tup l=>Pd l λl=>k (.tup l)
 |.clo f l=>Pd l λl=>k (.clo f l)
 |x=>ad3 x k
def frcC (c:BC) (k:BC->α):α:=match c with
 |.fz l=>YG l λl=>k (.fz l)
 |.mx l=>Pd l λl=>k (.mx l)
 |.it s p=>rK p λp=>k (.it s p)
 |.mp es=>k (.mp es)
def Pc {β:Type}:PT β->(PT β->α)->α
 |.leaf,k=>k .leaf
 |.node v l r,k=>(match v with
  |none=>λ(k:Option β->α)=>k af
  |some x=>λk=>k (aa x)) λv=>Pc l λl=>Pc r λr=>k (.node v l r)
def Rx {β:Type}:Nat->PT β->Nat->Option β->(PT β->α)->α
 |0,t,_,_,k=>k t
 |f+1,t,n,x,k=>match t with
  |.leaf=>(match n with
   |0=>k (.node x .leaf .leaf)
   |m+1=>if aA (m%2) 0 then rK (m/2) λq=>Rx f .leaf q x λu=>k (.node af u .leaf) else rK (m/2) λq=>Rx f .leaf q x λu=>k (.node af .leaf u))
  |.node v l r=>(match n with
   |0=>k (.node x l r)
   |m+1=>if aA (m%2) 0 then rK (m/2) λq=>Rx f l q x λu=>k (.node v u r) else rK (m/2) λq=>Rx f r q x λu=>k (.node v l u))
theorem MN {β:Type}:∀ (x:PT β) (k:PT β->α),Pc x k=k x
 |.leaf,_=>rfl
 |.node v l r,k=>by cases v<;>simp only[Pc,MN l,MN r]
end force
structure IS where
 e:yA
 h:nB
 nx:Nat
 wr:Nat
structure adl where
 val:AV
 rd:Nat
 wr:Nat
 h:nB
 nx:Nat
def bits:List Nat->Nat->Nat
 |[],acc=>acc
 |x::r,acc=>bits r (acc|||(1<<<x))
def adx {α:Type} (h:nB) (nw:NW):List Nat->(nB->α)->α
 |[],k=>k h
 |i::r,k=>match iP nw i with
  |none=>Rx (i+1) h i af λh=>adx h nw r k
  |some ⟨ty,c⟩=>frcC c λc=>Rx (i+1) h i (aa ⟨ty,c⟩) λh=>adx h nw r k
def ad7 (call:Vj) (f:FuncId) (args:List AV) (h:nB) (nx:Nat):Option adl:=
 rK (Ul 1000000 h (AV.idsL args 0) 0) λids=>Pc (PT.only ids 1 0 h) λhc=>
 if AV.allL (fV · nx) args&&nB.all (fV · nx) hc then
  match call f args hc nx with
  |some ⟨val,h',nx',wr⟩=>ahf val λval=>rK nx' λnx'=>rK wr λwr=>Pc (PT.merge wr 1 0 h h') λhm=>aa ⟨val,ids,wr,hm,nx'⟩
  |none=>af
 else af
def opA (call:Vj) (o:SI) (e:yA) (h:nB) (nx:Nat):Option adl:=
 match o with
 |.call f args=>match UQ e args with|some l=>ad7 call f l h nx|none=>af
 |.callv x args=>match mh e x,UQ e args with|some (.clo f cap),aa l=>ad7 call f (l++cap) h nx|_,_=>af
 |.op o=>match eE o e h nx with
  |some ⟨val,rd,wr,nw,N⟩=>ahf val λval=>rK (bits rd 0) λrd=>rK (bits wr 0) λI=>rK (nx+N.length) λnx'=>adx h nw wr λh=>aa ⟨val,rd,I,h,nx'⟩
  |none=>af
def agw (e:yA):Option (Nat×Bool)->Option Bool
 |none=>aa ah
 |some (t,want)=>match e.get t with
  |some (.f (.raw (.bool b)))=>aa (b==want)
  |some (.f (.raw (.tuple _)))=>aa ai
  |_=>af
def ae3 {α:Type} (e:yA) (dst:Option Nat) (v:AV) (k:yA->α):α:=match dst with
 |none=>k e
 |some d=>Rx (d+1) e d (aa v) k
structure ZJ where
 rd:Nat
 wr:Nat
def RB (call:Vj):List rA->IS->Option (IS×List ZJ)
 |[],s=>aa (s,[])
 |o::r,⟨e,h,nx,wr⟩=>
  match agw e o.guard with
  |some ah=>(match opA call o.op e h nx with
   |some ⟨val,rd,w,h',nx'⟩=>ae3 e o.dst val λe'=>rK (wr|||w) λwr'=>(match RB call r ⟨e',h',nx',wr'⟩ with
    |some (s',fs)=>aa (s',⟨rd,w⟩::fs)
    |none=>af)
   |none=>af)
  |some ai=>ae3 e o.dst (raw undef) λe'=>(match RB call r ⟨e',h,nx,wr⟩ with
   |some (s',fs)=>aa (s',⟨0,0⟩::fs)
   |none=>af)
  |none=>af
def V7:List ZJ->Nat->Option ZJ
 |[],_=>af
 |f::_,0=>aa f
 |_::r,n+1=>V7 r n
def Cu (a b:Nat):Bool:=aA (a&&&b) 0
def Ee (fs:List ZJ):List (Nat×Nat)->Bool
 |[]=>ah
 |(i,j)::r=>(match V7 fs i,V7 fs j with
  |some a,aa b=>Cu a.wr b.rd&&Cu a.wr b.wr&&Cu b.wr a.rd
  |_,_=>ai)&&Ee fs r
inductive Ex where
 |normal
 |exit (id:Nat)
 |ret
def ad0 (body:IS->Option (Ex×IS)) (e0:yA):Nat->IS->Option (Ex×IS)
 |0,_=>af
 |n+1,s=>match body s with
  |some (.normal,⟨e,h,nx,wr⟩)=>Pc (PT.mask e e0) λe=>ad0 body e0 n ⟨e,h,nx,wr⟩
  |r=>r
def run (call:Vj) (inert:FuncId->Bool) (fuel:Nat):SC->IS->Option (Ex×IS)
 |.skip,s=>aa (.normal,s)
 |.reg ops prs,s=>match RB call ops s with
  |some (s',fs)=>if Ee fs prs then aa (.normal,s') else af
  |none=>af
 |.seq a b,s=>match run call inert fuel a s with
  |some (.normal,s')=>run call inert fuel b s'
  |r=>r
 |.cond c a b,s=>match s.e.get c with
  |some (.f (.raw (.bool ah)))=>run call inert fuel a s
  |some (.f (.raw (.bool ai)))=>run call inert fuel b s
  |_=>af
 |.block id b,s=>match run call inert fuel b s with
  |some (.exit i,s')=>if aA i id then aa (.normal,s') else aa (.exit i,s')
  |r=>r
 |.loop b,s=>ad0 (run call inert fuel b) s.e fuel s
 |.exit id,s=>aa (.exit id,s)
 |.ret,s=>aa (.ret,s)
 |.defer f caps t,⟨e,h,nx,wr⟩=>match UQ e caps with
  |some l=>if inert f then ae3 e (aa t) (.clo f l) λe'=>aa (.normal,⟨e',h,nx,wr⟩) else af
  |none=>af
 |.bad,_=>af
inductive RV where
 |tmp (t:Nat)
 |cell (a:Nat) (sz:Nat) (ag:Bool)
structure SF where
 code:SC
 res:List RV
 nt:Nat
def C2:List AV->AV
 |[x]=>x
 |l=>.tup l
def aen:Value->Value->Bool
 |.bool a,.bool b=>a==b
 |.int k a,.int k' b=>k==k'&&a==b
 |.string a,.string b=>qX a b
 |.slice af n c,.slice af I c'=>aA n I&&aA c c'
 |.pointer af,.pointer af=>ah
 |.tuple a,.tuple b=>a.isEmpty&&b.isEmpty
 |_,_=>ai
def eX (P:Program) (t:TypeId):Option Nat:=(P.info? t).map (·.size)
def DW (P:Program) (t:TypeId):Option Nat:=(P.info? t).map (·.bytes)
def rQ (P:Program) (t:TypeId):Option (List Value):=((P.info? t).bind (·.zero)).map (·.cells.toList)
def CM (P:Program) (t:TypeId):Option Bool:=(P.underlying t).map λ|.struct _=>ah|.array _ _=>ah|_=>ai
def zD (P:Program) (t:TypeId):Option TypeId:=match P.underlying t with|some (.slice e)=>aa e|_=>af
def Ah (P:Program) (t:TypeId) (i:Nat):Option (Nat×Nat):=match P.underlying t with
 |some (.struct fs)=>(fs[i]?).bind λf=>(eX P f.type).map (f.offset,·)
 |some (.array _ el)=>(eX P el).map λs=>(i*s,s)
 |some (.slice el)=>(eX P el).map λs=>(i*s,s)
 |_=>af
def vX (P:Program) (t:TypeId):List (Nat×Operand)->Option (List (Nat×Nat×Operand))
 |[]=>aa []
 |(i,x)::r=>match Ah P t i,vX P t r with|some (o,s),aa l=>aa ((o,s,x)::l)|_,_=>af
def me (z:List Value):Bool:=z.all λv=>v.oneCell'
def GV:TypeDesc->Bool
 |.int _=>ah
 |.bool=>ah
 |.string=>ah
 |_=>ai
def qP (P:Program):Nat→List Field→Option (List TypeDesc)
 |_,[]=>aa []
 |k,f::r=>match P.underlying f.type,qP P (k+1) r with
  |some d,aa ds=>if f.name != "_" &&f.offset==k&&GV d then aa (d::ds) else af
  |_,_=>af
def X0 (P:Program) (t:TypeId):Option (List TypeDesc):=match P.underlying t with
 |some (.struct fs)=>if P.stoodInHeld t then af else qP P 0 fs.toList
 |_=>af
def Qq (P:Program) (c:Call):Option WZ:=
 match c.callee with
 |.builtin .len=>(match c.args.toList,c.argTypes.toList with
  |[x],[t]=>(match P.underlying t with
   |some (.slice _)=>aa (.len x)
   |some .string=>aa (.lens x)
   |some (.map _ _)=>aa (.lenm x)
   |_=>af)
  |_,_=>af)
 |.builtin .max=>(match c.args.toList with
  |[x,y]=>aa (.max x y)
  |_=>af)
 |.builtin .min=>(match c.args.toList with
  |[x,y]=>aa (.min x y)
  |_=>af)
 |.builtin .copy=>(match c.args.toList,c.argTypes.toList with
  |[d,x],[t,u]=>(match zD P t,zD P u with
   |some el,aa _=>(eX P el).bind λsz=>if sz !=0 then aa (.copy sz d x) else af
   |_,_=>af)
  |_,_=>af)
 |.builtin .clear=>(match c.args.toList,c.argTypes.toList with
  |[x],[t]=>(zD P t).bind λel=>(rQ P el).bind λz=>(eX P el).bind λsz=>if me z&&z.length==sz&&sz !=0 then aa (.clr sz z x) else af
  |_,_=>af)
 |.builtin .append=>(match c.args.toList,c.argTypes.toList with
  |[s,x],[t,u]=>(match zD P t,zD P u with
   |some el,aa _=>(eX P el).bind λsz=>(DW P el).bind λb=>(rQ P el).bind λz=>if sz !=0&&z.length==sz then aa (.app el sz b s x) else af
   |_,_=>af)
  |_,_=>af)
 |_=>af
def c9 (P:Program):Op->Option WZ
 |.move x=>aa (.mv x)
 |.assign x=>aa (.mv x)
 |.pick c a b=>aa (.pick c a b)
 |.alloc t=>(rQ P t).bind λz=>if me z then aa (.alloc t z) else af
 |.box t x=>aa (.box t x)
 |.build t ps=>match P.underlying t with
  |some (.struct fs)=>(rQ P t).bind λz=>if me z&&(fs.toList.all λf=>(eX P f.type).isSome) then (vX P t ps.toList).map (.build z) else af
  |some (.array _ el)=>(rQ P t).bind λz=>if me z&&(eX P el).isSome then (vX P t ps.toList).map (.build z) else af
  |_=>af
 |.buildSlice t n ps=>(zD P t).bind λel=>(rQ P el).bind λz=>(eX P el).bind λsz=>if me z&&z.length==sz&&ep (n*sz) 65536&&sz !=0 then (vX P t ps.toList).map (.bsl el sz n z) else af
 |.load t x=>(eX P t).bind λsz=>(CM P t).map λag=>.load sz ag x
 |.store t x v=>(eX P t).map λsz=>.store sz x v
 |.nilCheck x=>aa (.nilc x)
 |.binOp op t x y _=>match P.underlying t with
  |some (.int _)|some .string=>aa (.bin op x y)
  |some .bool=>(match op with|.eql=>aa (.eqb ai x y)|.neq=>aa (.eqb ah x y)|_=>af)
  |some (.slice _)=>(match op,y with
   |.eql,.const (.slice af 0 0)=>aa (.isnil ai x)
   |.neq,.const (.slice af 0 0)=>aa (.isnil ah x)
   |_,_=>af)
  |some (.struct _)=>(X0 P t).bind λds=>(match op with|.eql=>aa (.eqs ai ds x y)|.neq=>aa (.eqs ah ds x y)|_=>af)
  |_=>af
 |.unOp .not _ x=>aa (.not x)
 |.unOp .neg t x=>match P.underlying t with|some (.int k)=>aa (.bin .sub (.const (.int k 0)) x)|_=>af
 |.convert s d x=>match P.underlying s,P.underlying d with|some (.int _),aa (.int k)=>aa (.conv k x)|_,_=>af
 |.makeSlice t l c=>(zD P t).bind λel=>(rQ P el).bind λz=>(eX P el).bind λsz=>(DW P el).bind λb=>if me z&&z.length==sz&&sz !=0 then aa (.mksl el sz b z l c) else af
 |.slice t x lo hi mx=>(zD P t).bind λel=>(eX P el).map λsz=>.slc sz x lo hi mx
 |.fieldAddr t x k=>match P.underlying t with
  |some (.struct fs)=>(fs[k]?).bind λf=>(eX P f.type).bind λsz=>if sz !=0 then aa (.fad f.offset x) else af
  |_=>af
 |.field t x k=>match P.underlying t with
  |some (.struct fs)=>(fs[k]?).bind λf=>(eX P f.type).bind λsz=>(CM P f.type).map λag=>.fld f.offset sz ag x
  |_=>af
 |.indexAddr t x i=>match P.underlying t with
  |some (.slice el)=>(eX P el).map λsz=>.iad sz x i
  |some (.array n el)=>(eX P el).map λsz=>.iada n sz x i
  |_=>af
 |.index t x i=>match P.underlying t with
  |some (.array n el)=>(eX P el).bind λsz=>(CM P el).map λag=>.idx n sz ag x i
  |some .string=>aa (.sidx x i)
  |_=>af
 |.extract x i=>aa (.ext x i)
 |.makeFunc (.func f) first caps=>if first.isEmpty then aa (.mkf f caps.toList) else af
 |.makeMap t af=>match P.underlying t with|some (.map _ _)=>aa .mkm|_=>af
 |.lookup t x k ai=>match P.underlying t with
  |some (.map I el)=>(match P.underlying I,(P.info? el).bind (·.zero) with
   |some (.int _),aa z=>if z.oneCell' then aa (.lku ai z x k) else af
   |some .string,aa z=>if z.oneCell' then aa (.lku ah z x k) else af
   |_,_=>af)
  |_=>af
 |.mapUpdate t m k v=>match P.underlying t with
  |some (.map I _)=>(match P.underlying I with
   |some (.int _)=>aa (.mup ai m k v)
   |some .string=>aa (.mup ah m k v)
   |_=>af)
  |_=>af
 |.range t x=>match P.underlying t with|some .string=>aa (.rng x)|_=>af
 |.next x ah=>aa (.nxt x)
 |.call c=>Qq P c
 |_=>af
def Nl:Op->Option SI
 |.call c=>(match c.callee with
  |.value (.func f)=>aa (.call f c.args.toList)
  |.value (.tmp t)=>aa (.callv (.tmp t) c.args.toList)
  |_=>af)
 |_=>af
def xn (P:Program) (op:Op):SI:=match Nl op with
 |some i=>i
 |none=>(match c9 P op with|some s=>.op s|none=>.op .bad)
def WZ.still:WZ->Bool
 |.mv _|.pick _ _ _|.build _ _|.nilc _|.bin _ _ _|.eqs _ _ _ _|.isnil _ _|.eqb _ _ _|.not _|.conv _ _|.fad _ _|.fld _ _ _ _|.iad _ _ _|.iada _ _ _ _|.idx _ _ _ _ _|.ext _ _|.max _ _|.min _ _|.sidx _ _|.mkf _ _|.bad=>ah
 |_=>ai
def SI.still:SI->Bool
 |.op s=>s.still
 |_=>ai
def qW (P:Program) (ops:Array Oper):List Oper->Option (List rA)
 |[]=>aa []
 |o::r=>match qW P ops r with
  |some l=>(match o.guard with
   |none=>aa (⟨o.dst,xn P o.op,af⟩::l)
   |some (j,want)=>(match (ops[j]?).bind (·.dst) with
    |some t=>aa (⟨o.dst,xn P o.op,aa (t,want)⟩::l)
    |none=>af))
  |none=>af
def KY (ops:Array Oper) (l:List rA):Option (List (Nat×Nat)):=
 let B:=I5 ops.toList []
 if (eg ops.size).all λj=>((ops[j]?).all λoj=>oj.after.toList.all λe=> !yC .any e||decide (e.on<j))&&
     (eg j).all λi=>aL (B.getD j 0) i||(match ops[i]?,ops[j]? with|some oi,aa oj=>oi.apart ops oj|_,_=>ai)
 then aa ((eg ops.size).flatMap λj=>(eg j).filterMap λi=>
  if aL (B.getD j 0) i||(match l[i]?,l[j]? with|some a,aa b=>a.op.still||b.op.still|_,_=>ai) then af else aa (i,j))
 else af
def Cw (ops:Array Oper) (I:Bool):Option (FuncId×List Operand×Nat):=match ops.toList,I with
 |[p,q],ai=>(match p.op,p.guard,p.dst,q.op,q.guard,q.dst with
  |.makeFunc (.func f) first caps,af,aa t,.defer c,af,af=>(match c.callee,c.args.toList with
   |.value (.tmp t'),[]=>if aA t t'&&first.isEmpty then aa (f,caps.toList,t) else af
   |_,_=>af)
  |_,_,_,_,_,_=>af)
 |_,_=>af
def cf (P:Program) (nt:Nat):Code->SC
 |.skip=>.skip
 |.region _ ops I=>if ops.toList.all λo=>match o.dst with|some d=>decide (d<nt)|none=>ah then
   (match Cw ops I with
   |some (f,caps,t)=>.defer f caps t
   |none=>(match qW P ops ops.toList with
    |some l=>(match KY ops l with|some prs=>.reg l prs|none=>.bad)
    |none=>.bad)) else .bad
 |.seq a b=>.seq (cf P nt a) (cf P nt b)
 |.cond (.tmp c) a b=>.cond c (cf P nt a) (cf P nt b)
 |.cond (.const (.bool ah)) a _=>cf P nt a
 |.cond (.const (.bool ai)) _ b=>cf P nt b
 |.block id b=>.block id (cf P nt b)
 |.loop b=>.loop (cf P nt b)
 |.exit id=>.exit id
 |.ret=>.ret
 |_=>.bad
def ui (P:Program):List ResultVar->Option (List RV)
 |[]=>aa []
 |.tmp t::r=>match ui P r with|some l=>aa (.tmp t::l)|none=>af
 |.cell a t::r=>match ui P r,eX P t,CM P t with|some l,aa sz,aa ag=>aa (.cell a sz ag::l)|_,_,_=>af
def ym (P:Program) (f:FuncId):Option SF:=
 match P.funcs[f]? with
 |some fn=>if fn.name== "runtime.NumGoroutine" then af else (match fn.body,ui P fn.results.toList with
  |some c,aa r=>aa ⟨cf P fn.ntmps c,r,fn.ntmps⟩
  |_,_=>af)
 |none=>af
inductive Xp where
 |mk (op n:Int) (name:List UInt8) (l:List Xp)
inductive Sx where
 |mk (op line:Int) (name arg:List UInt8) (index:List Xp) (expr:Xp) (body els:List Sx)
def Xp.op:Xp->Int|.mk a _ _ _=>a
def Xp.n:Xp->Int|.mk _ a _ _=>a
def Xp.name:Xp->List UInt8|.mk _ _ a _=>a
def Xp.l:Xp->List Xp|.mk _ _ _ a=>a
def Sx.op:Sx->Int|.mk a _ _ _ _ _ _ _=>a
def Sx.line:Sx->Int|.mk _ a _ _ _ _ _ _=>a
def Sx.name:Sx->List UInt8|.mk _ _ a _ _ _ _ _=>a
def Sx.arg:Sx->List UInt8|.mk _ _ _ a _ _ _ _=>a
def Sx.index:Sx->List Xp|.mk _ _ _ _ a _ _ _=>a
def Sx.expr:Sx->Xp|.mk _ _ _ _ _ a _ _=>a
def Sx.body:Sx->List Sx|.mk _ _ _ _ _ _ a _=>a
def Sx.els:Sx->List Sx|.mk _ _ _ _ _ _ _ a=>a
inductive Ty where
 |int (k:IntKind)
 |bool
 |str
 |sl (t:Ty)
 |st (t:Ty)
 |pr (a b:Ty)
 |un
 |ex
 |sm
 deriving DecidableEq
@[reducible] def Ty.den:Ty->Type
  |.int _=>Int
  |.bool=>Bool
  |.str=>List UInt8
  |.sl t=>List t.den
  |.st t=>t.den
  |.pr a b=>a.den×b.den
  |.un=>Unit
  |.ex=>Xp
  |.sm=>Sx
def Ty.size:Ty->Nat
 |.st t=>t.size
 |.pr a b=>a.size+b.size
 |.un=>0
 |.ex=>4
 |.sm=>11
 |_=>1
def Ty.zero:(t:Ty)->t.den
 |.int _=>(0:Int)
 |.bool=>ai
 |.str=>[]
 |.sl _=>[]
 |.st t=>t.zero
 |.pr a b=>(a.zero,b.zero)
 |.un=>()
 |.ex=>.mk 0 0 [] []
 |.sm=>.mk 0 0 [] [] [] (.mk 0 0 [] []) [] []
def Ty.one:Ty->Bool
 |.int _=>ah
 |.bool=>ah
 |.str=>ah
 |.sl _=>ah
 |_=>ai
def Li:Ty:=.pr (.int .i64) (.pr (.int .i64) (.pr .str (.sl .ex)))
def KQ:Ty:=.pr (.int .i64) (.pr (.int .i64) (.pr .str (.pr .str (.pr (.sl .ex) (.pr .ex (.pr (.sl .sm) (.sl .sm)))))))
def L2 (e:Xp):Li.den:=(e.op,e.n,e.name,e.l)
def dQ (x:Li.den):Xp:=.mk x.1 x.2.1 x.2.2.1 x.2.2.2
def L1 (e:Sx):KQ.den:=(e.op,e.line,e.name,e.arg,e.index,e.expr,e.body,e.els)
def ne (x:KQ.den):Sx:=.mk x.1 x.2.1 x.2.2.1 x.2.2.2.1 x.2.2.2.2.1 x.2.2.2.2.2.1 x.2.2.2.2.2.2.1 x.2.2.2.2.2.2.2
mutual
def vq:Xp->List FV
 |.mk op n name l=>[.raw (.int .i64 op),.raw (.int .i64 n),.raw (.string ⟨name.toArray⟩),.sl (H7 l) l.length]
def H7:List Xp->List FV
 |[]=>[]
 |x::r=>vq x++H7 r
end
mutual
def w_:Sx->List FV
 |.mk op line name arg index expr body els=>[.raw (.int .i64 op),.raw (.int .i64 line),.raw (.string ⟨name.toArray⟩),.raw (.string ⟨arg.toArray⟩),.sl (H7 index) index.length]++vq expr++[.sl (H6 body) body.length,.sl (H6 els) els.length]
def H6:List Sx->List FV
 |[]=>[]
 |x::r=>w_ x++H6 r
end
def bN:(T:Ty)->T.den->List FV
 |.int k,n=>[.raw (.int k n)]
 |.bool,b=>[.raw (.bool b)]
 |.str,s=>[.raw (.string ⟨s.toArray⟩)]
 |.sl t,xs=>[.sl (List.flatMap (bN t) xs) (ak xs)]
 |.st t,v=>bN t v
 |.pr a b,v=>bN a v.1++bN b v.2
 |.un,_=>[]
 |.ex,v=>vq v
 |.sm,v=>w_ v
def gy:(T:Ty)->T.den->FV
 |.int k,n=>.raw (.int k n)
 |.bool,b=>.raw (.bool b)
 |.str,s=>.raw (.string ⟨s.toArray⟩)
 |.sl t,xs=>.sl (List.flatMap (bN t) xs) (ak xs)
 |.st t,v=>.agg (bN t v)
 |.pr a b,v=>.agg (bN a v.1++bN b v.2)
 |.un,_=>.agg []
 |.ex,v=>.agg (vq v)
 |.sm,v=>.agg (w_ v)
def NJ:(T:Ty)->T.den->T.den->Bool
 |.int _,a,b=>decide ((a:Int)=b)
 |.bool,a,b=>(a:Bool)==b
 |.str,a,b=>decide ((a:List UInt8)=b)
 |.st t,a,b=>NJ t a b
 |.pr x y,a,b=>NJ x a.1 b.1&&NJ y a.2 b.2
 |_,_,_=>ah
def vE {S:Ty} (T:Ty) (v:S.den):Option T.den:=if h:S=T then aa (h▸v) else af
def fD (j:Int) (n:Nat):Bool:=cR 0 j&&fG j n
def aH {T:Ty} (xs:List T.den) (j:Int):T.den:=xs.getD j.toNat T.zero
def cJ {α:Type} (xs:List α) (j:Int) (x:α):List α:=xs.set j.toNat x
def Rl {α:Type} (xs I:List α):List α:=I.take xs.length++xs.drop I.length
def jR (a b:Int):Int:=if fG a b then b else a
def Ft (a b:Int):Int:=if fG b a then b else a
def yW (s:List UInt8) (j:Int):Int:=aN (s.getD j.toNat 0).toNat
def bcase {R:Type} (b:Bool) (t f:Option R):Option R:=match b with|true=>t|false=>f
def chk {R:Type} (b:Bool) (k:b=ah->Option R):Option R:=match b,k with|true,k=>k rfl|false,_=>af
open Classical in
def DX {R:Type} (a b:Option R):Option R:=if a=b then a else af
open Classical in
def same {α R:Type} (a b:α) (r:Option R):Option R:=if a=b then r else af
def obind {α R:Type} (o:Option α) (k:α->Option R):Option R:=match o with|some x=>k x|none=>af
def lt {α R:Type} (x:α) (k:α->Option R):Option R:=k x
def jn {α R:Type} (o:Option (R⊕α)) (k:α->Option R):Option R:=match o with|some (.inr x)=>k x|some (.inl r)=>aa r|none=>af
def iterN {σ R:Type} (step:σ->Option (σ⊕R)):Nat->σ->Option R
 |0,_=>af
 |n+1,x=>match step x with
  |some (.inl y)=>iterN step n y
  |some (.inr r)=>aa r
  |none=>af
open Classical in
def iter {σ R:Type} (step:σ->Option (σ⊕R)) (x:σ):Option R:=
 if h:∃ n,(iterN step n x).isSome=ah then iterN step (Classical.choose h) x else af
def fQ {σ R:Type} (step:σ->Option (σ⊕R)) (x:σ):Option R:=iterN step 18446744073709551616 x
abbrev xy:Type 1:=∀ σ R:Type,(σ->Option (σ⊕R))->σ->Option R
def kK {R:Type} (a b:Option R):Prop:=∀ y,a=aa y->b=aa y
theorem kK.rfl {R:Type} {a:Option R}:kK a a:=λ_ h=>h
theorem kK.bcase {R:Type} {b:Bool} {t f t' f':Option R} (h1:kK t t') (h2:kK f f'):kK (AI.bcase b t f) (AI.bcase b t' f'):=by cases b<;>assumption
theorem kK.chk {R:Type} {b:Bool} {k k':Option R} (h:kK k k'):kK (AI.chk b λ_=>k) (AI.chk b λ_=>k'):=by
 cases b with
 |true=>exact h
 |false=>exact λ_ h=>by cases h
theorem kK.obind {α R:Type} {o o':Option α} {k k':α->Option R} (h:kK o o') (hk:∀ x,kK (k x) (k' x)):kK (AI.obind o k) (AI.obind o' k'):=by
 intro y I;cases o with
 |none=>cases I
 |some x=>rw[h x (by exact Eq.refl _)];exact hk x y I
theorem kK.lt {α R:Type} {x:α} {k k':α->Option R} (h:∀ y,kK (k y) (k' y)):kK (AI.lt x k) (AI.lt x k'):=h x
theorem kK.jn {α R:Type} {o o':Option (R⊕α)} {k k':α->Option R} (h:kK o o') (hk:∀ x,kK (k x) (k' x)):kK (AI.jn o k) (AI.jn o' k'):=by
 intro y I;cases o with
 |none=>cases I
 |some x=>
  rw[h x (by exact Eq.refl _)];cases x with
  |inl r=>exact I
  |inr a=>exact hk a y I
theorem kK.iterN {σ R:Type} {f g:σ->Option (σ⊕R)} (h:∀ x,kK (f x) (g x)):∀ (n:Nat) (x:σ),kK (AI.iterN f n x) (AI.iterN g n x)
 |0,_=>λ_ h=>by cases h
 |n+1,x=>by
  intro y I;cases hf:f x with
  |none=>rw[AI.iterN,hf] at I;cases I
  |some s=>
   rw[AI.iterN,hf] at I;rw[AI.iterN,h x s hf];cases s with
   |inl z=>exact kK.iterN h n z y I
   |inr r=>exact I
theorem Hi {σ R:Type} {f:σ->Option (σ⊕R)}:∀ {n:Nat} {x:σ} {r:R},iterN f n x=aa r->iterN f (n+1) x=aa r
 |0,x,r,h=>by cases h
 |n+1,x,r,h=>by
  cases hf:f x with
  |none=>rw[iterN,hf] at h;cases h
  |some s=>
   cases s with
   |inl y=>rw[iterN,hf] at h;rw[iterN,hf];exact Hi h
   |inr q=>rw[iterN,hf] at h;rw[iterN,hf];exact h
theorem xN {σ R:Type} {f:σ->Option (σ⊕R)} {n m:Nat} {x:σ} {r:R} (h:iterN f n x=aa r) (hle:n<=m):iterN f m x=aa r:=by
 induction hle with
 |refl=>exact h
 |step _ I=>exact Hi I
theorem xM {σ R:Type} {f:σ->Option (σ⊕R)} {n:Nat} {x:σ} {r:R} (h:iterN f n x=aa r):iter f x=aa r:=by
 have J:∃ n,(iterN f n x).isSome=ah:=⟨n,by rw[h];exact Eq.refl _⟩
 unfold iter;rw[dif_pos J];have hc:=Classical.choose_spec J;obtain⟨M,I⟩:=iu.1 hc;rw[I];rcases Nat.le_total n (Classical.choose J) with hl|hl
 .rw[xN h hl] at I;exact I.symm
 .rw[xN I hl] at h;exact h
theorem kK.iter {σ R:Type} {f g:σ->Option (σ⊕R)} {x:σ} (h:∀ x,kK (f x) (g x)):kK (fQ f x) (AI.iter g x):=λy I=>xM (kK.iterN h _ x y I)
def orE {R:Type} (a b:Option R):Option R:=match a with|some y=>aa y|none=>b
def fuel:Nat:=Classical.choose (⟨100000,rfl⟩:∃ n:Nat,n=100000)
theorem jA:fuel=100000:=Classical.choose_spec (⟨100000,rfl⟩:∃ n:Nat,n=100000)
def Fl (a:Ty):Ty->Ty
 |.un=>a
 |.int k=>.pr a (.int k)
 |.bool=>.pr a .bool
 |.str=>.pr a .str
 |.sl t=>.pr a (.sl t)
 |.st t=>.pr a (.st t)
 |.pr x y=>.pr a (.pr x y)
 |.ex=>.pr a .ex
 |.sm=>.pr a .sm
def Z6:Ty->Ty->Ty
 |.un,b=>b
 |.int k,b=>Fl (.int k) b
 |.bool,b=>Fl .bool b
 |.str,b=>Fl .str b
 |.sl t,b=>Fl (.sl t) b
 |.st t,b=>Fl (.st t) b
 |.pr x y,b=>Fl (.pr x y) b
 |.ex,b=>Fl .ex b
 |.sm,b=>Fl .sm b
def Ot (a:Ty):(b:Ty)->a.den->b.den->(Fl a b).den
 |.un,x,_=>x
 |.int _,x,y=>(x,y)
 |.bool,x,y=>(x,y)
 |.str,x,y=>(x,y)
 |.sl _,x,y=>(x,y)
 |.st _,x,y=>(x,y)
 |.pr _ _,x,y=>(x,y)
 |.ex,x,y=>(x,y)
 |.sm,x,y=>(x,y)
def fsN (a:Ty):(b:Ty)->(Fl a b).den->a.den
 |.un,z=>z
 |.int _,z=>z.1
 |.bool,z=>z.1
 |.str,z=>z.1
 |.sl _,z=>z.1
 |.st _,z=>z.1
 |.pr _ _,z=>z.1
 |.ex,z=>z.1
 |.sm,z=>z.1
def snN (a:Ty):(b:Ty)->(Fl a b).den->b.den
 |.un,_=>()
 |.int _,z=>z.2
 |.bool,z=>z.2
 |.str,z=>z.2
 |.sl _,z=>z.2
 |.st _,z=>z.2
 |.pr _ _,z=>z.2
 |.ex,z=>z.2
 |.sm,z=>z.2
def RN:(a b:Ty)->a.den->b.den->(Z6 a b).den
 |.un,_,_,y=>y
 |.int k,b,x,y=>Ot (.int k) b x y
 |.bool,b,x,y=>Ot .bool b x y
 |.str,b,x,y=>Ot .str b x y
 |.sl t,b,x,y=>Ot (.sl t) b x y
 |.st t,b,x,y=>Ot (.st t) b x y
 |.pr u v,b,x,y=>Ot (.pr u v) b x y
 |.ex,b,x,y=>Ot .ex b x y
 |.sm,b,x,y=>Ot .sm b x y
def MM:(a b:Ty)->(Z6 a b).den->a.den
 |.un,_,_=>()
 |.int k,b,z=>fsN (.int k) b z
 |.bool,b,z=>fsN .bool b z
 |.str,b,z=>fsN .str b z
 |.sl t,b,z=>fsN (.sl t) b z
 |.st t,b,z=>fsN (.st t) b z
 |.pr u v,b,z=>fsN (.pr u v) b z
 |.ex,b,z=>fsN .ex b z
 |.sm,b,z=>fsN .sm b z
def JF:(a b:Ty)->(Z6 a b).den->b.den
 |.un,_,z=>z
 |.int k,b,z=>snN (.int k) b z
 |.bool,b,z=>snN .bool b z
 |.str,b,z=>snN .str b z
 |.sl t,b,z=>snN (.sl t) b z
 |.st t,b,z=>snN (.st t) b z
 |.pr u v,b,z=>snN (.pr u v) b z
 |.ex,b,z=>snN .ex b z
 |.sm,b,z=>snN .sm b z
theorem sh (a b:Ty) (x:a.den) (y:b.den):MM a b (RN a b x y)=x:=by cases a<;>cases b<;>rfl
theorem tU (a b:Ty) (x:a.den) (y:b.den):JF a b (RN a b x y)=y:=by cases a<;>cases b<;>rfl
inductive TV where
 |f (T:Ty) (v:T.den)
 |fel (T:Ty) (xs:List T.den) (j:Int) (h:fD j xs.length=ah) (off:Nat)
 |pel (id sz:Nat) (j:Int) (off:Nat)
 |ptr (id off:Nat)
 |row (id:Nat)
 |csl (id sz n:Nat)
 |emp
 |nil
 |mp (id:Nat)
 |agg (l:List TV)
 |tup (l:List TV)
 |clo (g:FuncId) (l:List TV)
 |undef
 |np
 |anyb
 |rtl (id:Nat) (j:Int)
inductive hZ where
 |rows (ty:TypeId) (p:Bool) (T:Ty) (xs:List T.den)
 |cells (ty:TypeId) (l:List TV)
 |dead (p:Bool) (sz n:Nat)
 |mp (K V:Ty) (es:List (K.den×V.den))
abbrev iw:=PT TV
abbrev bd:=PT hZ
def cst:Value->Option TV
 |.int k n=>aa (.f (.int k) n)
 |.bool b=>aa (.f .bool b)
 |.string s=>aa (.f .str s.data.toList)
 |.slice af 0 0=>aa .nil
 |.pointer af=>aa .np
 |_=>af
def IH:List Value->Option (List TV)
 |[]=>aa []
 |v::r=>match cst v,IH r with|some x,aa l=>aa (x::l)|_,_=>af
def aeg:Value->Option TV
 |.agg vs=>if I1 vs.toList then (match IH vs.toList with|some l=>aa (.agg l)|none=>af) else af
 |v=>cst v
def cellsOf:Nat->(T:Ty)->T.den->Option (List TV)
 |0,_,_=>af
 |n+1,.st t,v=>cellsOf n t v
 |n+1,.pr a b,v=>match cellsOf n a v.1,cellsOf n b v.2 with|some x,aa y=>aa (x++y)|_,_=>af
 |_+1,.un,_=>aa []
 |n+1,.ex,v=>cellsOf n Li (L2 v)
 |n+1,.sm,v=>cellsOf n KQ (L1 v)
 |_+1,.int k,v=>aa [.f (.int k) v]
 |_+1,.bool,v=>aa [.f .bool v]
 |_+1,.str,v=>aa [.f .str v]
 |_+1,.sl t,v=>aa [.f (.sl t) v]
def TV.isC:TV->Bool
 |.f T _=>T.one
 |.fel _ _ _ _ _=>ah
 |.pel _ _ _ _=>ah
 |.ptr _ _=>ah
 |.row _=>ah
 |.csl _ _ _=>ah
 |.emp=>ah
 |.nil=>ah
 |.np=>ah
 |.mp _=>ah
 |.clo _ _=>ah
 |_=>ai
def j7:List TV->Bool
 |[]=>ah
 |x::r=>x.isC&&j7 r
def TV.cs (v:TV):Option (List TV):=match v with
 |.agg l=>if j7 l then aa l else af
 |.f T x=>cellsOf 40 T x
 |x=>if x.isC then aa [x] else af
def kL (i:Nat):Nat:=1<<<i
def io (h:bd) (T:Ty):TV->Option (T.den×Nat)
 |.f _ v=>match vE T v with|some x=>aa (x,0)|none=>af
 |.emp=>(match T with|.sl _=>aa ([],0)|_=>af)
 |.nil=>(match T with|.sl _=>aa ([],0)|_=>af)
 |.row id=>match h.get id with
  |some (.rows _ _ S xs)=>(match vE (S:=.sl S) T xs with|some x=>aa (x,kL id)|none=>af)
  |_=>af
 |_=>af
def eO (h:bd):Nat->(T:Ty)->List TV->Option (T.den×Nat×List TV)
 |0,_,_=>af
 |n+1,.st t,l=>eO h n t l
 |n+1,.pr a b,l=>match eO h n a l with
  |some (x,m,r)=>(match eO h n b r with|some (y,m',I)=>aa ((x,y),m|||m',I)|none=>af)
  |none=>af
 |_+1,.un,l=>aa ((),0,l)
 |n+1,.ex,l=>match eO h n Li l with|some (x,m,r)=>aa (dQ x,m,r)|none=>af
 |n+1,.sm,l=>match eO h n KQ l with|some (x,m,r)=>aa (ne x,m,r)|none=>af
 |_+1,.int k,l=>match l with|c::r=>(match io h (.int k) c with|some (x,m)=>aa (x,m,r)|none=>af)|[]=>af
 |_+1,.bool,l=>match l with|c::r=>(match io h .bool c with|some (x,m)=>aa (x,m,r)|none=>af)|[]=>af
 |_+1,.str,l=>match l with|c::r=>(match io h .str c with|some (x,m)=>aa (x,m,r)|none=>af)|[]=>af
 |_+1,.sl t,l=>match l with|c::r=>(match io h (.sl t) c with|some (x,m)=>aa (x,m,r)|none=>af)|[]=>af
def CK (h:bd) (T:Ty) (v:TV):Option (T.den×Nat):=match v with
 |.agg l=>if T.one then af else (match eO h 40 T l with|some (x,m,[])=>aa (x,m)|_=>af)
 |x=>io h T x
def nD:Nat->(T:Ty)->T.den->Nat->Nat->Bool->Option TV
 |0,_,_,_,_,_=>af
 |n+1,.st t,v,off,sz,ag=>if aA off 0&&aA sz t.size&&ag then aa (.f (.st t) v) else nD n t v off sz ag
 |n+1,.pr a b,v,off,sz,ag=>if fV off a.size then nD n a v.1 off sz ag else nD n b v.2 (off-a.size) sz ag
 |_+1,.un,_,_,_,_=>af
 |n+1,.ex,v,off,sz,ag=>if aA off 0&&aA sz 4&&ag then aa (.f .ex v) else nD n Li (L2 v) off sz ag
 |n+1,.sm,v,off,sz,ag=>if aA off 0&&aA sz 11&&ag then aa (.f .sm v) else nD n KQ (L1 v) off sz ag
 |_+1,.int k,v,off,sz,ag=>if aA off 0&&aA sz 1&& !ag then aa (.f (.int k) v) else af
 |_+1,.bool,v,off,sz,ag=>if aA off 0&&aA sz 1&& !ag then aa (.f .bool v) else af
 |_+1,.str,v,off,sz,ag=>if aA off 0&&aA sz 1&& !ag then aa (.f .str v) else af
 |_+1,.sl t,v,off,sz,ag=>if aA off 0&&aA sz 1&& !ag then aa (.f (.sl t) v) else af
def gC (h:bd) (x:TV):Nat->(T:Ty)->T.den->Nat->Nat->Option (T.den×Nat)
 |0,_,_,_,_=>af
 |n+1,.st t,v,off,sz=>match (if aA off 0&&aA sz t.size then CK h (.st t) x else af) with
  |some y=>aa y
  |none=>gC h x n t v off sz
 |n+1,.pr a b,v,off,sz=>if fV off a.size then (match gC h x n a v.1 off sz with|some (y,m)=>aa ((y,v.2),m)|none=>af) else (match gC h x n b v.2 (off-a.size) sz with|some (y,m)=>aa ((v.1,y),m)|none=>af)
 |_+1,.un,_,_,_=>af
 |n+1,.ex,v,off,sz=>match (if aA off 0&&aA sz 4 then CK h .ex x else af) with
  |some y=>aa y
  |none=>(match gC h x n Li (L2 v) off sz with|some (y,m)=>aa (dQ y,m)|none=>af)
 |n+1,.sm,v,off,sz=>match (if aA off 0&&aA sz 11 then CK h .sm x else af) with
  |some y=>aa y
  |none=>(match gC h x n KQ (L1 v) off sz with|some (y,m)=>aa (ne y,m)|none=>af)
 |_+1,.int k,_,off,sz=>if aA off 0&&aA sz 1 then io h (.int k) x else af
 |_+1,.bool,_,off,sz=>if aA off 0&&aA sz 1 then io h .bool x else af
 |_+1,.str,_,off,sz=>if aA off 0&&aA sz 1 then io h .str x else af
 |_+1,.sl t,_,off,sz=>if aA off 0&&aA sz 1 then io h (.sl t) x else af
def xD (h:bd) (T:Ty):Nat->List TV->Option (List T.den×Nat)
 |0,[]=>aa ([],0)
 |0,_::_=>af
 |n+1,l=>match eO h 40 T l with
  |some (x,m,r)=>(match xD h T n r with|some (xs,m')=>aa (x::xs,m|||m')|none=>af)
  |none=>af
def rP:Ty->List Value
 |.int k=>[.int k 0]
 |.bool=>[.bool ai]
 |.str=>[.string ⟨#[]⟩]
 |.sl _=>[.slice af 0 0]
 |.st t=>rP t
 |.pr a b=>rP a++rP b
 |.un=>[]
 |.ex=>[.int .i64 0,.int .i64 0,.string ⟨#[]⟩,.slice af 0 0]
 |.sm=>[.int .i64 0,.int .i64 0,.string ⟨#[]⟩,.string ⟨#[]⟩,.slice af 0 0,.int .i64 0,.int .i64 0,.string ⟨#[]⟩,.slice af 0 0,.slice af 0 0,.slice af 0 0]
def QE:List Value->List Value->Bool
 |[],[]=>ah
 |x::xs,y::I=>aen x y&&QE xs I
 |_,_=>ai
def Ty.flat:Ty->Bool
 |.int _=>ah
 |.bool=>ah
 |.str=>ah
 |.st t=>t.flat
 |.pr a b=>a.flat&&b.flat
 |.un=>ah
 |_=>ai
def qg:List TypeDesc->Option Ty
 |[]=>aa .un
 |.int k::r=>match qg r with|some t=>aa (.pr (.int k) t)|none=>af
 |.bool::r=>match qg r with|some t=>aa (.pr .bool t)|none=>af
 |.string::r=>match qg r with|some t=>aa (.pr .str t)|none=>af
 |_=>af
inductive PV where
 |d (T:Ty)
 |ptr (id off:Nat)
 |row (id:Nat)
 |csl (id sz n:Nat)
 |mp (id:Nat)
 |nil
 |emp
 |clo (q:FuncId) (id off:Nat)
 |agg (l:List PV)
inductive PB where
 |rows (ty:TypeId) (p:Bool) (T:Ty)
 |rowsP (ty:TypeId) (T:Ty)
 |cells (ty:TypeId) (l:List PV)
 |mp (K V:Ty)
 |gone
mutual
def PV.ty:PV->Ty
 |.d T=>T
 |.agg l=>PV.tyL l
 |.ptr _ _=>.un
 |.row _=>.un
 |.csl _ _ _=>.un
 |.clo _ _ _=>.un
 |.mp _=>.un
 |.nil=>.un
 |.emp=>.un
def PV.tyL:List PV->Ty
 |[]=>.un
 |p::r=>Z6 p.ty (PV.tyL r)
end
def PB.ty:PB->Ty
 |.rows _ _ T=>.sl T
 |.rowsP _ T=>.pr .bool (.sl T)
 |.cells _ l=>PV.tyL l
 |.mp K V=>.sl (.pr K V)
 |.gone=>.un
def PB.tyL:List PB->Ty
 |[]=>.un
 |p::r=>Z6 p.ty (PB.tyL r)
structure Tm where
 vs:List PV
 bs:List PB
def Tm.ty (t:Tm):Ty:=Z6 (PV.tyL t.vs) (PB.tyL t.bs)
mutual
def oR (g:Nat->Nat) (h:bd):(p:PV)->List TV->Option (p.ty.den×Nat×List TV)
 |.d T,l=>eO h 40 T l
 |.ptr i o,l=>match l with|.ptr i' o'::r=>if aA (g i) i'&&aA o o' then aa ((),0,r) else af|_=>af
 |.row i,l=>match l with|.row i'::r=>if aA (g i) i' then aa ((),0,r) else af|_=>af
 |.csl i s n,l=>match l with|.csl i' s' n'::r=>if aA (g i) i'&&aA s s'&&aA n n' then aa ((),0,r) else af|_=>af
 |.clo q i o,l=>match l with|.clo q' [.ptr i' o']::r=>if aA q q'&&aA (g i) i'&&aA o o' then aa ((),0,r) else af|_=>af
 |.mp i,l=>match l with|.mp i'::r=>if aA (g i) i' then aa ((),0,r) else af|_=>af
 |.nil,l=>match l with|.nil::r=>aa ((),0,r)|_=>af
 |.emp,l=>match l with|.nil::r=>aa ((),0,r)|.emp::r=>aa ((),0,r)|_=>af
 |.agg ps,l=>xS g h ps l
def xS (g:Nat->Nat) (h:bd):(ps:List PV)->List TV->Option ((PV.tyL ps).den×Nat×List TV)
 |[],l=>aa ((),0,l)
 |p::r,l=>match oR g h p l with
  |some (x,m,l')=>(match xS g h r l' with|some (y,m',l'')=>aa (RN p.ty (PV.tyL r) x y,m|||m',l'')|none=>af)
  |none=>af
end
def wy (g:Nat->Nat) (h:bd):(p:PV)->TV->Option (p.ty.den×Nat)
 |.d T,v=>CK h T v
 |.agg ps,v=>if v.isC then af else (match v.cs with
  |some l=>(match xS g h ps l with|some (x,m,[])=>aa (x,m)|_=>af)
  |none=>af)
 |.ptr i o,v=>match oR g h (.ptr i o) [v] with|some (x,m,_)=>aa (x,m)|none=>af
 |.row i,v=>match oR g h (.row i) [v] with|some (x,m,_)=>aa (x,m)|none=>af
 |.csl i s n,v=>match oR g h (.csl i s n) [v] with|some (x,m,_)=>aa (x,m)|none=>af
 |.clo q i o,v=>match oR g h (.clo q i o) [v] with|some (x,m,_)=>aa (x,m)|none=>af
 |.mp i,v=>match oR g h (.mp i) [v] with|some (x,m,_)=>aa (x,m)|none=>af
 |.nil,v=>match oR g h .nil [v] with|some (x,m,_)=>aa (x,m)|none=>af
 |.emp,v=>match oR g h .emp [v] with|some (x,m,_)=>aa (x,m)|none=>af
def wY (g:Nat->Nat) (h:bd):(ps:List PV)->List TV->Option ((PV.tyL ps).den×Nat)
 |[],[]=>aa ((),0)
 |p::r,v::vs=>match wy g h p v with
  |some (x,m)=>(match wY g h r vs with|some (y,m')=>aa (RN p.ty (PV.tyL r) x y,m|||m')|none=>af)
  |none=>af
 |[],_::_=>af
 |_::_,[]=>af
def DA (g:Nat->Nat) (h:bd) (i:Nat):(b:PB)->Option (b.ty.den×Nat)
 |.rows ty p T=>match h.get (g i) with
  |some (.rows ty' I S xs)=>if ty==ty'&&p==I then (match vE (S:=.sl S) (.sl T) xs with|some x=>aa (x,0)|none=>af) else af
  |_=>af
 |.rowsP ty T=>match h.get (g i) with
  |some (.rows ty' I S xs)=>if ty==ty' then (match vE (S:=.sl S) (.sl T) xs with|some x=>aa ((I,x),0)|none=>af) else af
  |_=>af
 |.cells ty ps=>match h.get (g i) with
  |some (.cells ty' l)=>if ty==ty' then (match xS g h ps l with|some (x,m,[])=>aa (x,m)|_=>af) else af
  |_=>af
 |.mp K V=>match h.get (g i) with
  |some (.mp K' V' es)=>(match vE (S:=.sl (.pr K' V')) (.sl (.pr K V)) es with|some x=>aa (x,0)|none=>af)
  |_=>af
 |.gone=>aa ((),0)
def zC (g:Nat->Nat) (h:bd):Nat->(bs:List PB)->Option ((PB.tyL bs).den×Nat)
 |_,[]=>aa ((),0)
 |i,b::r=>match DA g h i b with
  |some (x,m)=>(match zC g h (i+1) r with|some (y,m')=>aa (RN b.ty (PB.tyL r) x y,m|||m')|none=>af)
  |none=>af
mutual
def pf (g:Nat->Nat):(p:PV)->p.ty.den->Option (List TV)
 |.d T,x=>cellsOf 40 T x
 |.ptr i o,_=>aa [.ptr (g i) o]
 |.row i,_=>aa [.row (g i)]
 |.csl i s n,_=>aa [.csl (g i) s n]
 |.mp i,_=>aa [.mp (g i)]
 |.clo q i o,_=>aa [.clo q [.ptr (g i) o]]
 |.nil,_=>aa [.nil]
 |.emp,_=>aa [.emp]
 |.agg ps,x=>qe g ps x
def qe (g:Nat->Nat):(ps:List PV)->(PV.tyL ps).den->Option (List TV)
 |[],_=>aa []
 |p::r,x=>match pf g p (MM p.ty (PV.tyL r) x) with
  |some a=>(match qe g r (JF p.ty (PV.tyL r) x) with|some b=>aa (a++b)|none=>af)
  |none=>af
end
def r7 (g:Nat->Nat):(p:PV)->p.ty.den->Option TV
 |.d T,x=>aa (.f T x)
 |.ptr i o,_=>aa (.ptr (g i) o)
 |.row i,_=>aa (.row (g i))
 |.csl i s n,_=>aa (.csl (g i) s n)
 |.mp i,_=>aa (.mp (g i))
 |.clo q i o,_=>aa (.clo q [.ptr (g i) o])
 |.nil,_=>aa .nil
 |.emp,_=>aa .emp
 |.agg ps,x=>match qe g ps x with|some l=>aa (.agg l)|none=>af
def pm (g:Nat->Nat):(ps:List PV)->(PV.tyL ps).den->Option (List TV)
 |[],_=>aa []
 |p::r,x=>match r7 g p (MM p.ty (PV.tyL r) x) with
  |some a=>(match pm g r (JF p.ty (PV.tyL r) x) with|some b=>aa (a::b)|none=>af)
  |none=>af
def Bz (g:Nat->Nat):(b:PB)->b.ty.den->Option (Option hZ)
 |.rows ty p T,x=>aa (aa (.rows ty p T x))
 |.rowsP ty T,x=>aa (aa (.rows ty x.1 T x.2))
 |.cells ty ps,x=>match qe g ps x with|some l=>aa (aa (.cells ty l))|none=>af
 |.mp K V,x=>aa (aa (.mp K V x))
 |.gone,_=>aa af
def tZ:hZ->hZ
 |.rows _ p T xs=>.dead p T.size xs.length
 |.cells _ _=>.dead ah 0 0
 |.mp _ _ _=>.dead ah 0 0
 |.dead p sz n=>.dead p sz n
def kill (h:bd) (i:Nat):bd:=match h.get i with
 |some b=>h.set i (aa (tZ b))
 |none=>h
def nV (g:Nat->Nat):(bs:List PB)->(PB.tyL bs).den->Option (List (Option hZ))
 |[],_=>aa []
 |b::r,x=>match Bz g b (MM b.ty (PB.tyL r) x) with
  |some c=>(match nV g r (JF b.ty (PB.tyL r) x) with|some l=>aa (c::l)|none=>af)
  |none=>af
def zd (g:Nat->Nat):Nat->List (Option hZ)->bd->bd
 |_,[],h=>h
 |i,aa c::r,h=>zd g (i+1) r (h.set (g i) (aa c))
 |i,af::r,h=>zd g (i+1) r (kill h (g i))
def KX (g:Nat->Nat) (bs:List PB) (x:(PB.tyL bs).den) (h:bd):Option bd:=match nV g bs x with
 |some l=>aa (zd g 0 l h)
 |none=>af
def wT {K V:Ty} (k:K.den):List (K.den×V.den)->Option V.den
 |[]=>af
 |(k',v)::r=>if NJ K k k' then aa v else wT k r
def De {K V:Ty} (k:K.den) (v:V.den):List (K.den×V.den)->List (K.den×V.den)
 |[]=>[(k,v)]
 |(k',I)::r=>if NJ K k k' then (k,v)::r else (k',I)::De k v r
def wS {K V:Ty} (k:K.den) (es:List (K.den×V.den)) (z:V.den):V.den:=match wT k es with|some v=>v|none=>z
def ah2 (T:Ty):Nat->Ty
 |0=>.un
 |1=>T
 |n+2=>.pr T (ah2 T (n+1))
def kwT:Ty:=.st (ah2 .str 22)
def kwV:kwT.den:=([118,97,114],[118,111,108,97,116,105,108,101],[109,117,116,101,120],[114,119,108,111,99,107],[99,111,110,100],[102,117,116,117,114,101],[116,104,114,101,97,100],[105,102],[101,108,115,101],[119,104,105,108,101],[108,111,99,107],[114,101,97,100],[119,114,105,116,101],[116,114,97,110,115,97,99,116,105,111,110],[97,116,111,109,105,99],[119,97,105,116],[110,111,116,105,102,121],[110,111,116,105,102,121,97,108,108],[115,112,97,119,110],[106,111,105,110],[115,101,116],[103,101,116])
@[simp] theorem dk {R:Type} (t f:Option R):bcase ah t f=t:=Eq.trans rfl rfl
@[simp] theorem dG {R:Type} (t f:Option R):bcase ai t f=f:=Eq.trans rfl rfl
@[simp] theorem chk_t {R:Type} (k:ah=ah->Option R):chk ah k=k rfl:=Eq.trans rfl rfl
theorem cA {R:Type} {b:Bool} (h:b=ah) (k:Option R):chk b (λ_=>k)=k:=by cases b with|true=>rfl|false=>cases h
@[simp] theorem c4 {α R:Type} (x:α) (k:α->Option R):obind (aa x) k=k x:=Eq.trans rfl rfl
@[simp] theorem lB {α R:Type} (x:α) (k:α->Option R):jn (aa (.inr x)) k=k x:=Eq.trans rfl rfl
@[simp] theorem jn_l {α R:Type} (r:R) (k:α->Option R):jn (aa (.inl r)) k=aa r:=Eq.trans rfl rfl
theorem aae {σ R:Type} {f:σ->Option (σ⊕R)} {n:Nat} {x:σ} {r:R} (h:iterN f n x=aa r) (hn:n<=18446744073709551616):fQ f x=aa r:=xN h hn
theorem vh {σ R:Type} {f:σ->Option (σ⊕R)} (n:Nat) (hn:n<18446744073709551616) (st:Nat->σ) {r:R} (h0:∀ i,i<n->f (st i)=aa (.inl (st (i+1)))) (h1:f (st n)=aa (.inr r)):fQ f (st 0)=aa r:=by
 have key:∀ k i,i+k=n->iterN f (k+1) (st i)=aa r:=by
  intro k;induction k with
  |zero=>intro i hi;have:i=n:=by omega
         subst this;simp only[iterN,h1]
  |succ k I=>intro i hi;rw[iterN,h0 i (by omega)];exact I (i+1) (by omega)
 exact aae (key n 0 (by omega)) (by omega)
@[simp] theorem Yp {a b:Int}:cR a b=ah↔a<=b:=by unfold cR;simp
@[simp] theorem Yo {a b:Int}:fG a b=ah↔a<b:=by unfold fG;simp
theorem qf {a b:Int} (h:a<=b):cR a b=ah:=Yp.2 h
theorem t7 {a b:Int} (h:a<b):fG a b=ah:=Yo.2 h
theorem Yq {a b:Int} (h:b<a):cR a b=ai:=by unfold cR;simp;omega
theorem vj {a b:Int} (h:b<=a):fG a b=ai:=by unfold fG;simp;omega
theorem ah9 {j:Int} {n:Nat} (h0:0<=j) (h1:j<n):fD j n=ah:=by unfold fD;rw[qf h0,t7 h1];rfl
theorem cY {j n:Nat} (h1:j<n):fD (j:Int) n=ah:=ah9 (by omega) (by omega)
theorem vU {n b:Nat} (h0:n<=1099511627776) (h1:n*b<=1099511627776):a_ n b=ah:=by
 unfold a_;rw[bD h0,bD h1];rfl
theorem aco {n:Int} (h0: -9223372036854775808<=n) (h1:n<=9223372036854775807):be .i64 n=n:=by
 rw[F3];unfold KH;simp only[];rw[qf h0,qf h1];rfl
theorem oX {i n:Nat} (h:i<n) (hn:n<=1099511627776):be .i64 ((i:Int)+1)=((i+1:Nat):Int):=by
 rw[aco (by omega) (by omega)];omega
theorem sZ (a b:Nat):jR (aN a) (aN b)=((max a b:Nat):Int):=by
 unfold jR;by_cases h:a<b
 .rw[t7 (by simp;omega),aI rfl];simp;omega
 .rw[vj (by simp;omega)];simp;omega
theorem tb {T:Ty} (xs:List T.den) (i:Nat):aH xs (i:Int)=xs.getD i T.zero:=by unfold aH;simp
theorem qF (xs:List (List Int)) (i:Nat):aH (T:=.sl (.int .i64)) xs (i:Int)=xs.getD i []:=tb (T:=.sl (.int .i64)) xs i
theorem aea (xs:List Int) (i:Nat):aH (T:=.int .i64) xs (i:Int)=xs.getD i 0:=tb (T:=.int .i64) xs i
theorem fy {α:Type} (xs:List α) (i:Nat) (x:α):cJ xs (i:Int) x=xs.set i x:=by unfold cJ;simp
structure ch where
 pre:Tm
 post:Tm
 m:pre.ty.den->Option post.ty.den
mutual
def ad9:PV->List TV->PT Nat->PT Nat×List TV
 |.d T,l,σ=>(σ,l.drop T.size)
 |.ptr i _,l,σ=>match l with|.ptr a _::r=>(σ.set i (aa a),r)|l=>(σ,l.drop 1)
 |.row i,l,σ=>match l with|.row a::r=>(σ.set i (aa a),r)|l=>(σ,l.drop 1)
 |.csl i _ _,l,σ=>match l with|.csl a _ _::r=>(σ.set i (aa a),r)|l=>(σ,l.drop 1)
 |.mp i,l,σ=>match l with|.mp a::r=>(σ.set i (aa a),r)|l=>(σ,l.drop 1)
 |.clo _ i _,l,σ=>match l with|.clo _ [.ptr a _]::r=>(σ.set i (aa a),r)|l=>(σ,l.drop 1)
 |.nil,l,σ=>(σ,l.drop 1)
 |.emp,l,σ=>(σ,l.drop 1)
 |.agg ps,l,σ=>TD ps l σ
def TD:List PV->List TV->PT Nat->PT Nat×List TV
 |[],l,σ=>(σ,l)
 |p::r,l,σ=>match ad9 p l σ with|(σ',l')=>TD r l' σ'
end
def aho (p:PV) (v:TV) (σ:PT Nat):PT Nat:=match p with
 |.d _=>σ
 |p=>match v.cs with|some l=>(ad9 p l σ).1|none=>σ
def Y':List PV->List TV->PT Nat->PT Nat
 |p::r,v::vs,σ=>Y' r vs (aho p v σ)
 |_,_,σ=>σ
def TE (h:bd):Nat->List PB->PT Nat->PT Nat
 |_,[],σ=>σ
 |i,b::r,σ=>TE h (i+1) r (match b with
  |.cells _ ps=>(match σ.get i with
   |some a=>(match h.get a with|some (.cells _ l)=>(TD ps l σ).1|_=>σ)
   |none=>σ)
  |_=>σ)
def gV (σ:PT Nat) (i:Nat):Nat:=match σ.get i with|some a=>a|none=>0
def XP (σ:PT Nat):Nat->Nat->Nat->Option Nat
 |0,_,acc=>aa acc
 |n+1,i,acc=>match σ.get i with
  |some a=>if aL acc a then af else XP σ n (i+1) (acc|||kL a)
  |none=>af
def idn:Nat->PT Nat
 |0=>.leaf
 |n+1=>(idn n).set n (aa n)
def UN (σ:PT Nat):Nat->Bool
 |0=>ah
 |n+1=>(match σ.get n with|some a=>aA a n|none=>ai)&&UN σ n
structure adn (t:Tm) where
 x:t.ty.den
 m:Nat
 σ:PT Nat
 sm:Nat
def Df (np:Nat) (t:Tm) (vs:List TV) (h:bd):Option (adn t):=
 Pc (TE h 0 t.bs (TE h 0 t.bs (Y' t.vs vs (idn np)))) λσ=>
 match XP σ t.bs.length 0 0 with
 |some sm=>(match wY (gV σ) h t.vs vs with
  |some (x,m)=>(match zC (gV σ) h 0 t.bs with
   |some (y,m')=>if Cu (m|||m') sm&&UN σ np then aa ⟨RN _ _ x y,m|||m',σ,sm⟩ else af
   |none=>af)
  |none=>af)
 |none=>af
def PT.updI {α:Type} (f:Nat->α->α):Nat->Nat->PT α->PT α
 |_,_,.leaf=>.leaf
 |a,b,.node v l r=>.node (match v with|some x=>aa (f b x)|none=>af) (PT.updI f (2*a) (a+b) l) (PT.updI f (2*a) (2*a+b) r)
def eB (m:Nat) (h:bd):bd:=if aA m 0 then h else PT.updI (λi b=>if aL m i then tZ b else b) 1 0 h
def RY:Operand->Bool
 |.const (.agg _)=>ah
 |_=>ai
def fk (e:iw):Operand->Option TV
 |.tmp t=>e.get t
 |.const v=>aeg v
 |.func g=>aa (.clo g [])
 |.global g=>match G g with|some _=>aa (.fel kwT [kwV] 0 (Eq.refl ah) 0)|none=>af
def Ef (e:iw):List Operand->Option (List TV)
 |[]=>aa []
 |x::xs=>match fk e x with|some y=>(match Ef e xs with|some I=>aa (y::I)|none=>af)|none=>af
def HX (cells:List TV) (e:iw):List (Nat×Nat×Operand)->Option (List TV)
 |[]=>aa cells
 |(off,sz,x)::r=>match fk e x with
  |some v=>(match v.cs with
   |some cs=>if cs.length==sz&&ep (off+sz) cells.length then HX (splice cells off cs) e r else af
   |none=>af)
  |none=>af
def Ru (l:List TV) (off sz:Nat):Bool->Option TV
 |false=>if aA sz 1 then l[off]? else af
 |true=>if ep (off+sz) l.length then aa (.agg ((l.drop off).take sz)) else af
def ec (h:bd) (id:Nat):Option (Bool×Nat×Nat):=match h.get id with
 |some (.rows _ p T xs)=>aa (p,T.size,xs.length)
 |some (.dead p sz n)=>aa (p,sz,n)
 |_=>af
def lenOf (h:bd):TV->Option Nat
 |.f (.sl _) xs=>aa (ak xs)
 |.emp=>aa 0
 |.nil=>aa 0
 |.row id=>match ec h id with|some (_,_,n)=>aa n|none=>af
 |.csl _ _ n=>aa n
 |_=>af
mutual
def JM (h:bd):TV->Bool
 |.row id=>(ec h id).isSome
 |.rtl id _=>(ec h id).isSome
 |.agg l=>ku h l
 |.tup l=>ku h l
 |.clo _ l=>ku h l
 |.f _ _=>ah
 |.fel _ _ _ _ _=>ah
 |.pel _ _ _ _=>ah
 |.ptr _ _=>ah
 |.csl _ _ _=>ah
 |.emp=>ah
 |.nil=>ah
 |.mp _=>ah
 |.undef=>ah
 |.np=>ah
 |.anyb=>ah
def ku (h:bd):List TV->Bool
 |[]=>ah
 |x::r=>JM h x&&ku h r
end
mutual
def JO (n:Nat):TV->Bool
 |.row id=>fV id n
 |.rtl id _=>fV id n
 |.pel id _ _ _=>fV id n
 |.ptr id _=>fV id n
 |.csl id _ _=>fV id n
 |.mp id=>fV id n
 |.agg l=>qB n l
 |.tup l=>qB n l
 |.clo _ l=>qB n l
 |.f _ _=>ah
 |.fel _ _ _ _ _=>ah
 |.emp=>ah
 |.nil=>ah
 |.undef=>ah
 |.np=>ah
 |.anyb=>ah
def qB (n:Nat):List TV->Bool
 |[]=>ah
 |x::r=>JO n x&&qB n r
end
def BP (t:Tm) (x:t.ty.den):Option (List TV×bd):=
 match pm (λi=>i) t.vs (MM _ _ x) with
 |some vs=>(match KX (λi=>i) t.bs (JF _ _ x) PT.leaf with
  |some h=>if ku h vs&&qB t.bs.length vs&&PT.all (λ_ b=>match b with|.cells _ l=>ku h l&&qB t.bs.length l|_=>ah) 1 0 h then aa (vs,h) else af
  |none=>af)
 |none=>af
abbrev KO (R:Type):=TV->Nat->Nat->bd->Nat->Option R
def Oa:List TV->TV
 |[x]=>x
 |l=>.tup l
def Ao:List PB->Bool
 |[]=>ah
 |.gone::_=>ai
 |_::r=>Ao r
def Gn:List PB->Bool
 |[]=>ah
 |.rows _ _ _::r=>Gn r
 |_::_=>ai
def sK (h h2:bd) (g:Nat->Nat):Nat->Bool
 |0=>ah
 |n+1=>(match ec h (g n) with
  |some (p,s,k)=>(match ec h2 (g n) with|some (I,s',k')=>(p==I)&&aA s s'&&aA k k'|none=>ai)
  |none=>ah)&&sK h h2 g n
def U5 {R:Type} (con:FuncId->Option ch) (f:FuncId) (l:List TV) (h:bd) (nx:Nat) (K:KO R):Option R:=
 match con f with
 |some c=>(match Df 0 c.pre l h with
  |some ⟨x,m,σ,sm⟩=>(match BP c.pre x with
   |some _=>obind (c.m x) λy=>(match BP c.post y with
    |some _=>if ep c.pre.bs.length c.post.bs.length&&Ao c.pre.bs then
      let np:=c.pre.bs.length
      let I:=c.post.bs.length-np
      let g:=λi=>if fV i np then gV σ i else nx+(i-np)
      (match pm g c.post.vs (MM _ _ y) with
      |some rs=>if !(aA m 0)&&aA c.post.bs.length 0&&(PV.tyL c.post.vs).flat then K (Oa rs) m 0 h nx else
       (match KX g c.post.bs (JF _ _ y) (eB m h) with
       |some h2=>chk (sK h h2 g np) λ_=>K (Oa rs) (sm|||m) (sm|||m|||(((1<<<I)-1)<<<nx)) h2 (nx+I)
       |none=>af)
      |none=>af) else if aA c.post.bs.length 0&&Gn c.pre.bs then
      let np:=c.pre.bs.length
      let g:=λi=>if fV i np then gV σ i else nx+(i-np)
      (match pm g c.post.vs (MM _ _ y) with
      |some rs=>(match KX g c.pre.bs (JF _ _ x) (eB m h) with
       |some h2=>K (Oa rs) (sm|||m) m h2 nx
       |none=>af)
      |none=>af) else af
    |none=>af)
   |none=>af)
  |none=>af)
 |none=>af
def aem {R:Type} (op:BinOp) (x y:TV) (q:TV->Option R):Option R:=
 match x,y with
 |.f (.int k) a,.f (.int k') b=>if k==k' then
   (match op with
   |.add=>q (.f (.int k) (be k (a+b)))
   |.sub=>q (.f (.int k) (be k (a-b)))
   |.mul=>q (.f (.int k) (be k (a*b)))
   |.rem=>chk (!decide ((b:Int)=0)) λ_=>q (.f (.int k) (p_ a b))
   |.quo=>chk (!decide ((b:Int)=0)) λ_=>q (.f (.int k) (be k (Int.tdiv a b)))
   |.eql=>q (.f .bool (decide ((a:Int)=b)))
   |.neq=>q (.f .bool (!decide ((a:Int)=b)))
   |.lss=>q (.f .bool (fG a b))
   |.leq=>q (.f .bool (cR a b))
   |.gtr=>q (.f .bool (fG b a))
   |.geq=>q (.f .bool (cR b a))
   |_=>af)
  else af
 |.f .str a,.f .str b=>match op with
   |.eql=>q (.f .bool (decide ((a:List UInt8)=b)))
   |.neq=>q (.f .bool (!decide ((a:List UInt8)=b)))
   |_=>af
 |_,_=>af
def VD:Bool->Ty->Bool
 |false,.int _=>ah
 |true,.str=>ah
 |_,_=>ai
abbrev itK:Ty:=.st (.pr .str (.int .i64))
def isIt:Ty->Bool
 |.st (.pr .str (.int .i64))=>ah
 |_=>ai
def RL (K:Ty):Bool:= !isIt K
def NI:List ((List UInt8×Int)×Unit)->List UInt8
 |[]=>[]
 |e::_=>e.1.1
def Mp:List ((List UInt8×Int)×Unit)->Nat
 |[]=>0
 |e::_=>aR e.1.2
def itE:(K V:Ty)->List (K.den×V.den)->Option (List UInt8×Nat)
 |.st (.pr .str (.int .i64)),.un,es=>aa (NI es,Mp es)
 |_,_,_=>af
def mpE:(K V:Ty)->List (K.den×V.den)->Bool
 |.un,.un,[]=>ah
 |_,_,_=>ai
def xu (T:Ty):List TV->Option (List T.den)
 |[]=>aa []
 |.f S v::r=>match vE (S:=S) T v with
  |some x=>(match xu T r with|some l=>aa (x::l)|none=>af)
  |none=>af
 |_::_=>af
def Zd:List TV->Option ((T:Ty)×List T.den)
 |.f T v::r=>match xu T (.f T v::r) with|some l=>aa ⟨T,l⟩|none=>af
 |_=>af
def ahb (n sz:Nat) (v:TV):Bool->Option ((T:Ty)×List T.den)
 |true=>af
 |false=>if aA sz 1&& !v.isC then (match v.cs with|some l=>if aA l.length n then Zd l else af|none=>af) else af
def arrB (n sz off:Nat):Option hZ->Option ((T:Ty)×List T.den)
 |some (.cells _ l)=>if aA sz 1&&aA off 0&&aA l.length n then Zd l else af
 |_=>af
def ad4:Ty->Nat
 |.pr .un t=>ad4 t+1
 |_=>0
def CC:Option Ty->Option Nat
 |some (.pr .un t)=>aa (ad4 t)
 |_=>af
def ad6 {R:Type} (ty:TypeId) (sz bytes:Nat) (b y:TV) (h:bd) (nx:Nat) (K:KO R):Option R:=match y with
 |.csl id2 sz2 m=>(match h.get id2 with
  |some (.cells _ l2)=>if aA sz2 sz&&aA l2.length (m*sz)&& !(aA m 0) then (match b with
   |.csl id sz1 n=>(match h.get id with
    |some (.cells ty1 l)=>if aA sz1 sz&&ty1==ty&&aA l.length (n*sz)&& !(aA id id2) then
      chk (a_ (n+m) bytes) λ_=>K (.csl nx sz (n+m)) (kL id|||kL id2) (kL id|||kL nx) ((h.set id (aa (.dead ah 0 0))).set nx (aa (.cells ty (l++l2)))) (nx+1) else af
    |_=>af)
   |.nil=>chk (a_ m bytes) λ_=>K (.csl nx sz m) (kL id2) (0|||kL nx) ((eB 0 h).set nx (aa (.cells ty l2))) (nx+1)
   |_=>af) else af
  |_=>af)
 |_=>af
def dM {R:Type} (con:FuncId->Option ch) (bX:TypeId->Option Ty) (o:SI) (e:iw) (h:bd) (nx:Nat) (K:KO R):Option R:=
 match o with
 |.call f args=>match Ef e args with|some l=>U5 con f l h nx K|none=>af
 |.callv x args=>match fk e x,Ef e args with
  |some (.clo f cap),aa l=>U5 con f (l++cap) h nx K
  |_,_=>af
 |.op s=>match s with
  |.mksl ty sz bytes z l c=>match CC (bX ty) with
   |some n=>(match IH z,fk e l,fk e c with
    |some J,aa (.f (.int _) a),aa (.f (.int _) b)=>chk (cR 0 a&&cR a b&&a_ (aR b) bytes&&decide ((a:Int)=aN n)) λ_=>K (.csl nx sz n) 0 (0|||kL nx) ((eB 0 h).set nx (aa (.cells ty (aE n J).flatten))) (nx+1)
    |_,_,_=>af)
   |none=>match bX ty,fk e l,fk e c with
   |some T,aa (.f (.int _) a),aa (.f (.int _) b)=>if aA sz T.size&&QE z (rP T) then
     chk (cR 0 a&&cR a b&&a_ (aR b) bytes) λ_=>K (.row nx) 0 (kL nx) (h.set nx (aa (.rows ty ai T (aE (aR a) T.zero)))) (nx+1) else af
   |_,_,_=>af
  |.bsl ty sz len z parts=>match CC (bX ty) with
   |some _=>(match IH z with
    |some J=>(match HX ((aE len J).flatten) e parts with
     |some cs=>if aA len 0 then af else K (.csl nx sz len) 0 (0|||kL nx) ((eB 0 h).set nx (aa (.cells ty cs))) (nx+1)
     |none=>af)
    |none=>af)
   |none=>match bX ty,IH z with
   |some T,aa J=>if aA sz T.size then (match HX ((aE len J).flatten) e parts with
    |some cs=>(match xD h T len cs with
     |some (xs,m)=>K (.row nx) m (m|||kL nx) ((eB m h).set nx (aa (.rows ty (aA len 0) T xs))) (nx+1)
     |none=>af)
    |none=>af) else af
   |_,_=>af
  |.app ty sz bytes s x=>match CC (bX ty) with
   |some _=>(match fk e s,fk e x with
    |some b,aa y=>ad6 ty sz bytes b y h nx K
    |_,_=>af)
   |none=>match bX ty,fk e s,fk e x with
   |some T,aa b,aa y=>if aA sz T.size then (match CK h (.sl T) y with
    |some (I,m)=>(match b with
     |.row id=>(match h.get id with
      |some (.rows ty' p S xs)=>(match vE (S:=.sl S) (.sl T) xs with
       |some xs=>if ty'==ty&& !(aL m id) then
         chk (a_ (ak xs+ak I) bytes) λ_=>K (.row nx) (kL id|||m) (kL id|||kL nx) ((h.set id (aa (.dead p sz (ak xs)))).set nx (aa (.rows ty p T (xs++I)))) (nx+1)
        else af
       |none=>af)
      |_=>af)
     |.emp=>chk (a_ (ak I) bytes) λ_=>K (.row nx) m (kL nx) (h.set nx (aa (.rows ty ah T I))) (nx+1)
     |.nil=>chk (a_ (ak I) bytes) λ_=>K (.row nx) m (kL nx) (h.set nx (aa (.rows ty ah T I))) (nx+1)
     |_=>af)
    |none=>af) else af
   |_,_,_=>af
  |.copy sz d x=>match fk e d,fk e x with
   |some (.row id),aa y=>(match h.get id with
    |some (.rows ty p T xs)=>if aA sz T.size then (match CK h (.sl T) y with
     |some (I,m)=>if !(aL m id)&& !p then
       K (.f (.int .i64) (aN (iB (ak I) (ak xs)))) (kL id|||m) (kL id) (h.set id (aa (.rows ty p T (Rl xs I)))) nx else af
     |none=>af) else af
    |_=>af)
   |_,_=>af
  |.clr sz z x=>match fk e x with
   |some (.rtl id j)=>(match h.get id with
    |some (.rows ty p T xs)=>if (aA sz T.size&&QE z (rP T))&&me z then
      chk (cR 0 j&&fG j (ak xs)) λ_=>K (.tup []) (kL id) (0|||kL id) ((eB 0 h).set id (aa (.rows ty p T (dF (aR j) xs++aE (ak xs-aR j) T.zero)))) nx
     else af
    |_=>af)
   |_=>af
  |.mv x=>match fk e x with|some v=>K v 0 0 h nx|none=>af
  |.pick c a b=>match fk e c with
   |some (.f .bool t)=>bcase t (match fk e a with|some v=>K v 0 0 h nx|none=>af) (match fk e b with|some v=>K v 0 0 h nx|none=>af)
   |_=>af
  |.alloc ty z=>match IH z with
   |some l=>K (.ptr nx 0) 0 (kL nx) (h.set nx (aa (.cells ty l))) (nx+1)
   |none=>af
  |.box ty x=>match fk e x with
   |some v=>(match v.cs with|some l=>K (.ptr nx 0) 0 (kL nx) (h.set nx (aa (.cells ty l))) (nx+1)|none=>af)
   |none=>af
  |.build z parts=>match IH z with
   |some l=>(match HX l e parts with|some cs=>K (.agg cs) 0 0 h nx|none=>af)
   |none=>af
  |.load sz ag x=>match fk e x with
   |some (.ptr id off)=>(match h.get id with
    |some (.cells _ l)=>(match Ru l off sz ag with|some v=>K v (kL id) 0 h nx|none=>af)
    |_=>af)
   |some (.pel id sz' j off)=>(match h.get id with
    |some (.rows _ _ T xs)=>if aA sz' T.size then chk (fD j xs.length) λ_=>(match nD 40 T (aH xs j) off sz ag with|some v=>K v (kL id) 0 h nx|none=>af) else af
    |some (.cells _ l)=>(match ag with
     |true=>af
     |false=>if aA sz 1&&aA sz' 1&&aA off 0 then (match Zd l with
      |some ⟨T,xs⟩=>chk (fD j l.length) λ_=>K (.f T (aH xs j)) (kL id) 0 h nx
      |none=>af) else af)
    |_=>af)
   |some (.fel T xs j _ off)=>(match nD 40 T (aH xs j) off sz ag with|some v=>K v 0 0 h nx|none=>af)
   |_=>af
  |.store sz x v=>match fk e x,fk e v with
   |some (.ptr id off),aa y=>(match h.get id with
    |some (.cells ty l)=>(match y.cs with
     |some cs=>if cs.length==sz&&ep (off+sz) l.length then K .undef (kL id) (kL id) (h.set id (aa (.cells ty (splice l off cs)))) nx else af
     |none=>af)
    |_=>af)
   |some (.pel id sz' j off),aa y=>(match h.get id with
    |some (.rows ty p T xs)=>if aA sz' T.size then chk (fD j xs.length) λ_=>(match gC h y 40 T (aH xs j) off sz with
     |some (z,m)=>if aL m id then af else K .undef (m|||kL id) (m|||kL id) ((eB m h).set id (aa (.rows ty p T (cJ xs j z)))) nx
     |none=>af) else af
    |_=>af)
   |_,_=>af
  |.nilc x=>match fk e x with
   |some (.ptr id off)=>K (.ptr id off) 0 0 h nx
   |some (.pel id sz j off)=>K (.pel id sz j off) 0 0 h nx
   |some (.fel T xs j hj off)=>K (.fel T xs j hj off) 0 0 h nx
   |some (.clo g cap)=>K (.clo g cap) 0 0 h nx
   |_=>af
  |.bin op x y=>match fk e x,fk e y with
   |some u,aa v=>aem op u v λr=>K r 0 0 h nx
   |_,_=>af
  |.eqs neg ds x y=>match qg ds,fk e x,fk e y with
   |some T,aa u,aa v=>if u.isC||v.isC||RY x||RY y then af else (match u.cs,v.cs with
    |some lu,aa lv=>(match eO PT.leaf 40 T lu,eO PT.leaf 40 T lv with
     |some (a,_,[]),aa (b,_,[])=>K (.f .bool (NJ T a b !=neg)) 0 0 h nx
     |_,_=>af)
    |_,_=>af)
   |_,_,_=>af
  |.isnil neg x=>match fk e x with
   |some .nil=>K (.f .bool (!neg)) 0 0 h nx
   |some .emp=>K .anyb 0 0 h nx
   |some (.f (.sl _) xs)=>bcase (aA (ak xs) 0) (K .anyb 0 0 h nx) (K (.f .bool neg) 0 0 h nx)
   |some (.row id)=>(match h.get id with
    |some (.rows _ ai _ _)=>K (.f .bool neg) 0 0 h nx
    |_=>af)
   |_=>af
  |.eqb neg x y=>match fk e x,fk e y with
   |some (.f .bool a),aa (.f .bool b)=>K (.f .bool ((a==b) !=neg)) 0 0 h nx
   |_,_=>af
  |.not x=>match fk e x with|some (.f .bool b)=>K (.f .bool (!b)) 0 0 h nx|_=>af
  |.conv k x=>match fk e x with|some (.f (.int _) n)=>K (.f (.int k) (be k n)) 0 0 h nx|_=>af
  |.slc sz x lo hi mx=>match fk e x with
   |some v=>(match lo,hi,mx with
    |none,aa (.const (.int _ 0)),aa (.const (.int _ 0))=>if (lenOf h v).isSome then K .emp 0 0 h nx else af
    |none,aa b,af=>(match v,fk e b with
     |.f (.sl T) xs,aa (.f (.int _) j)=>if aA sz T.size then chk (cR 0 j&&cR j (ak xs)) λ_=>K (.f (.sl T) (dF (aR j) xs)) 0 0 h nx else af
     |.row id,aa (.f (.int _) j)=>(match h.get id with
      |some (.rows ty p T xs)=>if aA sz T.size then
        chk (cR 0 j&&fG j (ak xs)) λ_=>K (.row nx) (kL id) (kL id|||kL nx) ((h.set id (aa (.dead p sz (ak xs)))).set nx (aa (.rows ty ai T (dF (aR j) xs)))) (nx+1)
       else af
      |_=>af)
     |_,_=>af)
    |some b,af,af=>(match v,fk e b with
     |.f (.sl T) xs,aa (.f (.int _) j)=>if aA sz T.size then chk (cR 0 j&&cR j (ak xs)) λ_=>K (.f (.sl T) (List.drop (aR j) xs)) 0 0 h nx else af
     |.row id,aa (.f (.int _) j)=>(match h.get id with
      |some (.rows _ _ T xs)=>if aA sz T.size then chk (cR 0 j&&fG j (ak xs)) λ_=>K (.rtl id j) 0 0 h nx else af
      |_=>af)
     |_,_=>af)
    |_,_,_=>af)
   |none=>af
  |.fad off x=>match fk e x with
   |some (.ptr id o)=>K (.ptr id (o+off)) 0 0 h nx
   |some (.pel id sz j o)=>K (.pel id sz j (o+off)) 0 0 h nx
   |some (.fel T xs j hj o)=>K (.fel T xs j hj (o+off)) 0 0 h nx
   |_=>af
  |.fld off sz ag x=>match fk e x with
   |some (.agg l)=>(match Ru l off sz ag with|some v=>K v 0 0 h nx|none=>af)
   |some (.f T v)=>if T.one then af else (match nD 40 T v off sz ag with|some v=>K v 0 0 h nx|none=>af)
   |_=>af
  |.iad sz x i=>match fk e x,fk e i with
   |some (.row id),aa (.f (.int _) j)=>(match h.get id with
    |some (.rows _ _ T xs)=>if aA sz T.size then chk (fD j xs.length) λ_=>K (.pel id sz j 0) 0 0 h nx else af
    |_=>af)
   |some (.f (.sl T) xs),aa (.f (.int _) j)=>if aA sz T.size then chk (fD j (ak xs)) λhj=>K (.fel T xs j hj 0) 0 0 h nx else af
   |some (.csl id sz' n),aa (.f (.int _) j)=>if aA sz' sz then chk (cR 0 j&&fG j n) λ_=>K (.ptr id (aR j*sz)) 0 0 h nx else af
   |_,_=>af
  |.iada n sz x i=>match fk e x,fk e i with
   |some (.ptr id off),aa (.f (.int _) j)=>(match arrB n sz off (h.get id) with
    |some _=>chk (cR 0 j&&fG j n) λ_=>K (.pel id sz j off) 0 0 h nx
    |none=>chk (cR 0 j&&fG j n) λ_=>K (.ptr id (off+aR j*sz)) 0 0 h nx)
   |_,_=>af
  |.idx n sz ag x i=>match fk e x,fk e i with
   |some v,aa (.f (.int _) j)=>(match ahb n sz v ag with
    |some ⟨T,xs⟩=>chk (cR 0 j&&fG j n) λ_=>K (.f T (aH xs j)) 0 0 h nx
    |none=>(match v with
     |.agg l=>chk (cR 0 j&&fG j n) λ_=>(match Ru l (aR j*sz) sz ag with|some v=>K v 0 0 h nx|none=>af)
     |.f T v=>if T.one then af else chk (cR 0 j&&fG j n) λ_=>(match nD 40 T v (aR j*sz) sz ag with|some v=>K v 0 0 h nx|none=>af)
     |_=>af))
   |_,_=>af
  |.ext x i=>match fk e x with|some (.tup l)=>(match l[i]? with|some v=>K v 0 0 h nx|none=>af)|_=>af
  |.len x=>match fk e x with
   |some v=>(match lenOf h v with|some n=>K (.f (.int .i64) (aN n)) 0 0 h nx|none=>af)
   |none=>af
  |.lens x=>match fk e x with
   |some (.f .str s)=>K (.f (.int .i64) (aN (ak s))) 0 0 h nx
   |_=>af
  |.max x y=>match fk e x,fk e y with
   |some (.f (.int k) a),aa (.f (.int k') b)=>if k==k' then K (.f (.int k) (jR a b)) 0 0 h nx else af
   |_,_=>af
  |.min x y=>match fk e x,fk e y with
   |some (.f (.int k) a),aa (.f (.int k') b)=>if k==k' then K (.f (.int k) (Ft a b)) 0 0 h nx else af
   |_,_=>af
  |.sidx x i=>match fk e x,fk e i with
   |some (.f .str s),aa (.f (.int _) j)=>chk (fD j (ak s)) λ_=>K (.f (.int .u8) (yW s j)) 0 0 h nx
   |_,_=>af
  |.rng x=>match fk e x with
   |some (.f .str s)=>K (.ptr nx 0) 0 (0|||kL nx) ((eB 0 h).set nx (aa (.mp itK .un [((s,0),())]))) (nx+1)
   |_=>af
  |.nxt x=>match fk e x with
   |some (.ptr id 0)=>(match h.get id with
    |some (.mp K' V es)=>(match itE K' V es with
     |some (s,p)=>bcase (fV p (ak s)) (chk (fG (yW s (aN p)) 128) λ_=>K (.tup [.f .bool ah,.f (.int .i64) (aN p),.f (.int .i32) (yW s (aN p))]) (kL id) (0|||kL id) ((eB 0 h).set id (aa (.mp itK .un [((s,aN (p+1)),())]))) nx)
       (K (.tup [.f .bool ai]) (kL id) (0|||kL id) ((eB 0 h).set id (aa (.mp itK .un [((s,aN p),())]))) nx)
     |none=>af)
    |_=>af)
   |_=>af
  |.mkm=>K (.mp nx) 0 (0|||kL nx) ((eB 0 h).set nx (aa (.mp .un .un []))) (nx+1)
  |.lku str z x k=>match fk e x,fk e k with
   |some (.mp id),aa (.f KT M)=>(match h.get id with
    |some (.mp K' V es)=>if VD str KT&&RL K' then (match mpE K' V es with
     |true=>(match cst z with|some v=>K v (kL id) 0 h nx|none=>af)
     |false=>(match vE (S:=KT) K' M,cst z with
      |some kv',aa (.f Z Y)=>(match vE (S:=Z) V Y with
       |some zv'=>K (.f V (wS kv' es zv')) (kL id) 0 h nx
       |none=>af)
      |_,_=>af)) else af
    |_=>af)
   |_,_=>af
  |.mup str x k v=>match fk e x,fk e k,fk e v with
   |some (.mp id),aa (.f KT M),aa (.f VT U)=>(match h.get id with
    |some (.mp K' V es)=>if (VD str KT&&VT.one)&&RL K' then (match mpE K' V es with
     |true=>K .undef (kL id) (0|||kL id) ((eB 0 h).set id (aa (.mp KT VT [(M,U)]))) nx
     |false=>(match vE (S:=KT) K' M,vE (S:=VT) V U with
      |some kv',aa vv'=>K .undef (kL id) (0|||kL id) ((eB 0 h).set id (aa (.mp K' V (De kv' vv' es)))) nx
      |_,_=>af)) else af
    |_=>af)
   |_,_,_=>af
  |.lenm x=>match fk e x with
   |some (.mp id)=>(match h.get id with
    |some (.mp K' _ es)=>if RL K' then K (.f (.int .i64) (aN es.length)) (kL id) 0 h nx else af
    |_=>af)
   |_=>af
  |.mkf f caps=>match Ef e caps with|some l=>K (.clo f l) 0 0 h nx|none=>af
  |_=>af
def Xz {R:Type} (e:iw) (g:Option (Nat×Bool)) (K:Bool->iw->Option R):Option R:=match g with
 |none=>K ah e
 |some (t,want)=>match e.get t with
  |some (.f .bool b)=>(match want with
   |true=>bcase b (K ah (e.set t (aa (.f .bool ah)))) (K ai (e.set t (aa (.f .bool ai))))
   |false=>bcase b (K ai (e.set t (aa (.f .bool ah)))) (K ah (e.set t (aa (.f .bool ai)))))
  |some .undef=>K ai e
  |_=>af
def C8 (e:iw) (d:Option Nat) (v:TV):iw:=match d with
 |none=>e
 |some d=>e.set d (aa v)
structure TS where
 e:iw
 h:bd
 nx:Nat
def JJ {R:Type} (con:FuncId->Option ch) (bX:TypeId->Option Ty):List rA->TS->List ZJ->(TS->List ZJ->Option R)->Option R
 |[],s,fs,K=>K s fs.reverse
 |o::r,s,fs,K=>Xz s.e o.guard λrun e=>match run with
  |true=>dM con bX o.op e s.h s.nx λv rd wr h nx=>if JM h v then JJ con bX r ⟨C8 e o.dst v,h,nx⟩ (⟨rd,wr⟩::fs) K else af
  |false=>JJ con bX r ⟨C8 e o.dst .undef,s.h,s.nx⟩ (⟨0,0⟩::fs) K
inductive ZQ where
 |nil (k:Nat) (ty:TypeId) (T:Ty)
 |cel (k:Nat) (off:Nat) (ty:TypeId) (T:Ty)
 |mpt (k:Nat) (K V:Ty)
 |pk (k:Nat) (off:Nat) (T:Ty)
 |ren (k:Nat) (off:Nat)
mutual
def JE (id sz n:Nat):TV->TV
 |.csl i s m=>if aA i id&&aA s sz&&aA m n then .row id else .csl i s m
 |.agg l=>.agg (Bl id sz n l)
 |.tup l=>.tup (Bl id sz n l)
 |.clo g l=>.clo g (Bl id sz n l)
 |.f T v=>.f T v
 |.fel T xs j h off=>.fel T xs j h off
 |.pel a b c d=>.pel a b c d
 |.ptr a b=>.ptr a b
 |.row a=>.row a
 |.rtl a j=>.rtl a j
 |.emp=>.emp
 |.nil=>.nil
 |.mp a=>.mp a
 |.undef=>.undef
 |.np=>.np
 |.anyb=>.anyb
def Bl (id sz n:Nat):List TV->List TV
 |[]=>[]
 |x::r=>JE id sz n x::Bl id sz n r
end
def Vn (id sz n:Nat):hZ->hZ
 |.cells ty l=>.cells ty (Bl id sz n l)
 |.rows ty p T xs=>.rows ty p T xs
 |.dead p s m=>.dead p s m
 |.mp K V es=>.mp K V es
def ahm (s:TS) (k off:Nat):Option (Nat×Nat×Nat):=match s.e.get k with
 |some (.csl id sz n)=>aa (id,sz,n)
 |some (.agg l)=>(match l[off]? with|some (.csl id sz n)=>aa (id,sz,n)|_=>af)
 |some (.ptr a o)=>(match s.h.get a with
  |some (.cells _ l)=>(match l[o+off]? with|some (.csl id sz n)=>aa (id,sz,n)|_=>af)
  |_=>af)
 |_=>af
def pkS (s:TS) (T:Ty) (id sz n:Nat):Option TS:=match s.h.get id with
 |some (.cells ty l)=>if aA sz T.size then (match xD s.h T n l with
  |some (xs,m)=>if aL m id then af else aa ⟨PT.updI (λ_ v=>JE id sz n v) 1 0 s.e,(PT.updI (λ_ b=>Vn id sz n b) 1 0 (eB m s.h)).set id (aa (.rows ty ai T xs)),s.nx⟩
  |none=>af) else af
 |_=>af
def aaf:TV->Bool
 |.nil=>ah
 |.emp=>ah
 |_=>ai
def ah1:Option TV->Option (Nat×Nat)
 |some (.ptr id o)=>aa (id,o)
 |some (.csl id _ _)=>aa (id,0)
 |_=>af
def Nv (s:TS):ZQ->Option TS
 |.nil k ty T=>match s.e.get k with
  |some v=>if aaf v then aa ⟨s.e.set k (aa (.row s.nx)),s.h.set s.nx (aa (.rows ty ah T [])),s.nx+1⟩ else aa s
  |none=>af
 |.cel k off ty T=>match ah1 (s.e.get k) with
  |some (id,o)=>(match s.h.get id with
   |some (.cells cty l)=>(match l[o+off]? with
    |some v=>if aaf v then aa ⟨s.e,(s.h.set s.nx (aa (.rows ty ah T []))).set id (aa (.cells cty (splice l (o+off) [.row s.nx]))),s.nx+1⟩ else aa s
    |none=>af)
   |_=>af)
  |_=>af
 |.mpt k K V=>match s.e.get k with
  |some (.mp id)=>(match s.h.get id with
   |some (.mp K' V' es)=>(match mpE K' V' es&&RL K with
    |true=>aa ⟨s.e,s.h.set id (aa (.mp K V [])),s.nx⟩
    |false=>aa s)
   |_=>af)
  |_=>af
 |.pk k off T=>match ahm s k off with
  |some (id,sz,n)=>pkS s T id sz n
  |none=>af
 |.ren k off=>match s.e.get k with
  |some (.ptr b o)=>(match s.h.get b with
   |some (.cells cty l)=>(match l[o+off]? with
    |some (.row id)=>(match s.h.get id with
     |some (.rows ty p T xs)=>aa ⟨s.e,((s.h.set id (aa (.dead p T.size xs.length))).set s.nx (aa (.rows ty p T xs))).set b (aa (.cells cty (splice l (o+off) [.row s.nx]))),s.nx+1⟩
     |_=>af)
    |_=>af)
   |_=>af)
  |some (.row id)=>(match s.h.get id with
   |some (.rows ty p T xs)=>aa ⟨s.e.set k (aa (.row s.nx)),(s.h.set id (aa (.dead p T.size xs.length))).set s.nx (aa (.rows ty p T xs)),s.nx+1⟩
   |_=>af)
  |_=>af
def WE (s:TS):List ZQ->Option TS
 |[]=>aa s
 |a::r=>match Nv s a with|some s'=>WE s' r|none=>af
structure Xu where
 keep:List Nat
 ks:List Nat
 t:Tm
 pre:List ZQ
abbrev Xu.D (A:Xu):Type:=A.t.ty.den
mutual
def s5:TV->Bool
 |.f _ _=>ah
 |.fel _ _ _ _ _=>ah
 |.emp=>ah
 |.nil=>ah
 |.undef=>ah
 |.np=>ah
 |.anyb=>ah
 |.agg l=>pH l
 |.tup l=>pH l
 |.pel _ _ _ _=>ai
 |.ptr _ _=>ai
 |.csl _ _ _=>ai
 |.row _=>ai
 |.rtl _ _=>ai
 |.mp _=>ai
 |.clo _ _=>ai
def pH:List TV->Bool
 |[]=>ah
 |x::r=>s5 x&&pH r
end
def BO (am:Nat) (e:iw):List Nat->iw
 |[]=>PT.leaf
 |k::r=>match e.get k with|some v=>if s5 v&& !(aL am k) then (BO am e r).set k (aa v) else BO am e r|none=>BO am e r
def nv (e:iw):List Nat->Option (List TV)
 |[]=>aa []
 |k::r=>match e.get k with|some v=>(match nv e r with|some l=>aa (v::l)|none=>af)|none=>af
def Vp (e:iw):List Nat->List TV->iw
 |k::r,v::l=>(Vp e r l).set k (aa v)
 |_,_=>e
def F_ (am:Nat) (e0 e:iw):List Nat->Bool
 |[]=>ah
 |k::r=>(match e0.get k with
  |some v=> !(s5 v)||aL am k||(match e.get k with|some _=>ah|none=>ai)
  |none=>ah)&&F_ am e0 e r
def Kb (np:Nat) (A:Xu) (am:Nat) (I s:TS):Option A.D:=if ep np A.t.bs.length&&F_ am I.e s.e A.keep then (match WE s A.pre with
 |some s=>(match nv s.e A.ks with
  |some vs=>(match Df np A.t vs s.h with
   |some ⟨x,_,_,_⟩=>aa x
   |none=>af)
  |none=>af)
 |none=>af) else af
def Fm (A:Xu) (am:Nat) (s:TS) (x:A.D):Option TS:=match BP A.t x with
 |some (vs,h)=>if aA vs.length A.ks.length then aa ⟨Vp (BO am s.e A.keep) A.ks vs,h,A.t.bs.length⟩ else af
 |none=>af
inductive TC where
 |skip
 |reg (ops:List rA) (prs:List (Nat×Nat))
 |seq (a b:TC)
 |jseq (A:Xu) (a b:TC)
 |cond (c:Nat) (a b:TC)
 |block (id:Nat) (b:TC)
 |jblock (A:Xu) (id:Nat) (b:TC)
 |loop (A:Xu) (b:TC)
 |exit (id:Nat)
 |ret
 |defer (f:FuncId) (caps:List Operand) (t:Nat)
 |adj (l:List ZQ) (c:TC)
 |split (k off lo n:Nat) (c:TC)
 |unl (n:Nat) (b:TC)
 |bad
def Nr:List rA->Nat->Nat
 |[],acc=>acc
 |o::r,acc=>Nr r (match o.dst with|some d=>acc|||kL d|none=>acc)
def JP:List Nat->Nat->Nat
 |[],acc=>acc
 |k::r,acc=>JP r (acc|||kL k)
def nO:List ZQ->Nat->Nat
 |[],acc=>acc
 |.nil k _ _::r,acc=>nO r (acc|||kL k)
 |.cel _ _ _ _::r,acc=>nO r acc
 |.mpt _ _ _::r,acc=>nO r acc
 |.pk _ _ _::r,acc=>nO r acc
 |.ren k _::r,acc=>nO r (acc|||kL k)
def TC.asg:TC->Nat->Nat
 |.reg ops _,acc=>Nr ops acc
 |.seq a b,acc=>b.asg (a.asg acc)
 |.jseq A a b,acc=>b.asg (a.asg (JP A.ks acc))
 |.cond _ a b,acc=>b.asg (a.asg acc)
 |.block _ b,acc=>b.asg acc
 |.jblock A _ b,acc=>b.asg (JP A.ks acc)
 |.loop A b,acc=>b.asg (JP A.ks acc)
 |.defer _ _ t,acc=>acc|||kL t
 |.adj l c,acc=>c.asg (nO l acc)
 |.split _ _ _ _ c,acc=>c.asg acc
 |.unl _ b,acc=>b.asg acc
 |.skip,acc=>acc
 |.exit _,acc=>acc
 |.ret,acc=>acc
 |.bad,acc=>acc
inductive ZI where
 |j (A:Xu)
 |a (l:List ZQ)
 |s (k off lo n:Nat)
 |u (n:Nat)
def Gs (H:PT ZI) (n:Nat) (c:TC):TC:=match H.get n with|some (.a l)=>.adj l c|some (.s k off lo m)=>.split k off lo m c|_=>c
def Cx (H:PT ZI):SC->Nat->TC×Nat
 |.skip,n=>(Gs H n .skip,n+1)
 |.reg o p,n=>(Gs H n (.reg o p),n+1)
 |.seq a b,n=>match Cx H a (n+1) with
  |(a',k)=>(match Cx H b k with|(b',k')=>((match H.get n with|some (.j A)=>.jseq A a' b'|_=>.seq a' b'),k'))
 |.cond c a b,n=>match Cx H a (n+1) with
  |(a',k)=>(match Cx H b k with|(b',k')=>(Gs H n (.cond c a' b'),k'))
 |.block id b,n=>match Cx H b (n+1) with|(b',k)=>((match H.get n with|some (.j A)=>.jblock A id b'|_=>.block id b'),k)
 |.loop b,n=>match Cx H b (n+1) with|(b',k)=>((match H.get n with|some (.j A)=>.loop A b'|some (.u m)=>.unl m b'|_=>.bad),k)
 |.exit id,n=>(Gs H n (.exit id),n+1)
 |.ret,n=>(Gs H n .ret,n+1)
 |.defer f c t,n=>(.defer f c t,n+1)
 |.bad,n=>(.bad,n+1)
def Yk (s:TS) (k off:Nat):Option (IntKind×Int):=match s.e.get k with
 |some (.f (.int kd) v)=>aa (kd,v)
 |some (.ptr a o)=>(match s.h.get a with
  |some (.cells _ l)=>(match l[o+off]? with|some (.f (.int kd) v)=>aa (kd,v)|_=>af)
  |_=>af)
 |_=>af
def Ry (s:TS) (k off:Nat) (kd:IntKind) (v:Int):Option TS:=match s.e.get k with
 |some (.f (.int _) _)=>aa ⟨s.e.set k (aa (.f (.int kd) v)),s.h,s.nx⟩
 |some (.ptr a o)=>(match s.h.get a with
  |some (.cells ty l)=>aa ⟨s.e,s.h.set a (aa (.cells ty (splice l (o+off) [.f (.int kd) v]))),s.nx⟩
  |_=>af)
 |_=>af
def spl {R:Type} (v:Int) (f:Nat->Option R):Nat->Nat->Option R
 |_,0=>af
 |i,m+1=>bcase (decide ((v:Int)=aN i)) (f i) (spl v f (i+1) m)
def Z2 {R:Type} (f:TS->(Ex->TS->Option R)->Option R):Nat->TS->(Ex->TS->Option R)->Option R
 |0,_,_=>af
 |m+1,s,K=>f s λex s'=>match ex with
  |.normal=>Z2 f m s' K
  |ex=>K ex s'
def oC {R:Type} (np:Nat) (con:FuncId->Option ch) (bX:TypeId->Option Ty) (inert:FuncId->Bool):TC->TS->(Ex->TS->Option R)->Option R
 |.skip,s,K=>K .normal s
 |.reg ops prs,s,K=>JJ con bX ops s [] λs' fs=>if Ee fs prs then K .normal s' else af
 |.seq a b,s,K=>oC np con bX inert a s λex s'=>match ex with|.normal=>oC np con bX inert b s' K|ex=>K ex s'
 |.jseq A a b,s,K=>jn (oC np con bX inert a s λex s'=>match ex with
   |.normal=>obind (Kb np A (a.asg 0) s s') λx=>aa (.inr x)
   |ex=>obind (K ex s') λr=>aa (.inl r)) λx=>(match Fm A (a.asg 0) s x with|some s'=>oC np con bX inert b s' K|none=>af)
 |.cond c a b,s,K=>match s.e.get c with
  |some (.f .bool t)=>bcase t (oC np con bX inert a s K) (oC np con bX inert b s K)
  |some .anyb=>DX (oC np con bX inert a s K) (oC np con bX inert b s K)
  |_=>af
 |.block id b,s,K=>oC np con bX inert b s λex s'=>match ex with
  |.exit i=>if aA i id then K .normal s' else K (.exit i) s'
  |ex=>K ex s'
 |.jblock A id b,s,K=>jn (oC np con bX inert b s λex s'=>match ex with
   |.normal=>obind (Kb np A (b.asg 0) s s') λx=>aa (.inr x)
   |.exit i=>if aA i id then obind (Kb np A (b.asg 0) s s') λx=>aa (.inr x) else obind (K (.exit i) s') λr=>aa (.inl r)
   |.ret=>obind (K .ret s') λr=>aa (.inl r)) λx=>(match Fm A (b.asg 0) s x with|some s'=>K .normal s'|none=>af)
 |.loop A b,s,K=>obind (Kb np A (b.asg 0) s s) λx=>iter (λx=>match Fm A (b.asg 0) s x with
   |some s'=>oC np con bX inert b s' λex s'=>(match ex with
    |.normal=>obind (Kb np A (b.asg 0) s s') λy=>aa (.inl y)
    |ex=>obind (K ex s') λr=>aa (.inr r))
   |none=>af) x
 |.exit id,s,K=>K (.exit id) s
 |.ret,s,K=>K .ret s
 |.defer f caps t,s,K=>match Ef s.e caps with
  |some l=>if inert f then K .normal ⟨s.e.set t (aa (.clo f l)),s.h,s.nx⟩ else af
  |none=>af
 |.adj l c,s,K=>match WE s l with|some s'=>oC np con bX inert c s' K|none=>af
 |.split k off lo n c,s,K=>match Yk s k off with
  |some (kd,v)=>spl v (λi=>match Ry s k off kd (aN i) with|some s'=>oC np con bX inert c s' K|none=>af) lo n
  |none=>af
 |.unl n b,s,K=>Z2 (λs K=>oC np con bX inert b s K) n s K
 |.bad,_,_=>af
def I_:Nat->List TV->iw
 |_,[]=>PT.leaf
 |k,x::r=>(I_ (k+1) r).set k (aa x)
def rvT (s:TS):RV->Option TV
 |.tmp t=>s.e.get t
 |.cell a sz ag=>match s.e.get a with
  |some (.ptr id off)=>(match s.h.get id with|some (.cells _ l)=>Ru l off sz ag|_=>af)
  |_=>af
def RA (s:TS):List RV->Option (List TV)
 |[]=>aa []
 |x::r=>match rvT s x with|some v=>(match RA s r with|some l=>aa (v::l)|none=>af)|none=>af
structure FT where
 pre:Tm
 post:Tm
 hints:PT ZI
def XJ (con:FuncId->Option ch) (bX:TypeId->Option Ty) (inert:FuncId->Bool) (F:Option SF) (D:FT) (x:D.pre.ty.den):Option D.post.ty.den:=
 match F with
 |some I=>(match BP D.pre x with
  |some (args,h)=>if ep args.length I.nt&&ep D.pre.bs.length D.post.bs.length then
    oC D.pre.bs.length con bX inert (Cx D.hints I.code 0).1 ⟨I_ 0 args,h,D.pre.bs.length⟩ λex s=>(match ex with
    |.exit _=>af
    |_=>(match RA s I.res with
     |some l=>(match Df D.pre.bs.length D.post l s.h with
      |some ⟨y,_,_,_⟩=>(match BP D.post y with|some _=>aa y|none=>af)
      |none=>af)
     |none=>af)) else af
  |none=>af)
 |none=>af
abbrev aM:Ty:=(.int .i64)
abbrev ka:Ty:=(.st (.pr .str (.pr aM (.pr aM (.pr .bool aM)))))
abbrev qc:Ty:=(.st (.pr .str .bool))
abbrev li:Ty:=(.st (.pr .str aM))
abbrev nQ:Ty:=(.st (.pr aM (.pr aM aM)))
abbrev nF:Ty:=(.st (.pr (.sl ka) (.pr (.sl qc) (.pr (.sl li) (.pr (.sl .str) (.pr (.sl .str) (.sl nQ)))))))
abbrev uH:Ty:=(.sl (.sl aM))
abbrev eK:Ty:=(.st (.pr aM (.pr (.sl aM) (.pr uH aM))))
abbrev qa:Ty:=(.st (.pr aM (.pr aM (.pr aM (.pr aM (.pr aM aM))))))
abbrev dP:Ty:=(.st (.pr aM (.sl aM)))
abbrev pi:Ty:=(.sl .bool)
abbrev gR:Ty:=(.st (.pr aM (.pr aM .bool)))
abbrev FW:Ty:=(.st (.pr (.sl dP) (.pr aM (.pr pi (.sl gR)))))
abbrev iS:Ty:=(.st (.pr aM (.pr aM (.pr aM (.pr aM (.pr aM (.pr (.sl aM) (.sl aM))))))))
abbrev Fj:Ty:=(.st (.pr aM (.pr aM (.pr .str (.pr aM (.pr aM .str))))))
abbrev rN:Ty:=(.st (.pr .str (.pr aM (.pr (.sl .str) (.sl .sm)))))
abbrev LO:Ty:=(.st (.pr (.sl Fj) (.sl rN)))
abbrev vK:Ty:=(.st (.pr aM (.sl qa)))
abbrev tC:Ty:=(.st (.pr nF (.sl vK)))
abbrev uI:Ty:=(.st (.pr FW (.pr (.sl aM) (.pr (.sl aM) (.sl eK)))))
abbrev iy:Ty:=(.st (.pr FW (.pr (.sl aM) (.pr (.sl aM) (.sl aM)))))
abbrev CR:Ty:=(.sl (.int .u8))
abbrev xv:Ty:=(.st (.pr CR aM))
abbrev ip:Ty:=(.st (.pr aM aM))
abbrev nP:Ty:=(.st (.pr nF (.sl iS)))
abbrev QM:=((List UInt8)×Int×Int×Bool×Int)
abbrev gH:=(List QM)
abbrev gq:=(List ((List UInt8)×Bool))
abbrev eW:=((List UInt8)×Int)
abbrev b9:=(List (List UInt8))
abbrev dL:=(gH×gq×(List eW)×b9×b9×List (Int×Int×Int))
abbrev qK:=(gH×gq×(List eW)×b9×b9×(List (Int×Int×Int))×b9×Int×Int)
abbrev gp:=(List (Int×List Int))
abbrev dh:=(Int×Int×Bool)
abbrev oB:=(gp×Int×(List Bool)×List dh)
abbrev sI:=(Int×(List Int)×(List (List Int))×Int)
abbrev jD:=(Int×Int×Int×Int×Int×Int)
abbrev gB:=(Int×Int×Int×Int×Int×(List Int)×List Int)
abbrev Zk:=(Int×Int×(List UInt8)×Int×Int×List UInt8)
abbrev qZ:=(List Zk)
abbrev qY:=((List UInt8)×Int×b9×List Sx)
abbrev xx:=(Int×Int×Bool×Bool×Bool×Bool)
abbrev yw:=(dL×List (Int×List jD))
abbrev uD:=(Int×Int×Int×Int×Int)
abbrev eh:=(oB×(List Int)×(List Int)×List Int)
abbrev fx:=((List Int)×Int)
abbrev vI:=(oB×(List Int)×(List Int)×List sI)
abbrev FP:=(Int×Int×(List UInt8)×(List UInt8)×Int×Int×List UInt8)
abbrev qb:=(qZ×(List qY)×Int)
abbrev QN:=(Bool×List (List UInt8))
abbrev Ya23:=(Int×Int×sI×sI×Int×(List Int)×(List (List Int))×Int)
abbrev Ya24:=(sI×Int×Int×sI×Int×(List Int)×(List (List Int))×Int)
abbrev Ya25:=(sI×sI×Int×Int×Int×(List Int)×(List (List Int))×Int)
abbrev Zm:=((List Sx)×xx×fx×Bool×List (List UInt8))
abbrev Ya27:=(Int×Int×sI×Int×(List Int)×(List (List Int))×Int)
abbrev Ya28:=(sI×Int×Int×Int×(List Int)×(List (List Int))×Int)
abbrev Ya29:=(Int×Int×Int×(List Int)×(List (List Int))×Int)
abbrev WG:=(Int×xx×fx×Bool×List (List UInt8))
abbrev Zl:=(Sx×xx×fx×Bool×List (List UInt8))
abbrev abs:=((Int×Int)×qb×(Bool×List Sx)×b9×List (List UInt8))
abbrev Kw:=(Sx×qK×List jD)
abbrev CO:=(vI×gB×Bool)
abbrev Zj:=((Sx×Int×Int×Int)×qK×List jD)
abbrev abr:=((Int×Int)×xx×fx×Bool×List (List UInt8))
abbrev abq:=(eW×xx×fx×Bool×List (List UInt8))
abbrev WF:=(xx×fx×QN×List Sx)
abbrev abp:=(Xp×xx×fx×Bool×List (List UInt8))
abbrev Ya42:=(sI×sI×sI×Int×Int)
abbrev Zi:=((List Sx)×qK×List jD)
abbrev aU {α:Type} (l:List α):Int:=aN (ak l)
abbrev cw (n:Int):Int:=be .i64 (n+1)
abbrev aD {R α:Type} (x:α):Option (R⊕α):=aa (bZ x)
abbrev cK {R α:Type} (x:R):Option (R⊕α):=aa (oh x)
abbrev bF {R:Type} (T:Ty) (l:List T.den) (j:Int) (k:T.den->Option R):Option R:=chk (fD j (ak l)) λ_=>lt (aH (T:=T) l j) k
abbrev kj {R:Type} (T:Ty) (l:List T.den) (j:Int) (k:T.den->Option R):Option R:=chk (fD j (ak l)) λ_=>chk (fD j (ak l)) λ_=>lt (aH (T:=T) l j) k
abbrev vP {R α:Type} (j:Int) (l:List α) (k:Option R):Option R:=chk (fD j (ak l)) λ_=>k
abbrev bA {R:Type} (b:Bool) (k:Option R):Option R:=chk b λ_=>k
abbrev bc {R:Type} (a b:Int) (t f:Option R):Option R:=bcase (decide (a=b)) t f
abbrev iL {R:Type} (a b:Int) (t f:Option R):Option R:=bcase (!decide (a=b)) t f
abbrev bu {R:Type} (a b:Int) (t f:Option R):Option R:=bcase (fG a b) t f
abbrev jC {R:Type} (a b:Int) (t f:Option R):Option R:=bcase (cR a b) t f
def ck {R:Type} (b:Bool) (k:Option R):Option R:=chk b λ_=>chk b λ_=>k
def dS (s:Sx):Sx:=ne (Sx.op s,Sx.line s,Sx.name s,Sx.arg s,Sx.index s,dQ (Xp.op (Sx.expr s),Xp.n (Sx.expr s),Xp.name (Sx.expr s),Xp.l (Sx.expr s)),Sx.body s,Sx.els s)
def jY (x:Unit):Option b9:=
 (aa ([[118,97,114],[118,111,108,97,116,105,108,101],[109,117,116,101,120],[114,119,108,111,99,107],[99,111,110,100],[102,117,116,117,114,101],[116,104,114,101,97,100],[105,102],[101,108,115,101],[119,104,105,108,101],[108,111,99,107],[114,101,97,100],[119,114,105,116,101],[116,114,97,110,115,97,99,116,105,111,110],[97,116,111,109,105,99],[119,97,105,116],[110,111,116,105,102,121],[110,111,116,105,102,121,97,108,108],[115,112,97,119,110],[106,111,105,110],[115,101,116],[103,101,116]]))
def jp (x:List UInt8):Option (Bool):=
 (obind (jY ()) λJ=>(iter (σ:=Int) (λI=>(bu I (aU J) (bF (.str) J I λM=>(bcase (decide ((M:List UInt8)=x)) (aD ah) (cK (cw I)))) (aD ai))) 0))
def kO (x:Int):Option (Bool):=
 (jn (α:=Bool) (jC 97 x (jC x 122 (aD ah) (jC 65 x (aD (cR x 90)) (aD ai))) (jC 65 x (aD (cR x 90)) (aD ai))) λx1=>(aa x1))
def qw (x:Int):Option (Bool):=
 (jn (α:=Bool) (jC 48 x (aD (cR x 57)) (aD ai)) λx1=>(aa x1))
def oN (x:Int):Option (Bool):=
 (jn (α:=Bool) (obind (kO x) λJ=>(bcase J (aD ah) (obind (qw x) λI=>(bcase I (aD ah) (aD (decide ((x:Int)=95))))))) λx1=>(aa x1))
def eS (x:List UInt8):Option (Bool):=
 (jn (α:=Bool) (bu (aU x) 1 (aD ah) (bu 12 (aU x) (aD ah) (vP 0 x (obind (kO (yW x 0)) λU=>(bcase (!U) (aD ah) (obind (jp x) λM=>(aD M))))))) λx1=>(bcase x1 (aa ai) (iter (σ:=Int) (λI=>(bu I (aU x) (vP I x (obind (oN (yW x I)) λJ=>(bcase (!J) (aD ai) (cK (cw I))))) (aD ah))) 0)))
def fH (x:Bool):Option (Int):=
 (bcase x (aa 1) (aa 0))
def sU (x:Int×Int):Option (Int×Bool):=
 (bc x.1 4 (aa ((be .i64 (0-x.2)),ah)) (bc x.1 5 (obind (fH (decide ((x.2:Int)=0))) λI=>(aa (I,ah))) (aa (0,ai))))
def rh (x:Int×Int×Int):Option (Int×Bool):=
 (bc x.1 6 (aa ((be .i64 (x.2.1+x.2.2)),ah)) (bc x.1 7 (aa ((be .i64 (x.2.1-x.2.2)),ah)) (bc x.1 8 (aa ((be .i64 (x.2.1*x.2.2)),ah)) (bc x.1 9 (bc x.2.2 0 (aa (0,ah)) (bA (!decide ((x.2.2:Int)=0)) (aa ((be .i64 (Int.tdiv x.2.1 x.2.2)),ah)))) (bc x.1 10 (bc x.2.2 0 (aa (0,ah)) (bA (!decide ((x.2.2:Int)=0)) (aa ((p_ x.2.1 x.2.2),ah)))) (bc x.1 11 (obind (fH (decide ((x.2.1:Int)=x.2.2))) λy1=>(aa (y1,ah))) (bc x.1 12 (obind (fH (!decide ((x.2.1:Int)=x.2.2))) λy2=>(aa (y2,ah))) (bc x.1 13 (obind (fH (fG x.2.1 x.2.2)) λy3=>(aa (y3,ah))) (bc x.1 14 (obind (fH (cR x.2.1 x.2.2)) λy4=>(aa (y4,ah))) (bc x.1 15 (obind (fH (fG x.2.2 x.2.1)) λy5=>(aa (y5,ah))) (bc x.1 16 (obind (fH (cR x.2.2 x.2.1)) λZ=>(aa (Z,ah))) (bc x.1 17 (jn (α:=Int×Bool) (iL x.2.1 0 (obind (fH (!decide ((x.2.2:Int)=0))) λY=>(aD (Y,ah))) (obind (fH ai) λU=>(aD (U,ah)))) λx7=>(aa x7)) (bc x.1 18 (jn (α:=Int×Bool) (iL x.2.1 0 (obind (fH ah) λJ=>(aD (J,ah))) (obind (fH (!decide ((x.2.2:Int)=0))) λI=>(aD (I,ah)))) λM=>(aa M)) (aa (0,ai)))))))))))))))
def qu (x:Int×Int):Option (Int):=
 (bu x.2 1 (aa 0) (bA (!decide ((x.2:Int)=0)) (jn (α:=Int) (bu (p_ x.1 x.2) 0 (aD (be .i64 ((p_ x.1 x.2)+x.2))) (aD (p_ x.1 x.2))) λx1=>(aa x1))))
def lU (x:Int):Option (Int):=
 (jn (α:=Bool) (bc x 1 (aD ah) (aD (decide ((x:Int)=2)))) λx1=>(bcase x1 (aa 0) (jn (α:=Bool) (jC 3 x (aD (cR x 5)) (aD ai)) λJ=>(bcase J (aa 1) (jn (α:=Bool) (jC 6 x (aD (cR x 18)) (aD ai)) λI=>(bcase I (aa 2) (aa (-1))))))))
def lE (rr02_ShapedExpr:Xp->Option (Bool)) (x:Xp):Option (Bool):=
 (jn (α:=Bool×Xp) (bc (Xp.op x) 2 (aD (ah,dQ ((Xp.op x),(Xp.n x),(Xp.name x),(Xp.l x)))) (aD ((decide (((Xp.op x):Int)=3)),dQ ((Xp.op x),(Xp.n x),(Xp.name x),(Xp.l x))))) λx1=>(jn (α:=Bool×Xp) (obind (lU (Xp.op x1.2)) λZ=>(iL Z (aN (ak (Xp.l x1.2))) (aD (ah,dQ ((Xp.op x1.2),(Xp.n x1.2),(Xp.name x1.2),(Xp.l x1.2)))) (bcase ((x1.1==(!decide (((Xp.name x1.2):List UInt8)=([])))) !=ah) (aD (ah,dQ ((Xp.op x1.2),(Xp.n x1.2),(Xp.name x1.2),(Xp.l x1.2)))) (bcase x1.1 (obind (eS (Xp.name x1.2)) λY=>(bcase (!Y) (aD (ah,dQ ((Xp.op x1.2),(Xp.n x1.2),(Xp.name x1.2),(Xp.l x1.2)))) (bu (Xp.n x1.2) 0 (aD (ah,dQ ((Xp.op x1.2),(Xp.n x1.2),(Xp.name x1.2),(Xp.l x1.2)))) (iL (Xp.op x1.2) 1 (aD ((!decide (((Xp.n x1.2):Int)=0)),dQ ((Xp.op x1.2),(Xp.n x1.2),(Xp.name x1.2),(Xp.l x1.2)))) (aD (ai,dQ ((Xp.op x1.2),(Xp.n x1.2),(Xp.name x1.2),(Xp.l x1.2)))))))) (bu (Xp.n x1.2) 0 (aD (ah,dQ ((Xp.op x1.2),(Xp.n x1.2),(Xp.name x1.2),(Xp.l x1.2)))) (iL (Xp.op x1.2) 1 (aD ((!decide (((Xp.n x1.2):Int)=0)),dQ ((Xp.op x1.2),(Xp.n x1.2),(Xp.name x1.2),(Xp.l x1.2)))) (aD (ai,dQ ((Xp.op x1.2),(Xp.n x1.2),(Xp.name x1.2),(Xp.l x1.2)))))))))) λJ=>(bcase J.1 (aa ai) (iter (σ:=Int×Xp) (λI=>(bu I.1 (aN (ak (Xp.l I.2))) (bF (.ex) (Xp.l I.2) I.1 λM=>(obind (rr02_ShapedExpr M) λU=>(bcase (!U) (aD ai) (cK ((cw I.1),dQ ((Xp.op I.2),(Xp.n I.2),(Xp.name I.2),(Xp.l I.2))))))) (aD ah))) (0,dQ ((Xp.op J.2),(Xp.n J.2),(Xp.name J.2),(Xp.l J.2)))))))
def gQ:Nat->Xp->Option (Bool)
 |0,_=>af
 |n+1,x=>lE (gQ n) x
theorem rq (n:Nat) (x:Xp):gQ (n+1) x=lE (gQ n) x:=rfl
def iM (x:Xp):Option (Bool):=gQ fuel x
def oM (x:Xp):Option (Bool):=
 (jn (α:=Bool) (bc (Xp.op x) 0 (bc (Xp.n x) 0 (bcase (decide (((Xp.name x):List UInt8)=([]))) (aD (decide (((aN (ak (Xp.l x))):Int)=0))) (aD ai)) (aD ai)) (aD ai)) λx1=>(aa x1))
def jL (rr02_ShapedStmt:Sx->Option (Bool)) (rr02_ShapedStmts:(List Sx)->Option (Bool)) (x:Sx):Option (Bool):=
 (jn (α:=Bool×Sx) (bu (Sx.op x) 1 (aD (ah,dS x)) (aD ((fG 15 (Sx.op x)),dS x))) λx1=>(bcase x1.1 (aa ai) (jn (α:=Bool×Sx) (bc (Sx.op x1.2) 2 (aD (ah,dS x1.2)) (bc (Sx.op x1.2) 3 (aD (ah,dS x1.2)) (bc (Sx.op x1.2) 7 (aD (ah,dS x1.2)) (aD ((decide (((Sx.op x1.2):Int)=8)),dS x1.2))))) λY=>(jn (α:=Bool×Sx) (bcase Y.1 (bcase (!decide (((Sx.name Y.2):List UInt8)=([]))) (aD (ah,dS Y.2)) (bcase (!Y.1) (obind (eS (Sx.name Y.2)) λy4=>(aD ((!y4),dS Y.2))) (aD (ai,dS Y.2)))) (bcase (!Y.1) (obind (eS (Sx.name Y.2)) λy5=>(aD ((!y5),dS Y.2))) (aD (ai,dS Y.2)))) λU=>(bcase U.1 (aa ai) (jn (α:=Bool×Sx) (bc (Sx.op U.2) 15 (obind (eS (Sx.arg U.2)) λy7=>(bcase (!y7) (aD (ah,dS U.2)) (iL (Sx.op U.2) 15 (aD ((!decide (((Sx.arg U.2):List UInt8)=([]))),dS U.2)) (aD (ai,dS U.2))))) (iL (Sx.op U.2) 15 (aD ((!decide (((Sx.arg U.2):List UInt8)=([]))),dS U.2)) (aD (ai,dS U.2)))) λM=>(bcase M.1 (aa ai) (jn (α:=Bool×Sx) (bu 1 (aN (ak (Sx.index M.2))) (aD (ah,dS M.2)) (iL (Sx.op M.2) 1 (bu 0 (aN (ak (Sx.index M.2))) (aD (ah,dS M.2)) (bc (aN (ak (Sx.index M.2))) 1 (bF (.ex) (Sx.index M.2) 0 λz9=>(obind (iM z9) λy10=>(aD ((!y10),dS M.2)))) (aD (ai,dS M.2)))) (bc (aN (ak (Sx.index M.2))) 1 (bF (.ex) (Sx.index M.2) 0 λz11=>(obind (iM z11) λy12=>(aD ((!y12),dS M.2)))) (aD (ai,dS M.2))))) λx8=>(bcase x8.1 (aa ai) (jn (α:=Bool×Sx) (bc (Sx.op x8.2) 1 (aD (ah,dS x8.2)) (bc (Sx.op x8.2) 2 (aD (ah,dS x8.2)) (bc (Sx.op x8.2) 3 (aD (ah,dS x8.2)) (aD ((decide (((Sx.op x8.2):Int)=14)),dS x8.2))))) λI=>(jn (α:=Bool×Sx) (bcase I.1 (obind (iM (dQ ((Xp.op (Sx.expr I.2)),(Xp.n (Sx.expr I.2)),(Xp.name (Sx.expr I.2)),(Xp.l (Sx.expr I.2))))) λy15=>(bcase (!y15) (aD (ah,dS I.2)) (bcase (!I.1) (obind (oM (dQ ((Xp.op (Sx.expr I.2)),(Xp.n (Sx.expr I.2)),(Xp.name (Sx.expr I.2)),(Xp.l (Sx.expr I.2))))) λy16=>(aD ((!y16),dS I.2))) (aD (ai,dS I.2))))) (bcase (!I.1) (obind (oM (dQ ((Xp.op (Sx.expr I.2)),(Xp.n (Sx.expr I.2)),(Xp.name (Sx.expr I.2)),(Xp.l (Sx.expr I.2))))) λy17=>(aD ((!y17),dS I.2))) (aD (ai,dS I.2)))) λZ=>(bcase Z.1 (aa ai) (jn (α:=Bool×Sx) (jC 2 (Sx.op Z.2) (aD ((cR (Sx.op Z.2) 8),dS Z.2)) (aD (ai,dS Z.2))) λJ=>(jn (α:=Bool×Sx) (bcase (!J.1) (bu 0 (aN (ak (Sx.body J.2))) (aD (ah,dS J.2)) (iL (Sx.op J.2) 2 (aD ((fG 0 (aN (ak (Sx.els J.2)))),dS J.2)) (aD (ai,dS J.2)))) (iL (Sx.op J.2) 2 (aD ((fG 0 (aN (ak (Sx.els J.2)))),dS J.2)) (aD (ai,dS J.2)))) λx19=>(bcase x19.1 (aa ai) (jn (α:=Bool) (obind (rr02_ShapedStmts (Sx.body x19.2)) λy21=>(bcase y21 (obind (rr02_ShapedStmts (Sx.els x19.2)) λy22=>(aD y22)) (aD ai))) λx20=>(aa x20)))))))))))))))))
def je (rr02_ShapedStmt:Sx->Option (Bool)) (rr02_ShapedStmts:(List Sx)->Option (Bool)) (x:List Sx):Option (Bool):=
 (iter (σ:=Int) (λx1=>(bu x1 (aU x) (vP x1 x (obind (rr02_ShapedStmt (aH (T:=.sm) x x1)) λI=>(bcase (!I) (aD ai) (cK (cw x1))))) (aD ah))) 0)
mutual
def d_:Nat->Sx->Option (Bool)
 |0,_=>af
 |n+1,x=>jL (d_ n) (dw n) x
def dw:Nat->(List Sx)->Option (Bool)
 |0,_=>af
 |n+1,x=>je (d_ n) (dw n) x
end
theorem xU (n:Nat) (x:Sx):d_ (n+1) x=jL (d_ n) (dw n) x:=rfl
theorem xr (n:Nat) (x:List Sx):dw (n+1) x=je (d_ n) (dw n) x:=rfl
def m8 (x:List Sx):Option (Bool):=dw fuel x
def jJ (x:Int×Int×(List UInt8)×Int×Int×List UInt8):Option (Bool):=
 (jn (α:=Bool×Int×Int×(List UInt8)×Int×Int×List UInt8) (bu x.1 1 (aD (ah,x)) (bu 6 x.1 (aD (ah,x)) (obind (eS x.p2) λM=>(bcase (!M) (aD (ah,x)) (bu x.p3 0 (aD (ah,x)) (iL x.1 1 (aD ((!decide ((x.p3:Int)=0)),x)) (aD (ai,x)))))))) λx1=>(bcase x1.1 (aa ai) (jn (α:=Bool×Int×Int×(List UInt8)×Int×Int×List UInt8) (bc x1.2.1 5 (obind (eS x1.q6) λJ=>(bcase (!J) (aD (ah,x1.2)) (iL x1.2.1 5 (aD ((!decide ((x1.q6:List UInt8)=([]))),x1.2)) (aD (ai,x1.2))))) (iL x1.2.1 5 (aD ((!decide ((x1.q6:List UInt8)=([]))),x1.2)) (aD (ai,x1.2)))) λI=>(bcase I.1 (aa ai) (jn (α:=Bool) (bu (-9223372036854775808) I.p5 (bc I.p5 0 (aD ah) (bc I.2.1 1 (aD ah) (aD (decide ((I.2.1:Int)=2))))) (aD ai)) λU=>(aa U))))))
def o7 (x:qZ×List qY):Option (Bool):=
 (iter (σ:=Int×qZ×List qY) (λx1=>(bu x1.1 (aU x1.2.1) (bF Fj x1.2.1 x1.1 λz2=>(obind (jJ z2) λy3=>(bcase (!y3) (aD ai) (cK ((cw x1.1),x1.2))))) (obind (iter (σ:=Int×qZ×List qY) (λJ=>(bu J.1 (aU J.2.2) (bF rN J.2.2 J.1 λz5=>(iter (σ:=Int×(qZ×List qY)×(List UInt8)×Int×b9×List Sx) (λI=>(bu I.1 (aU I.p4) (bF (.str) I.p4 I.1 λZ=>(obind (eS Z) λy8=>(bcase (!y8) (aD (bZ ai)) (cK ((cw I.1),I.2))))) (obind (jn (α:=Bool×qZ×List qY) (obind (eS I.p2) λU=>(bcase (!U) (aD (ah,I.2.1)) (obind (m8 I.q5) λM=>(aD ((!M),I.2.1))))) λY=>(bcase Y.1 (aD ai) (cK ((cw J.1),Y.2)))) λr=>aa (bZ r)))) (0,J.2,z5))) (aD (fG 0 (aU J.2.2))))) (0,x1.2)) λr=>aa (bZ r)))) (0,x))
def iG (x:b9×List UInt8):Option (Int):=
 (iter (σ:=Int) (λx1=>(bu x1 (aU x.1) (bF (.str) x.1 x1 λI=>(bcase (decide ((I:List UInt8)=x.2)) (aD x1) (cK (cw x1)))) (aD (-1)))) 0)
def gP (x:qZ×List UInt8):Option (Int):=
 (iter (σ:=Int) (λx1=>(bu x1 (aU x.1) (bF Fj x.1 x1 λI=>(bcase (decide ((I.2.2.1:List UInt8)=x.2)) (aD x1) (cK (cw x1)))) (aD (-1)))) 0)
def gA (x:(List qY)×List UInt8):Option (Int):=
 (iter (σ:=Int) (λx1=>(bu x1 (aU x.1) (bF rN x.1 x1 λI=>(bcase (decide ((I.1:List UInt8)=x.2)) (aD x1) (cK (cw x1)))) (aD (-1)))) 0)
def o6 (x:(qZ×List qY)×Int×List UInt8):Option (Int):=
 (jn (α:=Bool×qZ×List qY) (jC 0 x.2.1 (bu x.2.1 (aU x.1.2) (bF rN x.1.2 x.2.1 λZ=>(obind (iG (Z.2.2.1,x.2.2)) λy3=>(aD ((cR 0 y3),x.1)))) (aD (ai,x.1))) (aD (ai,x.1))) λx1=>(bcase x1.1 (aa 8) (obind (gP (x1.2.1,x.2.2)) λJ=>(bu J 0 (obind (gA (x1.2.2,x.2.2)) λy5=>(jC 0 y5 (aa 7) (aa 0))) (vP J x1.2.1 (lt ((aH (T:=Fj) x1.2.1 J).1) λI=>(bc I 1 (bF Fj x1.2.1 J λY=>(iL Y.2.2.2.1 0 (aa 2) (aa 1))) (bc I 2 (aa 1) (jn (α:=Bool×qZ×List qY) (bc I 3 (aD ((decide ((I:Int)=3)),x1.2)) (bc I 4 (aD ((decide ((I:Int)=4)),x1.2)) (bc I 5 (aD ((decide ((I:Int)=5)),x1.2)) (aD ((decide ((I:Int)=6)),x1.2))))) λM=>(bcase M.1 (bF Fj M.2.1 J λU=>(aa U.1)) (aa 9)))))))))))
def gk (x:(qZ×List qY)×Int×(List UInt8)×Int×Int):Option (Int):=
 (obind (o6 (x.1,x.2.1,x.p2)) λI=>(bc I 0 (aa 5) (jn (α:=Bool) (iL I x.p3 (aD (!decide ((I:Int)=x.q4))) (aD ai)) λJ=>(bcase J (aa 6) (aa 0)))))
def s_ (rr04_Nodes:Xp->Option (Int×Int)) (x:Xp):Option (Int×Int):=
 (iter (σ:=(Int×Int×Int)×Xp) (λx1=>(bu x1.1.2.2 (aN (ak (Xp.l x1.2))) (bF (.ex) (Xp.l x1.2) x1.1.2.2 λJ=>(obind (rr04_Nodes J) λI=>(cK (((be .i64 (x1.1.1+I.1)),(jR x1.1.2.1 I.2),(cw x1.1.2.2)),dQ ((Xp.op x1.2),(Xp.n x1.2),(Xp.name x1.2),(Xp.l x1.2)))))) (aD (x1.1.1,(cw x1.1.2.1))))) ((1,0,0),dQ ((Xp.op x),(Xp.n x),(Xp.name x),(Xp.l x))))
def mM:Nat->Xp->Option (Int×Int)
 |0,_=>af
 |n+1,x=>s_ (mM n) x
theorem w7 (n:Nat) (x:Xp):mM (n+1) x=s_ (mM n) x:=rfl
def Au (x:Xp):Option (Int×Int):=mM fuel x
def s9 (rr04_names:((qZ×List qY)×Int×Xp)->Option (Int)) (x:(qZ×List qY)×Int×Xp):Option (Int):=
 (jn (α:=Int×(qZ×List qY)×Xp) (bc (Xp.op x.2.2) 2 (obind (gk (x.1,x.2.1,(Xp.name x.2.2),8,1)) λZ=>(aD (Z,x.1,dQ ((Xp.op x.2.2),(Xp.n x.2.2),(Xp.name x.2.2),(Xp.l x.2.2))))) (bc (Xp.op x.2.2) 3 (obind (gk (x.1,x.2.1,(Xp.name x.2.2),2,2)) λY=>(aD (Y,x.1,dQ ((Xp.op x.2.2),(Xp.n x.2.2),(Xp.name x.2.2),(Xp.l x.2.2))))) (aD (0,x.1,dQ ((Xp.op x.2.2),(Xp.n x.2.2),(Xp.name x.2.2),(Xp.l x.2.2)))))) λx1=>(iter (σ:=(Int×Int)×(qZ×List qY)×Xp) (λI=>(jn (α:=Bool×(qZ×List qY)×Xp) (bu I.1.2 (aN (ak (Xp.l I.2.2))) (aD ((decide ((I.1.1:Int)=0)),I.2.1,dQ ((Xp.op I.2.2),(Xp.n I.2.2),(Xp.name I.2.2),(Xp.l I.2.2)))) (aD (ai,I.2.1,dQ ((Xp.op I.2.2),(Xp.n I.2.2),(Xp.name I.2.2),(Xp.l I.2.2))))) λJ=>(bcase J.1 (bF (.ex) (Xp.l J.2.2) I.1.2 λM=>(obind (rr04_names (J.2.1,x.2.1,M)) λU=>(cK ((U,(cw I.1.2)),J.2.1,dQ ((Xp.op J.2.2),(Xp.n J.2.2),(Xp.name J.2.2),(Xp.l J.2.2)))))) (aD I.1.1)))) ((x1.1,0),x1.2.1,dQ ((Xp.op x1.2.2),(Xp.n x1.2.2),(Xp.name x1.2.2),(Xp.l x1.2.2)))))
def mL:Nat->((qZ×List qY)×Int×Xp)->Option (Int)
 |0,_=>af
 |n+1,x=>s9 (mL n) x
theorem wZ (n:Nat) (x:(qZ×List qY)×Int×Xp):mL (n+1) x=s9 (mL n) x:=rfl
def At (x:(qZ×List qY)×Int×Xp):Option (Int):=mL fuel x
def lQ (x:(qZ×List qY)×Int×Xp):Option (Int):=
 (obind (iM (dQ ((Xp.op x.2.2),(Xp.n x.2.2),(Xp.name x.2.2),(Xp.l x.2.2)))) λU=>(bcase (!U) (aa 3) (obind (Au (dQ ((Xp.op x.2.2),(Xp.n x.2.2),(Xp.name x.2.2),(Xp.l x.2.2)))) λJ=>(jn (α:=Bool×(qZ×List qY)×Xp) (bu 24 J.1 (aD (ah,x.1,dQ ((Xp.op x.2.2),(Xp.n x.2.2),(Xp.name x.2.2),(Xp.l x.2.2)))) (aD ((fG 6 J.2),x.1,dQ ((Xp.op x.2.2),(Xp.n x.2.2),(Xp.name x.2.2),(Xp.l x.2.2))))) λI=>(bcase I.1 (aa 2) (obind (At (I.2.1,x.2.1,dQ ((Xp.op I.2.2),(Xp.n I.2.2),(Xp.name I.2.2),(Xp.l I.2.2)))) λM=>(aa M)))))))
def cS (x:Bool):Option (Int):=
 (bcase x (aa 7) (aa 0))
def iF (x:Int×Int):Option (Int):=
 (iL x.1 0 (aa x.1) (aa x.2))
def dK (x:(Int×Int×List UInt8)×qb×(Bool×List Sx)×b9×List (List UInt8)):Option (Bool×qb×(Bool×List Sx)×b9×List (List UInt8)):=
 (iter (σ:=Int×qb×(Bool×List Sx)×b9×List (List UInt8)) (λx1=>(bu x1.1 (aU x1.p2.2) (kj (.sm) x1.p2.2 x1.1 λI=>(jn (α:=Bool×qb×(Bool×List Sx)×b9×List (List UInt8)) (bc (Sx.op I) x.1.1 (bcase (decide ((x.1.2.2:List UInt8)=([]))) (aD (ah,x1.2)) (aD ((decide (((Sx.name I):List UInt8)=x.1.2.2)),x1.2))) (bc (Sx.op I) x.1.2.1 (bcase (decide ((x.1.2.2:List UInt8)=([]))) (aD (ah,x1.2)) (aD ((decide (((Sx.name I):List UInt8)=x.1.2.2)),x1.2))) (aD (ai,x1.2)))) λJ=>(bcase J.1 (aD (ah,J.2)) (cK ((cw x1.1),J.2))))) (aD (ai,x1.2)))) (0,x.2))
def lP (x:Sx×qb×(Bool×List Sx)×b9×List (List UInt8)):Option (Int×qb×(Bool×List Sx)×b9×List (List UInt8)):=
 (obind (dK ((7,7,[]),x.2)) λy1=>(bA (aA (ak x.q4) (ak y1.q4)&&(aA (ak x.p3) (ak y1.p3)&&(((x.p2.1==y1.p2.1)&&ah)&&aA (ak x.p2.2) (ak y1.p2.2)&&ah))) (obind (dK ((8,8,[]),y1.2)) λy2=>(bA (aA (ak y1.q4) (ak y2.q4)&&(aA (ak y1.p3) (ak y2.p3)&&(((y1.p2.1==y2.p2.1)&&ah)&&aA (ak y1.p2.2) (ak y2.p2.2)&&ah))) (obind (dK ((3,3,[]),y2.2)) λy3=>(bA (aA (ak y2.q4) (ak y3.q4)&&(aA (ak y2.p3) (ak y3.p3)&&(((y2.p2.1==y3.p2.1)&&ah)&&aA (ak y2.p2.2) (ak y3.p2.2)&&ah))) (bc (Sx.op x.1) 1 (bc (aN (ak (Sx.index x.1))) 0 (obind (gk ((x.2.1.1,x.2.1.2.1),x.2.1.2.2,(Sx.name x.1),8,1)) λy4=>(obind (lQ ((x.2.1.1,x.2.1.2.1),x.2.1.2.2,dQ ((Xp.op (Sx.expr x.1)),(Xp.n (Sx.expr x.1)),(Xp.name (Sx.expr x.1)),(Xp.l (Sx.expr x.1))))) λy5=>(obind (iF (y4,y5)) λy6=>(aa (y6,y3.2))))) (obind (gk ((x.2.1.1,x.2.1.2.1),x.2.1.2.2,(Sx.name x.1),2,2)) λy7=>(bF (.ex) (Sx.index x.1) 0 λz8=>(obind (lQ ((x.2.1.1,x.2.1.2.1),x.2.1.2.2,z8)) λy9=>(obind (lQ ((x.2.1.1,x.2.1.2.1),x.2.1.2.2,dQ ((Xp.op (Sx.expr x.1)),(Xp.n (Sx.expr x.1)),(Xp.name (Sx.expr x.1)),(Xp.l (Sx.expr x.1))))) λy10=>(obind (iF (y9,y10)) λy11=>(obind (iF (y7,y11)) λy12=>(aa (y12,y3.2))))))))) (jn (α:=Bool×qb×(Bool×List Sx)×Sx×(qZ×List qY)×b9×List (List UInt8)) (bc (Sx.op x.1) 2 (aD ((decide (((Sx.op x.1):Int)=2)),y3.2.1,y3.p2,dS x.1,(x.2.1.1,x.2.1.2.1),y3.q3)) (aD ((decide (((Sx.op x.1):Int)=3)),y3.2.1,y3.p2,dS x.1,(x.2.1.1,x.2.1.2.1),y3.q3))) λM=>(bcase M.1 (obind (lQ (M.p4,x.2.1.2.2,dQ ((Xp.op (Sx.expr M.p3)),(Xp.n (Sx.expr M.p3)),(Xp.name (Sx.expr M.p3)),(Xp.l (Sx.expr M.p3))))) λy14=>(aa (y14,M.2.1,M.p2,M.q5))) (bc (Sx.op x.1) 4 (jn (α:=Int×qb×(Bool×List Sx)×b9×List (List UInt8)) (obind (gk (M.p4,x.2.1.2.2,(Sx.name M.p3),3,3)) λy16=>(bcase y1.1 (obind (cS ah) λy17=>(obind (iF (y16,y17)) λy18=>(aD (y18,M.2.1,M.p2,M.q5)))) (obind (dK ((4,4,(Sx.name M.p3)),M.2.1,M.p2,M.q5)) λy19=>(bA (aA (ak M.q6) (ak y19.q4)&&(aA (ak M.p5) (ak y19.p3)&&(((M.p2.1==y19.p2.1)&&ah)&&aA (ak M.p2.2) (ak y19.p2.2)&&ah))) (obind (cS y19.1) λy20=>(obind (iF (y16,y20)) λy21=>(aD (y21,y19.2)))))))) λx15=>(aa x15)) (jn (α:=Bool×qb×(Bool×List Sx)×Sx×(qZ×List qY)×b9×List (List UInt8)) (bc (Sx.op x.1) 5 (aD ((decide (((Sx.op x.1):Int)=5)),M.2.1,M.p2,dS M.p3,M.q4)) (aD ((decide (((Sx.op x.1):Int)=6)),M.2.1,M.p2,dS M.p3,M.q4))) λJ=>(bcase J.1 (jn (α:=Int×qb×(Bool×List Sx)×b9×List (List UInt8)) (obind (gk (J.p4,x.2.1.2.2,(Sx.name J.p3),4,4)) λy24=>(bcase y1.1 (obind (cS ah) λy25=>(obind (iF (y24,y25)) λy26=>(aD (y26,J.2.1,J.p2,J.q5)))) (obind (dK ((5,6,(Sx.name J.p3)),J.2.1,J.p2,J.q5)) λy27=>(bA (aA (ak J.q6) (ak y27.q4)&&(aA (ak J.p5) (ak y27.p3)&&(((J.p2.1==y27.p2.1)&&ah)&&aA (ak J.p2.2) (ak y27.p2.2)&&ah))) (obind (cS y27.1) λy28=>(obind (iF (y24,y28)) λy29=>(aD (y29,y27.2)))))))) λx23=>(aa x23)) (bc (Sx.op x.1) 7 (obind (cS y1.1) λy30=>(aa (y30,J.2.1,J.p2,J.q5))) (bc (Sx.op x.1) 8 (jn (α:=Int×qb×(Bool×List Sx)×b9×List (List UInt8)) (bcase y1.1 (obind (cS ah) λy32=>(aD (y32,J.2.1,J.p2,J.q5))) (obind (cS y2.1) λy33=>(aD (y33,J.2.1,J.p2,J.q5)))) λx31=>(aa x31)) (jn (α:=Bool×qb×(Bool×List Sx)×Sx×(qZ×List qY)×b9×List (List UInt8)) (bc (Sx.op x.1) 9 (aD ((decide (((Sx.op x.1):Int)=9)),J.2.1,J.p2,dS J.p3,J.q4)) (bc (Sx.op x.1) 10 (aD ((decide (((Sx.op x.1):Int)=10)),J.2.1,J.p2,dS J.p3,J.q4)) (aD ((decide (((Sx.op x.1):Int)=11)),J.2.1,J.p2,dS J.p3,J.q4)))) λI=>(bcase I.1 (obind (gk (I.p4,x.2.1.2.2,(Sx.name I.p3),5,5)) λy35=>(iL y35 0 (aa (y35,I.2.1,I.p2,I.q5)) (obind (gP (I.p4.1,(Sx.name I.p3))) λy36=>(bF Fj I.p4.1 y36 λz37=>(obind (dK ((4,4,z37.2.2.2.2.2),I.2.1,I.p2,I.q5)) λy38=>(bA (aA (ak I.q6) (ak y38.q4)&&(aA (ak I.p5) (ak y38.p3)&&(((I.p2.1==y38.p2.1)&&ah)&&aA (ak I.p2.2) (ak y38.p2.2)&&ah))) (jn (α:=Int×qb×(Bool×List Sx)×b9×List (List UInt8)) (bcase y1.1 (obind (cS ah) λy40=>(aD (y40,y38.2))) (bcase (!y38.1) (obind (cS ah) λy41=>(aD (y41,y38.2))) (bc (Sx.op I.p3) 9 (obind (cS y2.1) λy42=>(aD (y42,y38.2))) (obind (cS ai) λy43=>(aD (y43,y38.2)))))) λx39=>(aa x39)))))))) (bc (Sx.op x.1) 12 (obind (gk (I.p4,x.2.1.2.2,(Sx.name I.p3),7,7)) λy44=>(iL y44 0 (aa (y44,I.2.1,I.p2,I.q5)) (obind (gA (I.p4.2,(Sx.name I.p3))) λy45=>(jn (α:=Bool×qb×(Bool×List Sx)×Sx×b9×List (List UInt8)) (bcase y1.1 (aD (ah,I.2.1,I.p2,dS I.p3,I.q5)) (bcase y2.1 (aD (ah,I.2.1,I.p2,dS I.p3,I.q5)) (bcase y3.1 (aD (ah,I.2.1,I.p2,dS I.p3,I.q5)) (bc y45 x.2.1.2.2 (aD (ah,I.2.1,I.p2,dS I.p3,I.q5)) (aD ((decide ((y45:Int)=0)),I.2.1,I.p2,dS I.p3,I.q5)))))) λU=>(bcase U.1 (aa (7,U.2.1,U.p2,U.q4)) (obind (iG (U.p4,(Sx.name U.p3))) λy47=>(jC 0 y47 (aa (8,U.2.1,U.p2,U.q4)) (bA (a_ (ak U.p4+ak ([(Sx.name U.p3)])) 16) (aa (0,U.2.1,U.p2,(U.p4++([(Sx.name U.p3)])),U.q5)))))))))) (bc (Sx.op x.1) 13 (jn (α:=Int×qb×(Bool×List Sx)×b9×List (List UInt8)) (obind (gk (I.p4,x.2.1.2.2,(Sx.name I.p3),7,7)) λy49=>(bcase y1.1 (obind (cS ah) λy50=>(obind (iF (y49,y50)) λy51=>(aD (y51,I.2.1,I.p2,I.q5)))) (bcase y2.1 (obind (cS ah) λy52=>(obind (iF (y49,y52)) λy53=>(aD (y53,I.2.1,I.p2,I.q5)))) (obind (gA (I.p4.2,(Sx.name I.p3))) λy54=>(obind (cS (decide ((y54:Int)=x.2.1.2.2))) λy55=>(obind (iF (y49,y55)) λy56=>(aD (y56,I.2.1,I.p2,I.q5)))))))) λx48=>(aa x48)) (bc (Sx.op x.1) 14 (jn (α:=Int×qb×(Bool×List Sx)×Sx×(qZ×List qY)×b9×List (List UInt8)) (obind (gk (I.p4,x.2.1.2.2,(Sx.name I.p3),6,6)) λy58=>(bcase y1.1 (obind (cS ah) λy59=>(obind (iF (y58,y59)) λy60=>(aD (y60,I.2.1,I.p2,dS I.p3,I.q4)))) (obind (cS y3.1) λy61=>(obind (iF (y58,y61)) λy62=>(aD (y62,I.2.1,I.p2,dS I.p3,I.q4)))))) λZ=>(jn (α:=Int×qb×(Bool×List Sx)×Sx×(qZ×List qY)×b9×List (List UInt8)) (jn (α:=Bool×qb×(Bool×List Sx)×Sx×(qZ×List qY)×b9×List (List UInt8)) (bc Z.1 0 (obind (iG (Z.q6,(Sx.name Z.p3))) λy65=>(aD ((cR 0 y65),Z.2.1,Z.p2,dS Z.p3,Z.q4))) (aD (ai,Z.2.1,Z.p2,dS Z.p3,Z.q4))) λx64=>(bcase x64.1 (aD (8,x64.2.1,x64.p2,dS x64.p3,x64.q4)) (aD (Z.1,x64.2.1,x64.p2,dS x64.p3,x64.q4)))) λY=>(bA (a_ (ak Y.q6+ak ([(Sx.name Y.p3)])) 16) (obind (lQ (Y.p4,x.2.1.2.2,dQ ((Xp.op (Sx.expr Y.p3)),(Xp.n (Sx.expr Y.p3)),(Xp.name (Sx.expr Y.p3)),(Xp.l (Sx.expr Y.p3))))) λy66=>(obind (iF (Y.1,y66)) λy67=>(aa (y67,Y.2.1,Y.p2,Y.p5,(Y.q6++([(Sx.name Y.p3)]))))))))) (obind (gk (I.p4,x.2.1.2.2,(Sx.name I.p3),8,8)) λy68=>(obind (gk (I.p4,x.2.1.2.2,(Sx.arg I.p3),6,6)) λy69=>(obind (cS y1.1) λy70=>(obind (iF (y69,y70)) λy71=>(obind (iF (y68,y71)) λy72=>(aa (y72,I.2.1,I.p2,I.q5))))))))))))))))))))))))))
def lY (rr04_walk_all:((List Sx)×qb×(Bool×List Sx)×b9×List (List UInt8))->Option abs) (x:(List Sx)×qb×(Bool×List Sx)×b9×List (List UInt8)):Option abs:=
 (iter (σ:=Int×qb×(Bool×List Sx)×b9×List (List UInt8)) (λx1=>(bu x1.1 (aU x.1) (bF (.sm) x.1 x1.1 λY=>(obind (lP (dS Y,x1.2)) λU=>(bA (aA (ak x1.q4) (ak x1.q4)&&(aA (ak x1.p3) (ak x1.p3)&&(((x1.p2.1==U.p2.1)&&ah)&&aA (ak x1.p2.2) (ak U.p2.2)&&ah))) (jn (α:=Int×qb×Sx×(Bool×List Sx)×b9×List (List UInt8)) (bu 6 (be .i64 ((aU U.p2.2)+1)) (aD (2,U.2.1,dS Y,U.2.2)) (aD (U.1,U.2.1,dS Y,U.2.2))) λI=>(iL I.1 0 (aD ((I.1,(Sx.line I.p2)),I.2.1,I.q3)) (bA (a_ (ak I.p3.2+ak ([ne (0,0,[],[],([]:List Xp),dQ (0,0,[],([]:List Xp)),([]:List Sx),([]:List Sx))])) 176) (ck (fD (aU I.p3.2) (ak (I.p3.2++([ne (0,0,[],[],([]:List Xp),dQ (0,0,[],([]:List Xp)),([]:List Sx),([]:List Sx))])))) (obind (rr04_walk_all ((Sx.body I.p2),I.2.1,(I.p3.1,(cJ (I.p3.2++([ne (0,0,[],[],([]:List Xp),dQ (0,0,[],([]:List Xp)),([]:List Sx),([]:List Sx))])) (aU I.p3.2) (dS I.p2))),I.q4)) λM=>(bA (aA (ak I.q5) (ak I.q5)&&(aA (ak I.p4) (ak I.p4)&&(((I.p3.1==I.p3.1)&&ah)&&aA (ak (cJ (I.p3.2++([ne (0,0,[],[],([]:List Xp),dQ (0,0,[],([]:List Xp)),([]:List Sx),([]:List Sx))])) (aU I.p3.2) (dS I.p2))) (ak (cJ (I.p3.2++([ne (0,0,[],[],([]:List Xp),dQ (0,0,[],([]:List Xp)),([]:List Sx),([]:List Sx))])) (aU I.p3.2) (dS I.p2)))&&ah))) (jn (α:=(Int×Int)×qb×(Bool×List Sx)×b9×List (List UInt8)) (bc M.1.1 0 (obind (rr04_walk_all ((Sx.els I.p2),M.2)) λZ=>(bA (aA (ak M.q4) (ak M.q4)&&(aA (ak M.p3) (ak M.p3)&&(((M.p2.1==M.p2.1)&&ah)&&aA (ak M.p2.2) (ak M.p2.2)&&ah))) (aD Z))) (aD M)) λJ=>(bA (cR 0 (be .i64 ((aU J.p2.2)-1))&&fG (be .i64 ((aU J.p2.2)-1)) (ak J.p2.2)) (iL J.1.1 0 (aD (J.1,J.2.1,(ai,(dF (aR (be .i64 ((aU J.p2.2)-1))) J.p2.2)),J.q3)) (cK ((cw x1.1),J.2.1,(ai,(dF (aR (be .i64 ((aU J.p2.2)-1))) J.p2.2)),J.q3)))))))))))))) (aD ((0,0),x1.2)))) (0,x.2))
def ii:Nat->((List Sx)×qb×(Bool×List Sx)×b9×List (List UInt8))->Option abs
 |0,_=>af
 |n+1,x=>lY (ii n) x
theorem AH (n:Nat) (x:(List Sx)×qb×(Bool×List Sx)×b9×List (List UInt8)):ii (n+1) x=lY (ii n) x:=rfl
def uv (x:(List Sx)×qb×(Bool×List Sx)×b9×List (List UInt8)):Option abs:=ii fuel x
def ta (rr04_Count:(List Sx)->Option (Int)) (x:List Sx):Option (Int):=
 (iter (σ:=Int×Int) (λx1=>(bu x1.2 (aU x) (vP x1.2 x (lt (Sx.body (aH (T:=.sm) x x1.2)) λJ=>(obind (rr04_Count J) λU=>(vP x1.2 x (lt (Sx.els (aH (T:=.sm) x x1.2)) λI=>(obind (rr04_Count I) λM=>(cK ((be .i64 ((be .i64 (x1.1+U))+M)),(cw x1.2))))))))) (aD x1.1))) ((aU x),0))
def mN:Nat->(List Sx)->Option (Int)
 |0,_=>af
 |n+1,x=>ta (mN n) x
theorem w9 (n:Nat) (x:List Sx):mN (n+1) x=ta (mN n) x:=rfl
def Av (x:List Sx):Option (Int):=mN fuel x
def qv (x:List Zk):Option (Int×Int):=
 (iter (σ:=Int×Int×Int×Int×Int) (λx1=>(bu x1.q4 (aU x) (jn (α:=Int×Int×Int×Int) (bF Fj x x1.q4 λI=>(bA (cR 0 x1.q4&&cR x1.q4 (ak x)) (obind (gP ((dF (aR x1.q4) x),I.p2)) λy4=>(jC 0 y4 (cK (bZ (4,I.2.1))) (bu 4 I.p3 (cK (bZ (2,I.2.1))) (jn (α:=(Int×Int×Int×Int)×Int×Int×(List UInt8)×Int×Int×List UInt8) (jn (α:=Bool×Int×Int×(List UInt8)×Int×Int×List UInt8) (bc I.1 1 (aD ((decide ((I.1:Int)=1)),I)) (aD ((decide ((I.1:Int)=2)),I))) λU=>(bcase U.1 (aD (((be .i64 (x1.1+(jR U.p4 1))),x1.2.1,x1.p2,x1.p3),U.2)) (jn (α:=Bool×Int×Int×(List UInt8)×Int×Int×List UInt8) (bc I.1 3 (aD ((decide ((I.1:Int)=3)),U.2)) (aD ((decide ((I.1:Int)=4)),U.2))) λY=>(bcase Y.1 (aD ((x1.1,(cw x1.2.1),x1.p2,x1.p3),Y.2)) (bc I.1 5 (aD ((x1.1,x1.2.1,(cw x1.p2),x1.p3),Y.2)) (aD ((x1.1,x1.2.1,x1.p2,(cw x1.p3)),Y.2))))))) λJ=>(jn (α:=Bool×Int×Int×(List UInt8)×Int×Int×List UInt8) (bu 12 J.1.1 (aD (ah,J.2)) (bu 4 J.1.2.1 (aD (ah,J.2)) (bu 2 J.1.p2 (aD (ah,J.2)) (aD ((fG 2 J.1.q3),J.2))))) λM=>(bcase M.1 (cK (bZ (2,M.p2))) (bc M.2.1 5 (bA (cR 0 x1.q4&&cR x1.q4 (ak x)) (obind (gP ((dF (aR x1.q4) x),M.q6)) λy9=>(bu y9 0 (cK (bZ (5,M.p2))) (bF Fj x y9 λz10=>(iL z10.1 3 (cK (bZ (6,M.p2))) (aD J.1)))))) (aD J.1)))))))))) λZ=>(cK (Z.1,Z.2.1,Z.p2,Z.q3,(cw x1.q4)))) (aD (0,0)))) (0,0,0,0,0))
def m7 (x:qZ×List qY):Option (Int×Int):=
 (iter (σ:=Int×qZ×List qY) (λx1=>(bu x1.1 (aU x1.2.2) (bF rN x1.2.2 x1.1 λU=>(jn (α:=Bool×(qZ×List qY)×(List UInt8)×Int×b9×List Sx) (obind (gP (x1.2.1,U.1)) λy4=>(jC 0 y4 (aD (ah,x1.2,U)) (bA (cR 0 x1.1&&cR x1.1 (ak x1.2.2)) (obind (gA ((dF (aR x1.1) x1.2.2),U.1)) λy5=>(aD ((cR 0 y5),x1.2,U)))))) λx3=>(bcase x3.1 (aD (4,x3.p3)) (cK ((cw x1.1),x3.2.1))))) (obind (iter (σ:=Int×qZ×List qY) (λM=>(bu M.1 (aU M.2.2) (bF rN M.2.2 M.1 λZ=>(bu 4 (aU Z.p2) (aD (2,Z.2.1)) (iter (σ:=Int×(qZ×List qY)×(List UInt8)×Int×b9×List Sx) (λI=>(bu I.1 (aU I.p4) (bF (.str) I.p4 I.1 λY=>(jn (α:=Bool×(qZ×List qY)×(List UInt8)×Int×b9×List Sx) (obind (gP (I.2.1.1,Y)) λy11=>(jC 0 y11 (aD (ah,I.2)) (obind (gA (I.2.1.2,Y)) λy12=>(jC 0 y12 (aD (ah,I.2)) (bA (cR 0 I.1&&cR I.1 (ak I.p4)) (obind (iG ((dF (aR I.1) I.p4),Y)) λy13=>(aD ((cR 0 y13),I.2)))))))) λJ=>(bcase J.1 (aD (bZ (4,J.p3))) (cK ((cw I.1),J.2))))) (aD (oh ((cw M.1),I.2.1))))) (0,M.2,Z)))) (aD (0,0)))) (0,x1.2)) λr=>aa (bZ r)))) (0,x))
def eV (x:qZ×List qY):Option (Int×Int):=
 (obind (o7 x) λy1=>(bcase (!y1) (aa (3,0)) (obind (qv x.1) λY=>(iL Y.1 0 (aa Y) (bu 4 (aU x.2) (aa (2,0)) (obind (m7 x) λU=>(iL U.1 0 (aa U) (iter (σ:=(Int×Int)×qZ×List qY) (λJ=>(bu J.1.2 (aU J.2.2) (bF rN J.2.2 J.1.2 λz5=>(obind (Av z5.2.2.2) λy6=>(cK (((be .i64 (J.1.1+y6)),(cw J.1.2)),J.2)))) (obind (bu 60 J.1.1 (aa (2,0)) (iter (σ:=Int×(qZ×List qY)×qb×(Bool×List Sx)×b9×List (List UInt8)) (λI=>(bu I.1 (aU I.2.1.2) (bF rN I.2.1.2 I.1 λZ=>(obind (uv (Z.2.2.2,(I.p2.1,I.p2.2.1,I.1),I.q3)) λM=>(bA (aA (ak I.q5) (ak I.q5)&&(aA (ak I.p4) (ak I.p4)&&(((I.p3.1==I.p3.1)&&ah)&&aA (ak I.p3.2) (ak I.p3.2)&&ah))) (iL M.1.1 0 (aD M.1) (cK ((cw I.1),I.2.1,M.2)))))) (aD (0,0)))) (0,J.2,(J.2.1,J.2.2,0),(ah,([]:List Sx)),([]:List (List UInt8)),([]:List (List UInt8))))) λr=>aa (bZ r)))) ((0,0),x)))))))))
def wq (rr06_sites:((Int×Int×List Sx)×List (Int×Int×Int))->Option (Int×List (Int×Int×Int))) (x:(Int×Int×List Sx)×List (Int×Int×Int)):Option (Int×List (Int×Int×Int)):=
 (iter (σ:=(Int×Int)×List (Int×Int×Int)) (λx1=>(bu x1.1.2 (aU x.1.2.2) (vP x1.1.2 x.1.2.2 (lt (Sx.line (aH (T:=.sm) x.1.2.2 x1.1.2)) λI=>(bA (a_ (ak x1.2+ak ([(x.1.1,x1.1.1,I)])) 24) (vP x1.1.2 x.1.2.2 (lt (Sx.body (aH (T:=.sm) x.1.2.2 x1.1.2)) λY=>(obind (rr06_sites ((x.1.1,(cw x1.1.1),Y),(x1.2++([(x.1.1,x1.1.1,I)])))) λJ=>(bA (aA (ak (x1.2++([(x.1.1,x1.1.1,I)]))) (ak (x1.2++([(x.1.1,x1.1.1,I)])))&&ah) (vP x1.1.2 x.1.2.2 (lt (Sx.els (aH (T:=.sm) x.1.2.2 x1.1.2)) λU=>(obind (rr06_sites ((x.1.1,J.1,U),J.2)) λM=>(bA (aA (ak J.2) (ak J.2)&&ah) (cK ((M.1,(cw x1.1.2)),M.2))))))))))))) (aD (x1.1.1,x1.2)))) ((x.1.2.1,0),x.2))
def oS:Nat->((Int×Int×List Sx)×List (Int×Int×Int))->Option (Int×List (Int×Int×Int))
 |0,_=>af
 |n+1,x=>wq (oS n) x
theorem FB (n:Nat) (x:(Int×Int×List Sx)×List (Int×Int×Int)):oS (n+1) x=wq (oS n) x:=rfl
def G7 (x:(Int×Int×List Sx)×List (Int×Int×Int)):Option (Int×List (Int×Int×Int)):=oS fuel x
def jP (x:gq×List UInt8):Option (Int):=
 (iter (σ:=Int) (λx1=>(bu x1 (aU x.1) (bF qc x.1 x1 λI=>(bcase (decide ((I.1:List UInt8)=x.2)) (aD x1) (cK (cw x1)))) (aD (-1)))) 0)
def kN (x:dL×List UInt8):Option (Int):=
 (iter (σ:=Int×gH×gq×(List eW)×b9×b9×List (Int×Int×Int)) (λx1=>(bu x1.1 (aU x1.2.1) (bF ka x1.2.1 x1.1 λI=>(bcase (decide ((I.1:List UInt8)=x.2)) (aD x1.1) (cK ((cw x1.1),x1.2)))) (aD (-1)))) (0,x.1))
def sT (x:qZ×List qY):Option dL:=
 (obind (eV x) λy1=>(iL y1.1 0 (aa (([]:List QM),([]:List ((List UInt8)×Bool)),([]:List eW),([]:List (List UInt8)),([]:List (List UInt8)),([]:List (Int×Int×Int)))) (iter (σ:=Int×(qZ×List qY)×gH×gq×(List eW)×List (List UInt8)) (λU=>(bu U.1 (aU U.2.1.1) (bF Fj U.2.1.1 U.1 λY=>(jn (α:=(qZ×List qY)×gH×gq×(List eW)×List (List UInt8)) (jn (α:=Bool×(qZ×List qY)×Zk×gH×gq×(List eW)×List (List UInt8)) (bc Y.1 1 (aD ((decide ((Y.1:Int)=1)),U.2.1,Y,U.2.2)) (aD ((decide ((Y.1:Int)=2)),U.2.1,Y,U.2.2))) λx5=>(bcase x5.1 (iter (σ:=Int×(qZ×List qY)×Zk×gH×gq×(List eW)×List (List UInt8)) (λJ=>(bu J.1 (jR J.p2.p3 1) (bA (a_ (ak J.p3+ak ([(J.p2.p2,J.1,J.p2.p3,(decide ((J.p2.1:Int)=2)),J.p2.p4)])) 48) (cK ((cw J.1),J.2.1,J.p2,(J.p3++([(J.p2.p2,J.1,J.p2.p3,(decide ((J.p2.1:Int)=2)),J.p2.p4)])),J.q4))) (aD (bZ (J.2.1,J.q3))))) (0,x5.2)) (jn (α:=Bool×(qZ×List qY)×Zk×gH×gq×(List eW)×List (List UInt8)) (bc Y.1 3 (aD ((decide ((Y.1:Int)=3)),x5.2)) (aD ((decide ((Y.1:Int)=4)),x5.2))) λI=>(bcase I.1 (bA (a_ (ak I.p4+ak ([(I.p2.p2,(decide ((I.p2.1:Int)=4)))])) 24) (aD (I.2.1,I.p3,(I.p4++([(I.p2.p2,(decide ((I.p2.1:Int)=4)))])),I.q5))) (bc Y.1 5 (obind (jP (I.p4,I.p2.q5)) λy8=>(bA (a_ (ak I.p5+ak ([(I.p2.p2,y8)])) 24) (aD (I.2.1,I.p3,I.p4,(I.p5++([(I.p2.p2,y8)])),I.q6)))) (bA (a_ (ak I.q6+ak ([I.p2.p2])) 16) (aD (I.2.1,I.p3,I.p4,I.p5,(I.q6++([I.p2.p2])))))))))) λx4=>(cK ((cw U.1),x4)))) (obind (iter (σ:=Int×(qZ×List qY)×gH×gq×(List eW)×b9×b9×List (Int×Int×Int)) (λM=>(bu M.1 (aU M.2.1.2) (bF rN M.2.1.2 M.1 λZ=>(bA (a_ (ak M.p6+ak ([Z.1])) 16) (bF rN M.2.1.2 M.1 λz11=>(obind (G7 ((M.1,0,z11.2.2.2),M.q7)) λy12=>(bA (aA (ak M.q7) (ak M.q7)&&ah) (cK ((cw M.1),M.2.1,M.p2,M.p3,M.p4,M.p5,(M.p6++([Z.1])),y12.2))))))) (aD M.2.2))) (0,U.2.1,U.p2,U.p3,U.p4,U.q5,([]:List (List UInt8)),([]:List (Int×Int×Int)))) λr=>aa (bZ r)))) (0,x,([]:List QM),([]:List ((List UInt8)×Bool)),([]:List eW),([]:List (List UInt8))))))
def oK (x:gH×gq×(List eW)×b9×b9×List (Int×Int×Int)):Option (b9×Bool):=
 (iter (σ:=Int×dL×List (List UInt8)) (λx1=>(bu x1.1 (aU x1.2.1.1) (jn (α:=Int×dL×List (List UInt8)) (bF ka x1.2.1.1 x1.1 λM=>(bA (a_ (ak x1.2.2+ak ([M.1])) 16) (bc M.p2 0 (iL M.2.1 0 (cK (bZ (([]:List (List UInt8)),ai))) (aD ((cw x1.1),x1.2.1,(x1.2.2++([M.1]))))) (jn (α:=Bool×dL×b9×(List UInt8)×Int×Int×Bool×Int) (bu M.p2 1 (aD (ah,x1.2.1,(x1.2.2++([M.1])),M)) (bu 4 M.p2 (aD (ah,x1.2.1,(x1.2.2++([M.1])),M)) (aD ((fG (be .i64 ((aU x1.2.1.1)-x1.1)) M.p2),x1.2.1,(x1.2.2++([M.1])),M)))) λx4=>(bcase x4.1 (cK (bZ (([]:List (List UInt8)),ai))) (iter (σ:=Int×dL×b9×(List UInt8)×Int×Int×Bool×Int) (λJ=>(bu J.1 J.p5 (bF ka J.2.1.1 (be .i64 (x1.1+J.1)) λY=>(jn (α:=Bool×dL×b9×(List UInt8)×Int×Int×Bool×Int) (iL Y.2.1 J.1 (aD (ah,J.2)) (bcase (!decide ((Y.1:List UInt8)=J.p3)) (aD (ah,J.2)) (iL Y.p2 J.p5 (aD (ah,J.2)) (iL Y.q4 J.q7 (aD (ah,J.2)) (aD (Y.p3,J.2)))))) λx7=>(bcase x7.1 (aD (oh (bZ (([]:List (List UInt8)),ai)))) (cK ((cw J.1),x7.2))))) (aD (bZ ((be .i64 (x1.1+J.p5)),J.2.1,J.p2))))) (0,x4.2))))))) λx2=>(cK x2)) (obind (iter (σ:=Int×dL×List (List UInt8)) (λU=>(bu U.1 (aU U.2.1.2.1) (bF qc U.2.1.2.1 U.1 λz9=>(bA (a_ (ak U.2.2+ak ([z9.1])) 16) (cK ((cw U.1),U.2.1,(U.2.2++([z9.1])))))) (obind (iter (σ:=Int×dL×List (List UInt8)) (λI=>(bu I.1 (aU I.2.1.p2) (bF li I.2.1.p2 I.1 λZ=>(bA (a_ (ak I.2.2+ak ([Z.1])) 16) (cK ((cw I.1),I.2.1,(I.2.2++([Z.1])))))) (obind (bA (a_ (ak I.2.2+ak I.2.1.p3) 16) (bA (a_ (ak (I.2.2++I.2.1.p3)+ak I.2.1.p4) 16) (aa (((I.2.2++I.2.1.p3)++I.2.1.p4),ah)))) λr=>aa (bZ r)))) (0,U.2)) λr=>aa (bZ r)))) (0,x1.2)) λr=>aa (bZ r)))) (0,x,([]:List (List UInt8))))
def gO (x:gH×gq×(List eW)×b9×b9×List (Int×Int×Int)):Option (Bool):=
 (jn (α:=Bool×gH×gq×(List eW)×b9×b9×List (Int×Int×Int)) (bu 12 (aU x.1) (aD (ah,x)) (bu 4 (aU x.2.1) (aD (ah,x)) (bu 2 (aU x.p2) (aD (ah,x)) (bu 2 (aU x.p3) (aD (ah,x)) (bu (aU x.p4) 1 (aD (ah,x)) (bu 4 (aU x.p4) (aD (ah,x)) (aD ((fG 60 (aU x.q5)),x)))))))) λx1=>(bcase x1.1 (aa ai) (obind (oK x1.2) λy2=>(bcase (!y2.2) (aa ai) (iter (σ:=Int×gH×gq×(List eW)×b9×b9×List (Int×Int×Int)) (λY=>(bu Y.1 (aU y2.1) (jn (α:=Bool×gH×gq×(List eW)×b9×b9×List (Int×Int×Int)) (bF (.str) y2.1 Y.1 λz5=>(obind (eS z5) λy6=>(bcase (!y6) (aD (ah,Y.2)) (bA (cR 0 Y.1&&cR Y.1 (ak y2.1)) (bF (.str) y2.1 Y.1 λz7=>(obind (iG ((dF (aR Y.1) y2.1),z7)) λy8=>(aD ((cR 0 y8),Y.2)))))))) λx4=>(bcase x4.1 (aD ai) (cK ((cw Y.1),x4.2)))) (obind (iter (σ:=Int×gH×gq×(List eW)×b9×b9×List (Int×Int×Int)) (λM=>(bu M.1 (aU M.p3) (bF li M.p3 M.1 λz10=>(jn (α:=Bool×gH×gq×(List eW)×b9×b9×List (Int×Int×Int)) (bu z10.2 0 (aD (ah,M.2)) (jC (aU M.p2) z10.2 (aD (ah,M.2)) (bF qc M.p2 z10.2 λz12=>(aD (z12.2,M.2))))) λx11=>(bcase x11.1 (aD ai) (cK ((cw M.1),x11.2))))) (obind (iter (σ:=Int×gH×gq×(List eW)×b9×b9×List (Int×Int×Int)) (λI=>(bu I.1 (aU I.q6) (jn (α:=gH×gq×(List eW)×b9×b9×List (Int×Int×Int)) (bF nQ I.q6 I.1 λZ=>(jn (α:=Bool×dL×Int×Int×Int) (bu Z.1 0 (aD (ah,I.2,Z)) (aD ((cR (aU I.p5) Z.1),I.2,Z))) λU=>(bcase U.1 (cK (bZ ai)) (jn (α:=Bool×dL×Int×Int×Int) (bc I.1 0 (aD (ah,U.2)) (bF nQ U.2.1.q5 (be .i64 (I.1-1)) λz18=>(aD ((!decide ((z18.1:Int)=U.p2)),U.2)))) λJ=>(bcase J.1 (jn (α:=Bool×gH×gq×(List eW)×b9×b9×List (Int×Int×Int)) (iL J.p3 0 (aD (ah,J.2.1)) (bu 0 I.1 (bF nQ J.2.1.q5 (be .i64 (I.1-1)) λz20=>(aD ((fG J.p2 z20.1),J.2.1))) (aD (ai,J.2.1)))) λx19=>(bcase x19.1 (cK (bZ ai)) (aD x19.2))) (bF nQ J.2.1.q5 (be .i64 (I.1-1)) λz21=>(iL J.p3 (cw z21.2.1) (cK (bZ ai)) (aD J.2.1)))))))) λx14=>(cK ((cw I.1),x14))) (aD ah))) (0,M.2)) λr=>aa (bZ r)))) (0,Y.2)) λr=>aa (bZ r)))) (0,x1.2))))))
def jm (x:Int×Int×Int×Int×Int×Int):Option (List Int):=
 (jn (α:=Bool×Int×Int×Int×Int×Int×Int) (bc x.1 1 (aD ((decide ((x.1:Int)=1)),x)) (bc x.1 6 (aD ((decide ((x.1:Int)=6)),x)) (bc x.1 10 (aD ((decide ((x.1:Int)=10)),x)) (aD ((decide ((x.1:Int)=27)),x))))) λx1=>(bcase x1.1 (aa ([x1.p2])) (jn (α:=Bool×Int×Int×Int×Int×Int×Int) (bc x.1 2 (aD ((decide ((x.1:Int)=2)),x1.2)) (aD ((decide ((x.1:Int)=3)),x1.2))) λI=>(bcase I.1 (aa ([I.p2,I.p3])) (bc x.1 4 (aa ([I.p2,I.p3,I.p4])) (bc x.1 7 (aa ([I.p2,I.p4])) (jn (α:=Bool×Int×Int×Int×Int×Int×Int) (bc x.1 8 (aD ((decide ((x.1:Int)=8)),I.2)) (aD ((decide ((x.1:Int)=26)),I.2))) λJ=>(bcase J.1 (aa ([J.p3])) (bc x.1 9 (aa ([J.p3,J.p4])) (aa ([]:List Int)))))))))))
def oZ (x:Int):Option (Bool):=
 (jn (α:=Bool) (jC 1 x (aD (cR x 5)) (aD ai)) λx1=>(aa x1))
def oL (x:(List jD)×Int):Option (Bool):=
 (iter (σ:=Int×Int) (λx1=>(jC x1.2 (aU x.1) (jn (α:=Int) (jn (α:=Bool) (bu x1.1 0 (aD ah) (aD (cR (aU x.1) x1.1))) λY=>(bcase Y (cK (bZ ai)) (bF qa x.1 x1.1 λM=>(obind (oZ M.1) λU=>(bcase (!U) (cK (bZ ah)) (bF qa x.1 x1.1 λJ=>(bc J.1 5 (bF qa x.1 x1.1 λI=>(aD I.2.1)) (aD (cw x1.1))))))))) λZ=>(cK (Z,(cw x1.2)))) (aD ai))) (x.2,0))
def iV (x:Int×Int):Option (Bool):=
 (jn (α:=Bool) (jC 0 x.1 (aD (fG x.1 x.2)) (aD ai)) λx1=>(aa x1))
def mH (x:dL×Int×Int):Option (Bool):=
 (jn (α:=Bool) (obind (iV (x.2.1,(aU x.1.1))) λU=>(bcase U (bF ka x.1.1 x.2.1 λM=>(bc M.2.1 0 (bF ka x.1.1 x.2.1 λJ=>(iL J.2.2.1 0 (bF ka x.1.1 x.2.1 λI=>(aD (decide ((I.2.2.1:Int)=x.2.2)))) (aD ai))) (aD ai))) (aD ai))) λx1=>(aa x1))
def kU (x:dL×Int×Int×Int×Int×Int×Int):Option (Bool):=
 (bc x.2.1 6 (jn (α:=Bool) (obind (iV (x.p3,(aU x.1.1))) λy2=>(bcase y2 (bF ka x.1.1 x.p3 λz3=>(aD (decide ((z3.2.2.1:Int)=0)))) (aD ai))) λx1=>(aa x1)) (bc x.2.1 8 (jn (α:=Bool) (obind (iV (x.p2,(aU x.1.1))) λy5=>(bcase y5 (bF ka x.1.1 x.p2 λz6=>(aD (decide ((z6.2.2.1:Int)=0)))) (aD ai))) λx4=>(aa x4)) (bc x.2.1 7 (obind (mH (x.1,x.p3,x.p5)) λy7=>(aa y7)) (bc x.2.1 9 (obind (mH (x.1,x.p2,x.p5)) λy8=>(aa y8)) (jn (α:=Bool×dL×Int×Int×Int×Int×Int×Int) (bc x.2.1 11 (aD ((decide ((x.2.1:Int)=11)),x)) (aD ((decide ((x.2.1:Int)=12)),x))) λU=>(bcase U.1 (jn (α:=Bool) (obind (iV (U.p3,(aU U.2.1.2.1))) λy11=>(bcase y11 (bF qc U.2.1.2.1 U.p3 λZ=>(aD (!Z.2))) (aD ai))) λx10=>(aa x10)) (jn (α:=Bool×dL×Int×Int×Int×Int×Int×Int) (bc x.2.1 13 (aD ((decide ((x.2.1:Int)=13)),U.2)) (bc x.2.1 14 (aD ((decide ((x.2.1:Int)=14)),U.2)) (bc x.2.1 15 (aD ((decide ((x.2.1:Int)=15)),U.2)) (aD ((decide ((x.2.1:Int)=16)),U.2))))) λJ=>(bcase J.1 (jn (α:=Bool) (obind (iV (J.p3,(aU J.2.1.2.1))) λy15=>(bcase y15 (bF qc J.2.1.2.1 J.p3 λY=>(aD Y.2)) (aD ai))) λx14=>(aa x14)) (jn (α:=Bool×dL×Int×Int×Int×Int×Int×Int) (bc x.2.1 21 (aD ((decide ((x.2.1:Int)=21)),J.2)) (bc x.2.1 22 (aD ((decide ((x.2.1:Int)=22)),J.2)) (aD ((decide ((x.2.1:Int)=23)),J.2)))) λM=>(bcase M.1 (obind (iV (M.p3,(aU M.2.1.p2))) λy18=>(aa y18)) (jn (α:=Bool×dL×Int×Int×Int×Int×Int×Int) (bc x.2.1 24 (aD ((decide ((x.2.1:Int)=24)),M.2)) (aD ((decide ((x.2.1:Int)=25)),M.2))) λI=>(bcase I.1 (obind (iV (I.p3,(aU I.2.1.p4))) λy20=>(aa y20)) (bc x.2.1 26 (obind (iV (I.p3,(aU I.2.1.p3))) λy21=>(aa y21)) (bc x.2.1 27 (obind (iV (I.p4,(aU I.2.1.p3))) λy22=>(aa y22)) (bc x.2.1 3 (jn (α:=Bool) (bc I.p6 4 (aD ah) (aD (decide ((I.p6:Int)=5)))) λx23=>(aa x23)) (bc x.2.1 4 (jn (α:=Bool) (jC 6 I.p6 (aD (cR I.p6 18)) (aD ai)) λx24=>(aa x24)) (aa ah)))))))))))))))))
def g_ (x:dL×Int×Int×List jD):Option (Bool):=
 (jn (α:=Bool×dL×Int×List jD) (bu x.p2 0 (aD (ah,x.1,x.2.2)) (bu 32 x.p2 (aD (ah,x.1,x.2.2)) (aD ((decide (((aU x.q3):Int)=0)),x.1,x.2.2)))) λx1=>(bcase x1.1 (aa ai) (iter (σ:=Int×dL×Int×List jD) (λJ=>(bu J.1 (aU x.q3) (bF qa J.q3 J.1 λY=>(jn (α:=Bool×dL×(Int×List jD)×Int×Int×Int×Int×Int×Int) (bu Y.1 1 (aD (ah,J.2.1,J.2.2,Y)) (bu 28 Y.1 (aD (ah,J.2.1,J.2.2,Y)) (bcase (((decide ((Y.1:Int)=28))==(decide ((J.1:Int)=(be .i64 ((aU x.q3)-1))))) !=ah) (aD (ah,J.2.1,J.2.2,Y)) (obind (kU (J.2.1,Y)) λy5=>(bcase (!y5) (aD (ah,J.2.1,J.2.2,Y)) (obind (oL (J.q3,J.1)) λy6=>(aD ((!y6),J.2.1,J.2.2,Y)))))))) λI=>(bcase I.1 (aD ai) (jn (α:=Bool×dL×(Int×List jD)×Int×Int×Int×Int×Int×Int) (bc I.p3 28 (iL I.q8 (-1) (aD (ah,I.2)) (iL I.p3 28 (obind (iV (I.q8,(aU I.2.1.q5))) λy8=>(bcase (!y8) (aD (ah,I.2)) (bF nQ I.2.1.q5 I.q8 λz9=>(aD ((!decide ((z9.1:Int)=x.2.1)),I.2))))) (aD (ai,I.2)))) (iL I.p3 28 (obind (iV (I.q8,(aU I.2.1.q5))) λy10=>(bcase (!y10) (aD (ah,I.2)) (bF nQ I.2.1.q5 I.q8 λz11=>(aD ((!decide ((z11.1:Int)=x.2.1)),I.2))))) (aD (ai,I.2)))) λU=>(bcase U.1 (aD ai) (jn (α:=Bool×dL×(Int×List jD)×Int×Int×Int×Int×Int×Int) (bc U.p3 5 (obind (iV (U.p4,(aU x.q3))) λy13=>(bcase (!y13) (aD (ah,U.2)) (bc U.p3 10 (obind (iV (U.p5,(aU x.q3))) λy14=>(aD ((!y14),U.2))) (aD (ai,U.2))))) (bc U.p3 10 (obind (iV (U.p5,(aU x.q3))) λy15=>(aD ((!y15),U.2))) (aD (ai,U.2)))) λZ=>(bcase Z.1 (aD ai) (obind (jm Z.q3) λy16=>(iter (σ:=Int×dL×Int×List jD) (λM=>(bu M.1 (aU y16) (bF aM y16 M.1 λz18=>(obind (iV (z18,M.p2)) λy19=>(bcase (!y19) (aD (bZ ai)) (cK ((cw M.1),M.2))))) (aD (oh ((cw J.1),M.2))))) (0,Z.2.1,Z.p2)))))))))) (aD ah))) (0,x1.2))))
def jk (x:dL×List (Int×List jD)):Option (Bool):=
 (jn (α:=Bool×dL×List (Int×List jD)) (obind (gO x.1) λU=>(bcase (!U) (aD (ah,x)) (aD ((!decide (((aU x.2):Int)=(aU x.1.p4))),x)))) λx1=>(bcase x1.1 (aa ai) (iter (σ:=Int×dL×List (Int×List jD)) (λI=>(bu I.1 (aU I.2.2) (bF vK I.2.2 I.1 λJ=>(obind (g_ (I.2.1,I.1,J)) λM=>(bcase (!M) (aD ai) (cK ((cw I.1),I.2))))) (aD ah))) (0,x1.2))))
def cr (x:jD×qK×List jD):Option (qK×List jD):=
 (bA (a_ (ak x.2.2+ak ([(x.1.1,x.1.2.1,x.1.p2,x.1.p3,x.1.p4,x.2.1.p7)])) 48) (aa (x.2.1,(x.2.2++([(x.1.1,x.1.2.1,x.1.p2,x.1.p3,x.1.p4,x.2.1.p7)])))))
def pJ (rr06_gen_value:((Xp×Int)×qK×List jD)->Option (qK×List jD)) (x:(Xp×Int)×qK×List jD):Option (qK×List jD):=
 (jn (α:=qK×List jD) (bc (Xp.op x.1.1) 1 (obind (cr ((1,x.1.2,0,0,(Xp.n x.1.1),0),x.2)) λy2=>(bA (aA (ak x.2.2) (ak x.2.2)&&ah) (aD y2))) (bc (Xp.op x.1.1) 2 (obind (iG (x.2.1.p6,(Xp.name x.1.1))) λy3=>(jC 0 y3 (obind (cr ((2,x.1.2,y3,0,0,0),x.2)) λy4=>(bA (aA (ak x.2.2) (ak x.2.2)&&ah) (aD y4))) (obind (kN ((x.2.1.1,x.2.1.2.1,x.2.1.p2,x.2.1.p3,x.2.1.p4,x.2.1.p5),(Xp.name x.1.1))) λy5=>(obind (cr ((6,x.1.2,y5,0,0,0),x.2)) λy6=>(bA (aA (ak x.2.2) (ak x.2.2)&&ah) (aD y6)))))) (bc (Xp.op x.1.1) 3 (bF (.ex) (Xp.l x.1.1) 0 λz7=>(obind (rr06_gen_value ((z7,x.1.2),x.2)) λI=>(bA (aA (ak x.2.2) (ak x.2.2)&&ah) (obind (kN ((I.1.1,I.1.2.1,I.1.p2,I.1.p3,I.1.p4,I.1.p5),(Xp.name x.1.1))) λy9=>(bF ka I.1.1 y9 λz10=>(obind (cr ((7,x.1.2,y9,x.1.2,z10.2.2.1,0),I)) λy11=>(bA (aA (ak I.2) (ak I.2)&&ah) (aD y11)))))))) (bc (aN (ak (Xp.l x.1.1))) 1 (bF (.ex) (Xp.l x.1.1) 0 λz12=>(obind (rr06_gen_value ((z12,x.1.2),x.2)) λU=>(bA (aA (ak x.2.2) (ak x.2.2)&&ah) (obind (cr ((3,x.1.2,x.1.2,0,(Xp.op x.1.1),0),U)) λy14=>(bA (aA (ak U.2) (ak U.2)&&ah) (aD y14)))))) (bF (.ex) (Xp.l x.1.1) 0 λZ=>(obind (rr06_gen_value ((Z,x.1.2),x.2)) λM=>(bA (aA (ak x.2.2) (ak x.2.2)&&ah) (bF (.ex) (Xp.l x.1.1) 1 λY=>(obind (rr06_gen_value ((Y,(cw x.1.2)),M)) λJ=>(bA (aA (ak M.2) (ak M.2)&&ah) (obind (cr ((4,x.1.2,x.1.2,(cw x.1.2),(Xp.op x.1.1),0),J)) λy19=>(bA (aA (ak J.2) (ak J.2)&&ah) (aD y19))))))))))))) λx1=>(aa x1))
def im:Nat->((Xp×Int)×qK×List jD)->Option (qK×List jD)
 |0,_=>af
 |n+1,x=>pJ (im n) x
theorem zj (n:Nat) (x:(Xp×Int)×qK×List jD):im (n+1) x=pJ (im n) x:=rfl
def il (x:(Xp×Int)×qK×List jD):Option (qK×List jD):=im fuel x
def ly (x:Sx×qK×List jD):Option (qK×List jD):=
 (bu 0 (aN (ak (Sx.index x.1))) (bF (.ex) (Sx.index x.1) 0 λz1=>(obind (il ((z1,(aU x.2.1.p6)),x.2)) λM=>(bA (aA (ak x.2.2) (ak x.2.2)&&ah) (obind (il ((dQ ((Xp.op (Sx.expr x.1)),(Xp.n (Sx.expr x.1)),(Xp.name (Sx.expr x.1)),(Xp.l (Sx.expr x.1))),(be .i64 ((aU x.2.1.p6)+1))),M)) λJ=>(bA (aA (ak M.2) (ak M.2)&&ah) (obind (kN ((J.1.1,J.1.2.1,J.1.p2,J.1.p3,J.1.p4,J.1.p5),(Sx.name x.1))) λy4=>(bF ka J.1.1 y4 λz5=>(obind (cr ((9,y4,(be .i64 ((aU x.2.1.p6)+1)),(aU x.2.1.p6),z5.2.2.1,0),J)) λy6=>(bA (aA (ak J.2) (ak J.2)&&ah) (aa y6)))))))))) (obind (il ((dQ ((Xp.op (Sx.expr x.1)),(Xp.n (Sx.expr x.1)),(Xp.name (Sx.expr x.1)),(Xp.l (Sx.expr x.1))),(aU x.2.1.p6)),x.2)) λI=>(bA (aA (ak x.2.2) (ak x.2.2)&&ah) (obind (iG (I.1.p6,(Sx.name x.1))) λZ=>(jC 0 Z (obind (cr ((2,Z,(aU x.2.1.p6),0,0,0),I)) λy9=>(bA (aA (ak I.2) (ak I.2)&&ah) (aa y9))) (obind (kN ((I.1.1,I.1.2.1,I.1.p2,I.1.p3,I.1.p4,I.1.p5),(Sx.name x.1))) λY=>(obind (cr ((8,Y,(aU x.2.1.p6),0,0,0),I)) λU=>(bA (aA (ak I.2) (ak I.2)&&ah) (aa U)))))))))
def i_ (x:(List UInt8)×qK×List jD):Option (Int×qK×List jD):=
 (iter (σ:=Int×qK×List jD) (λx1=>(bu x1.1 (aU x1.2.1.p2) (bF li x1.2.1.p2 x1.1 λI=>(bcase (decide ((I.1:List UInt8)=x.1)) (aD x1) (cK ((cw x1.1),x1.2)))) (aD ((-1),x1.2)))) (0,x.2))
def pK (rr06_gen_stmts:Zi->Option (qK×List jD)) (rr06_gen_stmt:Kw->Option (qK×List jD)) (rr06_gen_branches:Kw->Option (qK×List jD)) (rr06_gen_around:Zj->Option (qK×List jD)) (x:(List Sx)×qK×List jD):Option (qK×List jD):=
 (iter (σ:=Int×qK×List jD) (λx1=>(bu x1.1 (aU x.1) (bF (.sm) x.1 x1.1 λI=>(obind (rr06_gen_stmt (I,x1.2)) λJ=>(bA (aA (ak x1.2.2) (ak x1.2.2)&&ah) (cK ((cw x1.1),J))))) (aD x1.2))) (0,x.2))
def qT (rr06_gen_stmts:Zi->Option (qK×List jD)) (rr06_gen_stmt:Kw->Option (qK×List jD)) (rr06_gen_branches:Kw->Option (qK×List jD)) (rr06_gen_around:Zj->Option (qK×List jD)) (x:Sx×qK×List jD):Option (qK×List jD):=
 (jn (α:=qK×List jD) (bc (Sx.op x.1) 1 (obind (ly (dS x.1,(x.2.1.1,x.2.1.2.1,x.2.1.p2,x.2.1.p3,x.2.1.p4,x.2.1.p5,x.2.1.p6,x.2.1.q8,(cw x.2.1.q8)),x.2.2)) λy2=>(bA (aA (ak x.2.2) (ak x.2.2)&&ah) (aD y2))) (jn (α:=Bool×qK×Sx×List jD) (bc (Sx.op x.1) 2 (aD ((decide (((Sx.op x.1):Int)=2)),(x.2.1.1,x.2.1.2.1,x.2.1.p2,x.2.1.p3,x.2.1.p4,x.2.1.p5,x.2.1.p6,x.2.1.q8,(cw x.2.1.q8)),dS x.1,x.2.2)) (aD ((decide (((Sx.op x.1):Int)=3)),(x.2.1.1,x.2.1.2.1,x.2.1.p2,x.2.1.p3,x.2.1.p4,x.2.1.p5,x.2.1.p6,x.2.1.q8,(cw x.2.1.q8)),dS x.1,x.2.2))) λI=>(bcase I.1 (obind (rr06_gen_branches (dS I.p2,I.2.1,I.q3)) λy4=>(bA (aA (ak I.q3) (ak I.q3)&&ah) (aD y4))) (bc (Sx.op x.1) 4 (obind (jP (I.2.1.2.1,(Sx.name I.p2))) λy5=>(obind (rr06_gen_around ((dS I.p2,11,12,y5),I.2.1,I.q3)) λy6=>(bA (aA (ak I.q3) (ak I.q3)&&ah) (aD y6)))) (bc (Sx.op x.1) 5 (obind (jP (I.2.1.2.1,(Sx.name I.p2))) λy7=>(obind (rr06_gen_around ((dS I.p2,13,14,y7),I.2.1,I.q3)) λy8=>(bA (aA (ak I.q3) (ak I.q3)&&ah) (aD y8)))) (bc (Sx.op x.1) 6 (obind (jP (I.2.1.2.1,(Sx.name I.p2))) λy9=>(obind (rr06_gen_around ((dS I.p2,15,16,y9),I.2.1,I.q3)) λy10=>(bA (aA (ak I.q3) (ak I.q3)&&ah) (aD y10)))) (bc (Sx.op x.1) 7 (obind (rr06_gen_around ((dS I.p2,17,18,0),I.2.1,I.q3)) λy11=>(bA (aA (ak I.q3) (ak I.q3)&&ah) (aD y11))) (bc (Sx.op x.1) 8 (obind (rr06_gen_around ((dS I.p2,19,20,0),I.2.1,I.q3)) λy12=>(bA (aA (ak I.q3) (ak I.q3)&&ah) (aD y12))) (bc (Sx.op x.1) 9 (obind (i_ ((Sx.name I.p2),I.2.1,I.q3)) λU=>(bA (aA (ak I.q3) (ak U.2.2)&&ah) (obind (cr ((21,U.1,0,0,0,0),U.2)) λy14=>(bA (aA (ak U.2.2) (ak U.2.2)&&ah) (aD y14))))) (bc (Sx.op x.1) 10 (obind (i_ ((Sx.name I.p2),I.2.1,I.q3)) λM=>(bA (aA (ak I.q3) (ak M.2.2)&&ah) (obind (cr ((22,M.1,0,0,0,0),M.2)) λy16=>(bA (aA (ak M.2.2) (ak M.2.2)&&ah) (aD y16))))) (bc (Sx.op x.1) 11 (obind (i_ ((Sx.name I.p2),I.2.1,I.q3)) λJ=>(bA (aA (ak I.q3) (ak J.2.2)&&ah) (obind (cr ((23,J.1,0,0,0,0),J.2)) λy18=>(bA (aA (ak J.2.2) (ak J.2.2)&&ah) (aD y18))))) (bc (Sx.op x.1) 12 (obind (iG (I.2.1.p4,(Sx.name I.p2))) λy19=>(obind (cr ((24,y19,0,0,0,0),I.2.1,I.q3)) λy20=>(bA (aA (ak I.q3) (ak I.q3)&&ah) (aD y20)))) (bc (Sx.op x.1) 13 (obind (iG (I.2.1.p4,(Sx.name I.p2))) λy21=>(obind (cr ((25,y21,0,0,0,0),I.2.1,I.q3)) λy22=>(bA (aA (ak I.q3) (ak I.q3)&&ah) (aD y22)))) (bc (Sx.op x.1) 14 (obind (il ((dQ ((Xp.op (Sx.expr I.p2)),(Xp.n (Sx.expr I.p2)),(Xp.name (Sx.expr I.p2)),(Xp.l (Sx.expr I.p2))),(aU x.2.1.p6)),I.2.1,I.q3)) λY=>(bA (aA (ak I.q3) (ak I.q3)&&ah) (obind (iG (Y.1.p3,(Sx.name I.p2))) λy24=>(obind (cr ((26,y24,(aU x.2.1.p6),0,0,0),Y)) λy25=>(bA (aA (ak Y.2) (ak Y.2)&&ah) (aD y25)))))) (bc (Sx.op x.1) 15 (obind (iG (I.2.1.p6,(Sx.name I.p2))) λy26=>(obind (iG (I.2.1.p3,(Sx.arg I.p2))) λy27=>(obind (cr ((27,y26,y27,0,0,0),I.2.1,I.q3)) λZ=>(bA (aA (ak I.q3) (ak I.q3)&&ah) (aD Z))))) (aD (I.2.1,I.q3))))))))))))))))) λx1=>(aa x1))
def l_ (rr06_gen_stmts:Zi->Option (qK×List jD)) (rr06_gen_stmt:Kw->Option (qK×List jD)) (rr06_gen_branches:Kw->Option (qK×List jD)) (rr06_gen_around:Zj->Option (qK×List jD)) (x:Sx×qK×List jD):Option (qK×List jD):=
 (obind (il ((dQ ((Xp.op (Sx.expr x.1)),(Xp.n (Sx.expr x.1)),(Xp.name (Sx.expr x.1)),(Xp.l (Sx.expr x.1))),(aU x.2.1.p6)),x.2)) λJ=>(bA (aA (ak x.2.2) (ak x.2.2)&&ah) (obind (cr ((10,(aU J.1.p6),0,0,0,0),J)) λZ=>(bA (aA (ak J.2) (ak J.2)&&ah) (obind (rr06_gen_stmts ((Sx.body x.1),Z)) λI=>(bA (aA (ak Z.2) (ak Z.2)&&ah) (bc (Sx.op x.1) 3 (obind (cr ((5,(aU x.2.2),0,0,0,0),(I.1.1,I.1.2.1,I.1.p2,I.1.p3,I.1.p4,I.1.p5,I.1.p6,x.2.1.p7,I.1.q8),I.2)) λU=>(bA (aA (ak I.2) (ak I.2)&&ah) (ck (fD (aU J.2) (ak U.2)) (aa (U.1,(cJ U.2 (aU J.2) ((aH (T:=qa) U.2 (aU J.2)).1,((aH (T:=qa) U.2 (aU J.2)).2).1,(aU U.2),(((aH (T:=qa) U.2 (aU J.2)).2).2).2))))))) (bc (aN (ak (Sx.els x.1))) 0 (ck (fD (aU J.2) (ak I.2)) (aa ((I.1.1,I.1.2.1,I.1.p2,I.1.p3,I.1.p4,I.1.p5,I.1.p6,x.2.1.p7,I.1.q8),(cJ I.2 (aU J.2) ((aH (T:=qa) I.2 (aU J.2)).1,((aH (T:=qa) I.2 (aU J.2)).2).1,(aU I.2),(((aH (T:=qa) I.2 (aU J.2)).2).2).2))))) (obind (cr ((5,0,0,0,0,0),(I.1.1,I.1.2.1,I.1.p2,I.1.p3,I.1.p4,I.1.p5,I.1.p6,x.2.1.p7,I.1.q8),I.2)) λM=>(bA (aA (ak I.2) (ak I.2)&&ah) (ck (fD (aU J.2) (ak M.2)) (obind (rr06_gen_stmts ((Sx.els x.1),M.1,(cJ M.2 (aU J.2) ((aH (T:=qa) M.2 (aU J.2)).1,((aH (T:=qa) M.2 (aU J.2)).2).1,(aU M.2),(((aH (T:=qa) M.2 (aU J.2)).2).2).2)))) λY=>(bA (aA (ak (cJ M.2 (aU J.2) ((aH (T:=qa) M.2 (aU J.2)).1,((aH (T:=qa) M.2 (aU J.2)).2).1,(aU M.2),(((aH (T:=qa) M.2 (aU J.2)).2).2).2))) (ak (cJ M.2 (aU J.2) ((aH (T:=qa) M.2 (aU J.2)).1,((aH (T:=qa) M.2 (aU J.2)).2).1,(aU M.2),(((aH (T:=qa) M.2 (aU J.2)).2).2).2)))&&ah) (ck (fD (aU I.2) (ak Y.2)) (aa (Y.1,(cJ Y.2 (aU I.2) ((aH (T:=qa) Y.2 (aU I.2)).1,(aU Y.2),((aH (T:=qa) Y.2 (aU I.2)).2).2))))))))))))))))))
def ox (rr06_gen_stmts:Zi->Option (qK×List jD)) (rr06_gen_stmt:Kw->Option (qK×List jD)) (rr06_gen_branches:Kw->Option (qK×List jD)) (rr06_gen_around:Zj->Option (qK×List jD)) (x:(Sx×Int×Int×Int)×qK×List jD):Option (qK×List jD):=
 (obind (cr ((x.1.2.1,x.1.q3,0,0,0,0),x.2)) λJ=>(bA (aA (ak x.2.2) (ak x.2.2)&&ah) (obind (rr06_gen_stmts ((Sx.body x.1.1),J)) λI=>(bA (aA (ak J.2) (ak J.2)&&ah) (obind (cr ((x.1.p2,x.1.q3,0,0,0,0),(I.1.1,I.1.2.1,I.1.p2,I.1.p3,I.1.p4,I.1.p5,I.1.p6,x.2.1.p7,I.1.q8),I.2)) λM=>(bA (aA (ak I.2) (ak I.2)&&ah) (aa M)))))))
mutual
def dC:Nat->Zi->Option (qK×List jD)
 |0,_=>af
 |n+1,x=>pK (dC n) (eC n) (cV n) (dx n) x
def eC:Nat->Kw->Option (qK×List jD)
 |0,_=>af
 |n+1,x=>qT (dC n) (eC n) (cV n) (dx n) x
def cV:Nat->Kw->Option (qK×List jD)
 |0,_=>af
 |n+1,x=>l_ (dC n) (eC n) (cV n) (dx n) x
def dx:Nat->Zj->Option (qK×List jD)
 |0,_=>af
 |n+1,x=>ox (dC n) (eC n) (cV n) (dx n) x
end
def sS (x:(List Sx)×qK×List jD):Option (qK×List jD):=dC fuel x
def pD (x:qZ×List qY):Option (yw×Int×Int):=
 (obind (eV x) λy1=>(iL y1.1 0 (aa (((([]:List QM),([]:List ((List UInt8)×Bool)),([]:List eW),([]:List (List UInt8)),([]:List (List UInt8)),([]:List (Int×Int×Int))),([]:List (Int×List jD))),y1)) (obind (sT x) λy2=>(iter (σ:=(Int×Int)×(qZ×List qY)×dL×List (Int×List jD)) (λJ=>(bu J.1.2 (aU J.2.1.2) (bF rN J.2.1.2 J.1.2 λz4=>(bF rN J.2.1.2 J.1.2 λz5=>(obind (sS (z5.2.2.2,(J.p2.1,J.p2.2.1,J.p2.p2,J.p2.p3,J.p2.p4,J.p2.q5,z4.2.2.1,0,J.1.1),([]:List jD))) λU=>(bA (aA (ak ([]:List jD)) (ak ([]:List jD))&&ah) (obind (cr ((28,0,0,0,0,0),(U.1.1,U.1.2.1,U.1.p2,U.1.p3,U.1.p4,U.1.p5,U.1.p6,(-1),U.1.q8),U.2)) λy7=>(bA (aA (ak U.2) (ak U.2)&&ah) (iter (σ:=Int×(qZ×List qY)×dL×qK×Int×(List (Int×List jD))×List jD) (λM=>(bu M.1 (aU M.q6) (kj qa M.q6 M.1 λz9=>(obind (jm z9) λY=>(iter (σ:=Int×(qZ×List qY)×dL×qK×Int×(List (Int×List jD))×List jD) (λI=>(bu I.1 (aU Y) (bF aM Y I.1 λZ=>(cK ((cw I.1),I.2.1,I.p2,I.p3,(jR I.p4 (cw Z)),I.q5))) (aD (oh ((cw M.1),I.2))))) (0,M.2)))) (obind (bA (a_ (ak M.p5+ak ([(M.p4,M.q6)])) 32) (cK ((U.1.q8,(cw J.1.2)),M.2.1,M.p2,(M.p5++([(M.p4,M.q6)]))))) λr=>aa (bZ r)))) (0,J.2.1,J.p2,y7.1,(aU y7.1.p6),J.q3,y7.2)))))))) (aD (J.2.2,0,0)))) ((0,0),x,y2,([]:List (Int×List jD)))))))
def pC (x:(List Int)×Int):Option (Bool):=
 (iter (σ:=Int) (λx1=>(bu x1 (aU x.1) (bF aM x.1 x1 λI=>(bc I x.2 (aD ah) (cK (cw x1)))) (aD ai))) 0)
def uZ (x:(List Int)×Int):Option (List Int):=
 (iter (σ:=Int) (λx1=>(jn (α:=Bool) (bu x1 (aU x.1) (bF aM x.1 x1 λJ=>(aD (fG J x.2))) (aD ai)) λU=>(bcase U (cK (cw x1)) (obind (jn (α:=Bool) (bu x1 (aU x.1) (bF aM x.1 x1 λI=>(aD (decide ((I:Int)=x.2)))) (aD ai)) λM=>(bcase M (aa x.1) (bA (cR 0 x1&&cR x1 (ak x.1)) (bA (a_ (ak ([]:List Int)+ak (dF (aR x1) x.1)) 8) (bA (a_ (ak (([]:List Int)++(dF (aR x1) x.1))+ak ([x.2])) 8) (bA (cR 0 x1&&cR x1 (ak x.1)) (bA (a_ (ak ((([]:List Int)++(dF (aR x1) x.1))++([x.2]))+ak (List.drop (aR x1) x.1)) 8) (aa (((([]:List Int)++(dF (aR x1) x.1))++([x.2]))++(List.drop (aR x1) x.1)))))))))) λr=>aa (bZ r))))) 0)
def qr (x:(List Int)×List Int):Option (List Int):=
 (iter (σ:=(List Int)×Int) (λx1=>(bu x1.2 (aU x.1) (bF aM x.1 x1.2 λM=>(obind (uZ (x1.1,M)) λY=>(cK (Y,(cw x1.2))))) (obind (iter (σ:=(List Int)×Int) (λI=>(bu I.2 (aU x.2) (bF aM x.2 I.2 λJ=>(obind (uZ (I.1,J)) λU=>(cK (U,(cw I.2))))) (aD I.1))) (x1.1,0)) λr=>aa (bZ r)))) (([]:List Int),0))
def lO (x:Int):Option (Int):=
 (jn (α:=Bool) (bu x 1 (aD ah) (aD (fG 100 x))) λx1=>(bcase x1 (aa 0) (aa x)))
def ca (x:Int×(List Int)×(List (List Int))×Int):Option ((Int×Int)×(List Int)×List (List Int)):=
 (bA (a_ (ak ([]:List Int)+ak x.2.1) 8) (iter (σ:=Int×sI×(Int×Int)×(Int×Int)×(List Int)×List (List Int)) (λx1=>(bu x1.1 (aU x1.2.1.p2) (bF (.sl aM) x1.2.1.p2 x1.1 λI=>(bA (a_ (ak ([]:List Int)+ak I) 8) (bA (a_ (ak x1.q5+ak ([(([]:List Int)++I)])) 24) (cK ((cw x1.1),x1.2.1,x1.p2,x1.p3,x1.p4,(x1.q5++([(([]:List Int)++I)]))))))) (aD x1.q3))) (0,x,(0,0),(x.1,x.q3),(([]:List Int)++x.2.1),([]:List (List Int)))))
def uY (x:(jD×Int×Int)×(List Int)×List (List Int)):Option (((Int×Int)×Bool)×(List Int)×List (List Int)):=
 (obind (jm x.1.1) λy1=>(iter (σ:=Int×(List Int)×(List (List Int))×jD×(Int×Int)×Int×Int) (λI=>(bu I.1 (aU y1) (jn (α:=Bool×(List Int)×(List (List Int))×jD×(Int×Int)×Int×Int) (bF aM y1 I.1 λz4=>(bu z4 0 (aD (ah,I.2)) (bF aM y1 I.1 λz5=>(aD ((cR (aU I.2.1) z5),I.2))))) λx3=>(bcase x3.1 af (cK ((cw I.1),x3.2)))) (obind (jn (α:=(Int×Bool×List Int)×(List Int)×(List (List Int))×jD×(Int×Int)×Int×Int) (bc I.p3.1 5 (cK (((I.p3.2.1,I.p4.2),ah),I.2.1,I.p2)) (bc I.p3.1 1 (aD ((I.p3.p4,ah,([]:List Int)),I.2)) (bc I.p3.1 2 (kj aM I.2.1 I.p3.p2 λz7=>(kj (.sl aM) I.p2 I.p3.p2 λz8=>(aD ((z7,ah,z8),I.2)))) (bc I.p3.1 3 (obind (lO I.p3.p4) λy9=>(kj aM I.2.1 I.p3.p2 λz10=>(obind (sU (y9,z10)) λU=>(kj (.sl aM) I.p2 I.p3.p2 λz12=>(aD ((U.1,U.2,z12),I.2)))))) (obind (lO I.p3.p4) λy13=>(kj aM I.2.1 I.p3.p2 λz14=>(kj aM I.2.1 I.p3.p3 λz15=>(obind (rh (y13,z14,z15)) λM=>(kj (.sl aM) I.p2 I.p3.p2 λZ=>(kj (.sl aM) I.p2 I.p3.p3 λY=>(obind (qr (Z,Y)) λy19=>(aD ((M.1,M.2,y19),I.2))))))))))))) λJ=>(bA (a_ (ak ([]:List Int)+ak J.1.2.2) 8) (ck (fD J.p3.2.1 (ak J.2.1)) (ck (fD J.p3.2.1 (ak J.p2)) (aa ((((cw J.p4.1),J.p4.2),J.1.2.1),(cJ J.2.1 J.p3.2.1 J.1.1),(cJ J.p2 J.p3.2.1 (([]:List Int)++J.1.2.2)))))))) λr=>aa (bZ r)))) (0,x.2.1,x.2.2,x.1.1,x.1.2,0,0)))
def mG (x:(Int×List jD)×Int×(List Int)×(List (List Int))×Int):Option (sI×Bool):=
 (jn (α:=Bool×(Int×List jD)×sI×Int×Int) (iL (aU x.p2) x.1.1 (aD (ah,x.1,x.2,0,0)) (aD ((!decide (((aU x.p3):Int)=x.1.1)),x.1,x.2,0,0))) λx1=>(bcase x1.1 (aa ((0,([]:List Int),([]:List (List Int)),0),ai)) (obind (ca x1.p2) λY=>(iter (σ:=Int×(Int×List jD)×(Int×Int)×(Int×Int)×(List Int)×List (List Int)) (λJ=>(jC J.1 (aU J.2.1.2) (jn (α:=Bool×(Int×List jD)×(Int×Int)×(Int×Int)×(List Int)×List (List Int)) (bu J.p2.1 0 (aD (ah,J.2)) (aD ((cR (aU J.2.1.2) J.p2.1),J.2))) λI=>(bcase I.1 (aD ((0,([]:List Int),([]:List (List Int)),0),ai)) (bF qa I.2.1.2 I.p2.1 λU=>(obind (oZ U.1) λZ=>(bcase (!Z) (aD ((I.p2.1,I.p4,I.q5,I.p2.2),ah)) (bc J.1 (aU I.2.1.2) (aD ((0,([]:List Int),([]:List (List Int)),0),ai)) (obind (uY ((U,I.p2),I.q4)) λM=>(bA (aA (ak I.q5) (ak M.2.2)&&(aA (ak I.p4) (ak M.2.1)&&ah)) (bcase (!M.1.2) (aD ((0,([]:List Int),([]:List (List Int)),0),ai)) (cK ((cw J.1),I.2.1,M.1.1,I.p3,M.2))))))))))) (aD ((0,([]:List Int),([]:List (List Int)),0),ai)))) (0,x1.2.1,Y.1,x1.q3,Y.2)))))
def qo (x:gH×gq×(List eW)×b9×b9×List (Int×Int×Int)):Option oB:=
 (iter (σ:=Int×dL×Int×Int×List (Int×List Int)) (λx1=>(bu x1.1 (aU x1.2.1.2.1) (bA (a_ (ak x1.q4+ak ([((-1),([]:List Int))])) 32) (cK ((cw x1.1),x1.2.1,x1.p2,x1.p3,(x1.q4++([((-1),([]:List Int))]))))) (obind (iter (σ:=Int×dL×Int×Int×gp×List Bool) (λJ=>(bu J.1 (aU J.2.1.p3) (bA (a_ (ak J.q5+ak ([ai])) 1) (cK ((cw J.1),J.2.1,J.p2,J.p3,J.p4,(J.q5++([ai]))))) (obind (iter (σ:=Int×dL×Int×Int×gp×(List Bool)×List dh) (λI=>(bu I.1 (aU I.2.1.p4) (jn (α:=dL×Int×Int×dh×gp×(List Bool)×List dh) (bc I.1 0 (aD (I.2.1,I.p2,I.p3,(1,0,ai),I.q4)) (aD (I.2.1,I.p2,I.p3,(0,0,ai),I.q4))) λM=>(bA (a_ (ak M.q6+ak ([M.p3])) 24) (cK ((cw I.1),M.1,M.2.1,M.p2,M.p4,M.p5,(M.q6++([M.p3])))))) (aD (I.p4,I.p3,I.q5)))) (0,J.2.1,J.p2,J.p3,J.p4,J.q5,([]:List dh))) λr=>aa (bZ r)))) (0,x1.2.1,x1.p2,x1.p3,x1.q4,([]:List Bool))) λr=>aa (bZ r)))) (0,x,0,(-1),([]:List (Int×List Int))))
def qp (x:dL×gp×Int×(List Bool)×List dh):Option (Bool):=
 (iter (σ:=Int×dL×gp×Int×(List Bool)×List dh) (λx1=>(bu x1.1 (aU x1.2.1.p2) (jn (α:=Bool×dL×gp×Int×(List Bool)×List dh) (bF li x1.2.1.p2 x1.1 λM=>(bu M.2 0 (aD (ah,x1.2)) (bF li x1.2.1.p2 x1.1 λJ=>(aD ((cR (aU x1.2.1.2.1) J.2),x1.2))))) λI=>(bcase I.1 (aD ai) (cK ((cw x1.1),I.2)))) (obind (jn (α:=Bool) (bc (aU x1.p2) (aU x1.2.1.2.1) (bc (aU x1.p4) (aU x1.2.1.p3) (aD (decide (((aU x1.q5):Int)=(aU x1.2.1.p4)))) (aD ai)) (aD ai)) λU=>(aa U)) λr=>aa (bZ r)))) (0,x))
def pB (x:Int×Int):Option (Bool):=
 (jn (α:=Bool) (jC 0 x.1 (aD (fG x.1 x.2)) (aD ai)) λx1=>(aa x1))
def sR (x:dL×Int×Int):Option (Bool):=
 (jn (α:=Bool×gH×gq×(List eW)×b9×b9×List (Int×Int×Int)) (bc x.2.1 1 (aD ((decide ((x.2.1:Int)=1)),x.1)) (bc x.2.1 2 (aD ((decide ((x.2.1:Int)=2)),x.1)) (bc x.2.1 5 (aD ((decide ((x.2.1:Int)=5)),x.1)) (bc x.2.1 12 (aD ((decide ((x.2.1:Int)=12)),x.1)) (bc x.2.1 13 (aD ((decide ((x.2.1:Int)=13)),x.1)) (bc x.2.1 14 (aD ((decide ((x.2.1:Int)=14)),x.1)) (aD ((decide ((x.2.1:Int)=15)),x.1)))))))) λx1=>(bcase x1.1 (aa (decide ((x.2.2:Int)=(-1)))) (jn (α:=Bool×gH×gq×(List eW)×b9×b9×List (Int×Int×Int)) (bc x.2.1 3 (aD ((decide ((x.2.1:Int)=3)),x1.2)) (aD ((decide ((x.2.1:Int)=4)),x1.2))) λZ=>(bcase Z.1 (obind (pB (x.2.2,(aU Z.2.1))) λy3=>(aa y3)) (jn (α:=Bool×gH×gq×(List eW)×b9×b9×List (Int×Int×Int)) (bc x.2.1 6 (aD ((decide ((x.2.1:Int)=6)),Z.2)) (aD ((decide ((x.2.1:Int)=7)),Z.2))) λU=>(bcase U.1 (jn (α:=Bool) (obind (pB (x.2.2,(aU U.p2))) λy6=>(bcase y6 (bF qc U.p2 x.2.2 λz7=>(aD (!z7.2))) (aD ai))) λx5=>(aa x5)) (jn (α:=Bool×gH×gq×(List eW)×b9×b9×List (Int×Int×Int)) (bc x.2.1 8 (aD ((decide ((x.2.1:Int)=8)),U.2)) (bc x.2.1 9 (aD ((decide ((x.2.1:Int)=9)),U.2)) (bc x.2.1 10 (aD ((decide ((x.2.1:Int)=10)),U.2)) (aD ((decide ((x.2.1:Int)=11)),U.2))))) λM=>(bcase M.1 (jn (α:=Bool) (obind (pB (x.2.2,(aU M.p2))) λy10=>(bcase y10 (bF qc M.p2 x.2.2 λz11=>(aD z11.2)) (aD ai))) λx9=>(aa x9)) (jn (α:=Bool×gH×gq×(List eW)×b9×b9×List (Int×Int×Int)) (bc x.2.1 16 (aD ((decide ((x.2.1:Int)=16)),M.2)) (bc x.2.1 17 (aD ((decide ((x.2.1:Int)=17)),M.2)) (bc x.2.1 18 (aD ((decide ((x.2.1:Int)=18)),M.2)) (aD ((decide ((x.2.1:Int)=19)),M.2))))) λJ=>(bcase J.1 (obind (pB (x.2.2,(aU J.p3))) λy13=>(aa y13)) (jn (α:=Bool×gH×gq×(List eW)×b9×b9×List (Int×Int×Int)) (bc x.2.1 20 (aD ((decide ((x.2.1:Int)=20)),J.2)) (aD ((decide ((x.2.1:Int)=21)),J.2))) λI=>(bcase I.1 (obind (pB (x.2.2,(aU I.p5))) λy15=>(aa y15)) (jn (α:=Bool×gH×gq×(List eW)×b9×b9×List (Int×Int×Int)) (bc x.2.1 22 (aD ((decide ((x.2.1:Int)=22)),I.2)) (aD ((decide ((x.2.1:Int)=23)),I.2))) λY=>(bcase Y.1 (obind (pB (x.2.2,(aU Y.p4))) λy17=>(aa y17)) (aa ai)))))))))))))))
def jO (x:dL×oB×Int×Int×Int):Option (Bool):=
 (jn (α:=Bool×dL×gp×Int×(List Bool)×List dh) (obind (qp (x.1,x.2.1)) λy2=>(bcase (!y2) (aD (ah,x.1,x.2.1)) (obind (pB (x.p2,(aU x.1.p4))) λy3=>(bcase (!y3) (aD (ah,x.1,x.2.1)) (obind (sR (x.1,x.q3)) λy4=>(aD ((!y4),x.1,x.2.1))))))) λx1=>(bcase x1.1 (aa ai) (bF gR x1.q5 x.p2 λM=>(bc x.p3 1 (aa (decide ((M.1:Int)=1))) (bc x.p3 17 (jn (α:=Bool) (bc M.1 4 (bc M.2.1 x.q4 (bF li x1.2.1.p2 x.q4 λz7=>(bF dP x1.p2 z7.2 λz8=>(aD (decide ((z8.1:Int)=(-1)))))) (aD ai)) (aD ai)) λx6=>(aa x6)) (iL M.1 2 (aa ai) (bc x.p3 6 (bF dP x1.p2 x.q4 λz9=>(aa (decide ((z9.1:Int)=(-1))))) (bc x.p3 10 (jn (α:=Bool) (bF dP x1.p2 x.q4 λz11=>(bc z11.1 (-1) (bF dP x1.p2 x.q4 λz12=>(aD (decide (((aU z12.2):Int)=0)))) (aD ai))) λx10=>(aa x10)) (bc x.p3 8 (jn (α:=Bool) (bF dP x1.p2 x.q4 λz14=>(bc z14.1 (-1) (bF dP x1.p2 x.q4 λz15=>(obind (pC (z15.2,x.p2)) λy16=>(aD (!y16)))) (aD ai))) λx13=>(aa x13)) (jn (α:=Bool×dL×oB×Int×Int×Bool) (bc x.p3 7 (aD ((decide ((x.p3:Int)=7)),x1.2.1,x1.2.2,M)) (aD ((decide ((x.p3:Int)=11)),x1.2.1,x1.2.2,M))) λI=>(bcase I.1 (bF dP I.p2.1 x.q4 λz18=>(aa (decide ((z18.1:Int)=x.p2)))) (bc x.p3 9 (bF dP I.p2.1 x.q4 λz19=>(obind (pC (z19.2,x.p2)) λy20=>(aa y20))) (bc x.p3 12 (aa (decide ((I.p2.2.1:Int)=(-1)))) (bc x.p3 13 (aa (decide ((I.p2.2.1:Int)=x.p2))) (bc x.p3 14 (aa (!I.q5)) (bc x.p3 15 (aa I.q5) (jn (α:=Bool×dL×gp×Int×(List Bool)×List dh) (bc x.p3 16 (aD ((decide ((x.p3:Int)=16)),I.2.1,I.p2)) (bc x.p3 18 (aD ((decide ((x.p3:Int)=18)),I.2.1,I.p2)) (aD ((decide ((x.p3:Int)=19)),I.2.1,I.p2)))) λJ=>(bcase J.1 (bF li J.2.1.p2 x.q4 λz22=>(bF dP J.p2 z22.2 λz23=>(aa (decide ((z23.1:Int)=x.p2))))) (bc x.p3 20 (jn (α:=Bool) (iL x.q4 x.p2 (bF gR J.q5 x.q4 λz25=>(aD (decide ((z25.1:Int)=0)))) (aD ai)) λx24=>(aa x24)) (bc x.p3 21 (jn (α:=Bool) (iL x.q4 x.p2 (bF gR J.q5 x.q4 λZ=>(aD (decide ((Z.1:Int)=5)))) (aD ai)) λx26=>(aa x26)) (bc x.p3 22 (bF (.bool) J.p4 x.q4 λY=>(aa (!Y))) (bc x.p3 23 (bF (.bool) J.p4 x.q4 λU=>(aa U)) (aa ah)))))))))))))))))))))))
def m6 (x:oB×Int):Option (List Int):=
 (iter (σ:=Int×oB×List Int) (λx1=>(bu x1.1 (aU x1.2.1.q3) (jn (α:=oB×List Int) (jn (α:=Bool×oB×List Int) (bF gR x1.2.1.q3 x1.1 λM=>(bc M.1 3 (bF gR x1.2.1.q3 x1.1 λJ=>(aD ((decide ((J.2.1:Int)=x.2)),x1.2))) (aD (ai,x1.2)))) λI=>(bcase I.1 (bA (a_ (ak I.2.2+ak ([x1.1])) 8) (aD (I.2.1,(I.2.2++([x1.1]))))) (aD I.2))) λU=>(cK ((cw x1.1),U))) (aD x1.2.2))) (0,x.1,([]:List Int)))
def pA (x:(List Int)×Int):Option (List Int):=
 (iter (σ:=Int×List Int) (λx1=>(bu x1.1 (aU x.1) (jn (α:=List Int) (bF aM x.1 x1.1 λJ=>(iL J x.2 (bF aM x.1 x1.1 λI=>(bA (a_ (ak x1.2+ak ([I])) 8) (aD (x1.2++([I]))))) (aD x1.2))) λM=>(cK ((cw x1.1),M))) (aD x1.2))) (0,([]:List Int)))
def gZ (x:gp×Int×(List Bool)×List dh):Option (Int×gp×(List Bool)×List dh):=
 (bA (a_ (ak ([]:List Bool)+ak x.p2) 1) (bA (a_ (ak ([]:List dh)+ak x.q3) 24) (iter (σ:=Int×oB×Int×Int×gp×(List Bool)×List dh) (λx1=>(bu x1.1 (aU x1.2.1.1) (bF dP x1.2.1.1 x1.1 λJ=>(bF dP x1.2.1.1 x1.1 λI=>(bA (a_ (ak ([]:List Int)+ak I.2) 8) (bA (a_ (ak x1.p4+ak ([(J.1,(([]:List Int)++I.2))])) 32) (cK ((cw x1.1),x1.2.1,x1.p2,x1.p3,(x1.p4++([(J.1,(([]:List Int)++I.2))])),x1.q5)))))) (aD x1.q3))) (0,x,0,x.2.1,([]:List (Int×List Int)),(([]:List Bool)++x.p2),(([]:List dh)++x.q3)))))
def lM (x:(Int×Int)×gp×(List Bool)×List dh):Option ((List Int)×gp×(List Bool)×List dh):=
 (iter (σ:=Int×gp×(List Bool)×(List dh)×Int×List Int) (λx1=>(bu x1.1 (aU x1.p3) (jn (α:=gp×(List Bool)×(List dh)×Int×List Int) (jn (α:=Bool×gp×(List Bool)×(List dh)×Int×List Int) (kj gR x1.p3 x1.1 λM=>(bc M.1 3 (kj gR x1.p3 x1.1 λJ=>(aD ((decide ((J.2.1:Int)=x.1.2)),x1.2))) (aD (ai,x1.2)))) λI=>(bcase I.1 (bA (a_ (ak I.q5+ak ([x1.1])) 8) (aD (I.2.1,I.p2,I.p3,I.p4,(I.q5++([x1.1]))))) (aD I.2))) λU=>(cK ((cw x1.1),U))) (aD (x1.q5,x1.2.1,x1.p2,x1.p3)))) (0,x.2.1,x.p2,x.q3,x.1.1,([]:List Int)))
def ji (x:(Int×Int)×gp×(List Bool)×List dh):Option (List Int):=obind (lM x) λy=>same y.2 x.2 (aa y.1)
def oJ (x:dL×oB×Int×Int×Int×Int):Option (oB×Int×Bool):=
 (obind (jO (x.1,x.2.1,x.p2,x.p3,x.p4)) λy1=>(bcase (!y1) (aa ((([]:List (Int×List Int)),0,([]:List Bool),([]:List dh)),0,ai)) (obind (gZ x.2.1) λU=>(jn (α:=Int×Int×Int×gp×(List Bool)×List dh) (bc x.p3 1 (ck (fD x.p2 (ak U.q3)) (aD (0,U.1,0,U.2.1,U.p2,(cJ U.q3 x.p2 (2,(aH (T:=gR) U.q3 x.p2).2))))) (bc x.p3 2 (ck (fD x.p2 (ak U.q3)) (aD (0,U.1,0,U.2.1,U.p2,(cJ U.q3 x.p2 (5,(aH (T:=gR) U.q3 x.p2).2))))) (jn (α:=Bool×dL×Int×Int×gp×(List Bool)×List dh) (bc x.p3 6 (aD ((decide ((x.p3:Int)=6)),x.1,U.1,0,U.2)) (aD ((decide ((x.p3:Int)=10)),x.1,U.1,0,U.2))) λY=>(bcase Y.1 (ck (fD x.p4 (ak Y.p4)) (aD (0,Y.p2,Y.p3,(cJ Y.p4 x.p4 (x.p2,(aH (T:=dP) Y.p4 x.p4).2)),Y.q5))) (jn (α:=Bool×dL×Int×Int×gp×(List Bool)×List dh) (bc x.p3 7 (aD ((decide ((x.p3:Int)=7)),Y.2)) (aD ((decide ((x.p3:Int)=11)),Y.2))) λI=>(bcase I.1 (ck (fD x.p4 (ak I.p4)) (aD (0,I.p2,I.p3,(cJ I.p4 x.p4 ((-1),(aH (T:=dP) I.p4 x.p4).2)),I.q5))) (bc x.p3 8 (kj dP I.p4 x.p4 λz6=>(obind (qr (z6.2,[x.p2])) λy7=>(ck (fD x.p4 (ak I.p4)) (aD (0,I.p2,I.p3,(cJ I.p4 x.p4 ((aH (T:=dP) I.p4 x.p4).1,y7)),I.q5))))) (bc x.p3 9 (kj dP I.p4 x.p4 λz8=>(obind (pA (z8.2,x.p2)) λy9=>(ck (fD x.p4 (ak I.p4)) (aD (0,I.p2,I.p3,(cJ I.p4 x.p4 ((aH (T:=dP) I.p4 x.p4).1,y9)),I.q5))))) (bc x.p3 12 (aD (0,x.p2,I.q3)) (bc x.p3 13 (aD (0,(-1),I.q3)) (bc x.p3 14 (ck (fD x.p2 (ak I.q6)) (aD (0,I.p2,I.p3,I.p4,I.p5,(cJ I.q6 x.p2 ((aH (T:=gR) I.q6 x.p2).1,((aH (T:=gR) I.q6 x.p2).2).1,ah))))) (bc x.p3 15 (ck (fD x.p2 (ak I.q6)) (aD (0,I.p2,I.p3,I.p4,I.p5,(cJ I.q6 x.p2 ((aH (T:=gR) I.q6 x.p2).1,((aH (T:=gR) I.q6 x.p2).2).1,ai))))) (bc x.p3 16 (bF li I.2.1.p2 x.p4 λz10=>(ck (fD z10.2 (ak I.p4)) (ck (fD x.p2 (ak I.q6)) (ck (fD x.p2 (ak (cJ I.q6 x.p2 (3,(aH (T:=gR) I.q6 x.p2).2)))) (aD (0,I.p2,I.p3,(cJ I.p4 z10.2 ((-1),(aH (T:=dP) I.p4 z10.2).2)),I.p5,(cJ (cJ I.q6 x.p2 (3,(aH (T:=gR) I.q6 x.p2).2)) x.p2 ((aH (T:=gR) (cJ I.q6 x.p2 (3,(aH (T:=gR) I.q6 x.p2).2)) x.p2).1,x.p4,((aH (T:=gR) (cJ I.q6 x.p2 (3,(aH (T:=gR) I.q6 x.p2).2)) x.p2).2).2)))))))) (bc x.p3 17 (bF li I.2.1.p2 x.p4 λz11=>(ck (fD z11.2 (ak I.p4)) (ck (fD x.p2 (ak I.q6)) (ck (fD x.p2 (ak (cJ I.q6 x.p2 (2,(aH (T:=gR) I.q6 x.p2).2)))) (aD (0,I.p2,I.p3,(cJ I.p4 z11.2 (x.p2,(aH (T:=dP) I.p4 z11.2).2)),I.p5,(cJ (cJ I.q6 x.p2 (2,(aH (T:=gR) I.q6 x.p2).2)) x.p2 ((aH (T:=gR) (cJ I.q6 x.p2 (2,(aH (T:=gR) I.q6 x.p2).2)) x.p2).1,0,((aH (T:=gR) (cJ I.q6 x.p2 (2,(aH (T:=gR) I.q6 x.p2).2)) x.p2).2).2)))))))) (bc x.p3 18 (obind (ji ((I.p2,x.p4),I.q4)) λy12=>(bu 0 (aU y12) (bF aM y12 0 λz13=>(jn (α:=Int×Int×Int×gp×(List Bool)×List dh) (obind (pC (y12,x.q5)) λy15=>(bcase y15 (aD (x.q5,I.2.2)) (aD (z13,I.2.2)))) λM=>(ck (fD M.1 (ak M.q5)) (aD (M.1,M.2.1,M.p2,M.p3,M.p4,(cJ M.q5 M.1 (4,(aH (T:=gR) M.q5 M.1).2))))))) (aD ((-1),I.2.2)))) (bc x.p3 19 (obind (ji ((I.p2,x.p4),I.q4)) λy16=>(iter (σ:=Int×Int×Int×gp×(List Bool)×List dh) (λJ=>(bu J.1 (aU y16) (bF aM y16 J.1 λZ=>(ck (fD Z (ak J.q5)) (cK ((cw J.1),J.2.1,J.p2,J.p3,J.p4,(cJ J.q5 Z (4,(aH (T:=gR) J.q5 Z).2)))))) (aD (bZ ((aU y16),J.2))))) (0,I.2.2))) (bc x.p3 20 (ck (fD x.p4 (ak I.q6)) (aD (0,I.p2,I.p3,I.p4,I.p5,(cJ I.q6 x.p4 (1,(aH (T:=gR) I.q6 x.p4).2))))) (bc x.p3 22 (ck (fD x.p4 (ak I.p5)) (aD (0,I.p2,I.p3,I.p4,(cJ I.p5 x.p4 ah),I.q6))) (aD (0,I.2.2)))))))))))))))))))) λx3=>(aa ((x3.p3,x3.2.1,x3.q4),x3.1,ah))))))
def sQ (x:dL×List (Int×List jD)):Option vI:=
 (obind (jk x) λy1=>(bcase (!y1) (aa ((([]:List (Int×List Int)),0,([]:List Bool),([]:List dh)),([]:List Int),([]:List Int),([]:List sI))) (obind (qo x.1) λy2=>(iter (σ:=Int×yw×Int×oB×List Int) (λM=>(bu M.1 (aU M.2.1.1.1) (bF ka M.2.1.1.1 M.1 λZ=>(bA (a_ (ak M.q4+ak ([Z.2.2.2.2])) 8) (cK ((cw M.1),M.2.1,M.p2,M.p3,(M.q4++([Z.2.2.2.2])))))) (obind (iter (σ:=Int×yw×Int×oB×(List Int)×List Int) (λJ=>(bu J.1 (aU J.2.1.1.p3) (bA (a_ (ak J.q5+ak ([0])) 8) (cK ((cw J.1),J.2.1,J.p2,J.p3,J.p4,(J.q5++([0]))))) (obind (iter (σ:=Int×yw×Int×oB×(List Int)×(List Int)×List sI) (λI=>(bu I.1 (aU I.2.1.2) (vP I.1 I.2.1.2 (lt ((aH (T:=vK) I.2.1.2 I.1).1) λY=>(bA (cR 0 Y&&cR Y Y&&a_ (aR Y) 8) (vP I.1 I.2.1.2 (lt ((aH (T:=vK) I.2.1.2 I.1).1) λU=>(bA (cR 0 U&&cR U U&&a_ (aR U) 24) (bA (a_ (ak I.q6+ak ([(0,(aE (aR Y) (0:Int)),(aE (aR U) ([]:List Int)),0)])) 64) (cK ((cw I.1),I.2.1,I.p2,I.p3,I.p4,I.p5,(I.q6++([(0,(aE (aR Y) (0:Int)),(aE (aR U) ([]:List Int)),0)]))))))))))) (aD I.q3))) (0,J.2.1,J.p2,J.p3,J.p4,J.q5,([]:List sI))) λr=>aa (bZ r)))) (0,M.2.1,M.p2,M.p3,M.q4,([]:List Int))) λr=>aa (bZ r)))) (0,x,0,y2,([]:List Int))))))
def uX (x:yw×oB×(List Int)×(List Int)×List sI):Option (Bool):=
 (jn (α:=Bool×yw×oB×(List Int)×(List Int)×List sI) (obind (jk x.1) λy2=>(bcase (!y2) (aD (ah,x)) (obind (qp (x.1.1,x.2.1)) λy3=>(bcase (!y3) (aD (ah,x)) (iL (aU x.p2) (aU x.1.1.1) (aD (ah,x)) (iL (aU x.p3) (aU x.1.1.p3) (aD (ah,x)) (aD ((!decide (((aU x.q4):Int)=(aU x.1.2))),x)))))))) λx1=>(bcase x1.1 (aa ai) (iter (σ:=Int×yw×oB×(List Int)×(List Int)×List sI) (λI=>(bu I.1 (aU I.2.1.2) (bF eK I.q5 I.1 λJ=>(jn (α:=Bool×yw×oB×(List Int)×(List Int)×List sI) (bu J.1 0 (aD (ah,I.2)) (bF vK I.2.1.2 I.1 λZ=>(jC (aU Z.2) J.1 (aD (ah,I.2)) (bF vK I.2.1.2 I.1 λY=>(iL (aU J.2.1) Y.1 (aD (ah,I.2)) (bF vK I.2.1.2 I.1 λU=>(aD ((!decide (((aU J.p2):Int)=U.1)),I.2)))))))) λM=>(bcase M.1 (aD ai) (cK ((cw I.1),M.2))))) (aD ah))) (0,x1.2))))
def uV (x:Int):Option (Int):=
 (jn (α:=Bool×List Int) (bu x 6 (aD (ah,[3,3,4,4,5,6,7,8,9,10,11,12,13,14,15,16,18,19,20,21,22,23,2])) (aD ((fG 28 x),[3,3,4,4,5,6,7,8,9,10,11,12,13,14,15,16,18,19,20,21,22,23,2]))) λx1=>(bcase x1.1 (aa 0) (kj aM x1.2 (be .i64 (x-6)) λI=>(aa I))))
def rf (x:jD×Int×(List Int)×(List (List Int))×Int):Option (Int):=
 (jn (α:=Bool×jD×Int×(List Int)×(List (List Int))×Int) (bc x.1.1 6 (aD ((decide ((x.1.1:Int)=6)),x)) (aD ((decide ((x.1.1:Int)=27)),x))) λx1=>(bcase x1.1 (aa x1.2.1.p2) (bc x.1.1 7 (bF aM x1.p3 x1.2.1.p3 λM=>(obind (qu (M,x1.2.1.p4)) λY=>(aa (be .i64 (x1.2.1.p2+Y))))) (bc x.1.1 9 (bF aM x1.p3 x1.2.1.p3 λJ=>(obind (qu (J,x1.2.1.p4)) λU=>(aa (be .i64 (x1.2.1.2.1+U))))) (jn (α:=Bool×Int×Int×Int×Int×Int×Int) (bc x.1.1 10 (aD ((decide ((x.1.1:Int)=10)),x1.2.1)) (bc x.1.1 17 (aD ((decide ((x.1.1:Int)=17)),x1.2.1)) (bc x.1.1 18 (aD ((decide ((x.1.1:Int)=18)),x1.2.1)) (bc x.1.1 19 (aD ((decide ((x.1.1:Int)=19)),x1.2.1)) (bc x.1.1 20 (aD ((decide ((x.1.1:Int)=20)),x1.2.1)) (aD ((decide ((x.1.1:Int)=28)),x1.2.1))))))) λI=>(bcase I.1 (aa (-1)) (aa I.p2)))))))
def mZ (x:yw×vI×Int):Option (gB×Bool):=
 (jn (α:=Bool×yw×vI×Int×Int×Int×Int×Int) (obind (uX (x.1,x.2.1)) λy2=>(bcase (!y2) (aD (ah,x.1,x.2.1,0,0,0,0,0)) (bu x.2.2 0 (aD (ah,x.1,x.2.1,0,0,0,0,0)) (aD ((cR (aU x.1.2) x.2.2),x.1,x.2.1,0,0,0,0,0))))) λx1=>(bcase x1.1 (aa ((0,0,0,0,0,([]:List Int),([]:List Int)),ai)) (bF eK x1.p2.q3 x.2.2 λZ=>(bF vK x1.2.1.2 x.2.2 λz4=>(bF qa z4.2 Z.1 λM=>(bF gR x1.p2.1.q3 x.2.2 λz6=>(bc z6.1 1 (aa ((x.2.2,1,(-1),0,(-1),([]:List Int),([]:List Int)),ah)) (bc z6.1 4 (bF gR x1.p2.1.q3 x.2.2 λz7=>(aa ((x.2.2,17,z7.2.1,0,M.q5,([]:List Int),([]:List Int)),ah))) (bc z6.1 2 (obind (uV M.1) λy8=>(obind (rf (M,Z)) λy9=>(bc y8 0 (aa ((0,0,0,0,0,([]:List Int),([]:List Int)),ai)) (jn (α:=uD×sI×jD×uD×List Int) (bc M.1 10 (bF (.sl aM) Z.p2 M.2.1 λz11=>(bA (a_ (ak (z11:List Int)) 8) (aD (x1.q3,Z,M,(x.2.2,y8,y9,0,M.q5),z11)))) (jn (α:=Bool×uD×sI×jD×Int×Int×Int×Int×Int) (bc M.1 7 (aD ((decide ((M.1:Int)=7)),x1.q3,Z,M,x.2.2,y8,y9,0,M.q5)) (aD ((decide ((M.1:Int)=9)),x1.q3,Z,M,x.2.2,y8,y9,0,M.q5))) λI=>(bcase I.1 (bF (.sl aM) I.p2.p2 I.p3.p3 λz13=>(bA (a_ (ak (z13:List Int)) 8) (aD (I.2.1,I.p2,I.p3,I.q4,z13)))) (aD (I.2.1,I.p2,I.p3,I.q4,([]:List Int)))))) λY=>(jn (α:=uD×uD×(List Int)×List Int) (jn (α:=Bool×uD×sI×jD×uD×List Int) (bc Y.p2.1 8 (aD (ah,Y)) (bc Y.p2.1 9 (aD (ah,Y)) (aD ((decide ((Y.p2.1:Int)=26)),Y)))) λJ=>(bcase J.1 (bF (.sl aM) J.p2.p2 J.p3.p2 λz16=>(bA (a_ (ak (z16:List Int)) 8) (aD (J.2.1,J.p4,J.q5,z16)))) (aD (J.2.1,J.p4,J.q5,([]:List Int))))) λU=>(aa ((U.2.1.1,U.2.1.2.1,U.2.1.p2,U.2.1.p3,U.2.1.q4,U.2.2),ah))))))) (aa ((0,0,0,0,0,([]:List Int),([]:List Int)),ai)))))))))))
def mn (x:gH×gq×(List eW)×b9×b9×List (Int×Int×Int)):Option eh:=
 (obind (qo x) λM=>(bA (cR 0 (aU x.p3)&&cR (aU x.p3) (aU x.p3)&&a_ (aR (aU x.p3)) 8) (bA (cR 0 (aU x.p4)&&cR (aU x.p4) (aU x.p4)&&a_ (aR (aU x.p4)) 8) (iter (σ:=Int×dL×Int×oB×(List Int)×(List Int)×List Int) (λI=>(bu I.1 (aU I.2.1.1) (bF ka I.2.1.1 I.1 λJ=>(bA (a_ (ak I.p4+ak ([J.2.2.2.2])) 8) (cK ((cw I.1),I.2.1,I.p2,I.p3,(I.p4++([J.2.2.2.2])),I.q5)))) (aD I.q3))) (0,x,0,M,([]:List Int),(aE (aR (aU x.p3)) (0:Int)),(aE (aR (aU x.p4)) (0:Int)))))))
def uU (x:dL×oB×(List Int)×(List Int)×List Int):Option (Bool):=
 (jn (α:=Bool) (obind (qp (x.1,x.2.1)) λI=>(bcase I (bc (aU x.p2) (aU x.1.1) (bc (aU x.p3) (aU x.1.p3) (aD (decide (((aU x.q4):Int)=(aU x.1.p4)))) (aD ai)) (aD ai)) (aD ai))) λx1=>(aa x1))
def BF (x:Int×Int):Option (Bool):=
 (jn (α:=Bool) (jC 0 x.1 (aD (fG x.1 x.2)) (aD ai)) λx1=>(aa x1))
def mY (x:(List Int)×Int):Option (Bool):=
 (iter (σ:=Int) (λx1=>(bu x1 (aU x.1) (jn (α:=Bool) (bF aM x.1 x1 λU=>(bu U 1 (aD ah) (bF aM x.1 x1 λM=>(jC x.2 M (aD ah) (bu 0 x1 (bF aM x.1 x1 λJ=>(bF aM x.1 (be .i64 (x1-1)) λI=>(aD (cR J I)))) (aD ai)))))) λY=>(bcase Y (aD ai) (cK (cw x1)))) (aD ah))) 0)
def sO (x:eh×Int×Int×Int×Int×Int×(List Int)×List Int):Option (Bool):=
 (bc x.p2 3 (bF aM x.1.2.1 x.p3 λU=>(aa (decide ((x.p4:Int)=U)))) (bc x.p2 23 (bF aM x.1.p2 x.p3 λM=>(aa (decide ((x.p4:Int)=M)))) (bc x.p2 5 (jn (α:=Bool) (bc x.p4 0 (aD ah) (aD (decide ((x.p4:Int)=1)))) λx3=>(aa x3)) (jn (α:=Bool×eh×Int×Int×Int×Int×Int×(List Int)×List Int) (bc x.p2 4 (aD ((decide ((x.p2:Int)=4)),x)) (aD ((decide ((x.p2:Int)=22)),x))) λI=>(bcase I.1 (aa ah) (bc x.p2 18 (obind (m6 (I.2.1.1,I.p4)) λJ=>(bc (aU J) 0 (aa (decide ((I.p5:Int)=(-1)))) (jn (α:=Bool) (jC 0 I.p5 (bu I.p5 (aU I.2.1.1.q3) (obind (pC (J,I.p5)) λZ=>(aD Z)) (aD ai)) (aD ai)) λx6=>(aa x6)))) (bc x.p2 19 (obind (m6 (I.2.1.1,I.p4)) λY=>(aa (decide ((I.p5:Int)=(aU Y))))) (aa (decide ((I.p5:Int)=0))))))))))
def qn (x:dL×eh×Int×Int×Int×Int×Int×(List Int)×List Int):Option (eh×Bool):=
 (jn (α:=Bool×dL×eh×gB×Int) (obind (uU (x.1,x.2.1)) λy2=>(bcase (!y2) (aD (ah,x.1,x.2.1,x.2.2,0)) (obind (BF (x.p2,(aU x.1.p4))) λy3=>(bcase (!y3) (aD (ah,x.1,x.2.1,x.2.2,0)) (bu x.p3 1 (aD (ah,x.1,x.2.1,x.2.2,0)) (bu 23 x.p3 (aD (ah,x.1,x.2.1,x.2.2,0)) (obind (jO (x.1,x.2.1.1,x.p2,x.p3,x.p4)) λy4=>(aD ((!y4),x.1,x.2.1,x.2.2,0))))))))) λx1=>(bcase x1.1 (aa (((([]:List (Int×List Int)),0,([]:List Bool),([]:List dh)),([]:List Int),([]:List Int),([]:List Int)),ai)) (jn (α:=dL×eh×gB×Int) (jn (α:=Bool×dL×eh×gB×Int) (bc x1.p3.2.1 1 (aD (ah,x1.2)) (aD ((decide ((x1.p3.2.1:Int)=2)),x1.2))) λx6=>(bcase x6.1 (iL x6.p3.p4 (-1) (cK (((([]:List (Int×List Int)),0,([]:List Bool),([]:List dh)),([]:List Int),([]:List Int),([]:List Int)),ai)) (aD x6.2)) (jn (α:=Bool×dL×eh×gB×Int) (obind (BF (x6.p3.p4,(aU x6.2.1.q5))) λy8=>(bcase (!y8) (aD (ah,x6.2)) (bF nQ x6.2.1.q5 x6.p3.p4 λz9=>(aD ((!decide ((z9.1:Int)=x6.p3.1)),x6.2))))) λx7=>(bcase x7.1 (cK (((([]:List (Int×List Int)),0,([]:List Bool),([]:List dh)),([]:List Int),([]:List Int),([]:List Int)),ai)) (aD x7.2))))) λx5=>(jn (α:=Bool×dL×eh×gB×Int) (bc x5.p2.2.1 3 (aD (ah,x5)) (aD ((decide ((x5.p2.2.1:Int)=4)),x5))) λZ=>(jn (α:=Bool×dL×eh×gB×Int) (bu 0 (aU Z.p3.p5) (iL Z.p3.2.1 5 (bcase Z.1 (bF ka Z.2.1.1 Z.p3.p2 λz12=>(aD ((!(!decide ((z12.2.2.1:Int)=0))),Z.2))) (aD (ah,Z.2))) (aD (ai,Z.2))) (aD (ai,Z.2))) λx11=>(bcase x11.1 (aa (((([]:List (Int×List Int)),0,([]:List Bool),([]:List dh)),([]:List Int),([]:List Int),([]:List Int)),ai)) (jn (α:=Bool×dL×eh×gB×Int) (bu 0 (aU x11.p3.q6) (iL x11.p3.2.1 4 (aD ((!decide ((x11.p3.2.1:Int)=22)),x11.2)) (aD (ai,x11.2))) (aD (ai,x11.2))) λU=>(bcase U.1 (aa (((([]:List (Int×List Int)),0,([]:List Bool),([]:List dh)),([]:List Int),([]:List Int),([]:List Int)),ai)) (jn (α:=Bool×dL×eh×gB×Int) (bF aM U.p2.q3 U.p3.1 λz15=>(obind (mY (U.p3.p5,z15)) λy16=>(bcase (!y16) (aD (ah,U.2)) (bF aM U.p2.q3 U.p3.1 λz17=>(obind (mY (U.p3.q6,z17)) λy18=>(bcase (!y18) (aD (ah,U.2)) (obind (sO (U.p2,U.p3)) λy19=>(aD ((!y19),U.2))))))))) λI=>(bcase I.1 (aa (((([]:List (Int×List Int)),0,([]:List Bool),([]:List dh)),([]:List Int),([]:List Int),([]:List Int)),ai)) (bA (a_ (ak ([]:List Int)+ak I.p2.2.1) 8) (bA (a_ (ak ([]:List Int)+ak I.p2.p2) 8) (bA (a_ (ak ([]:List Int)+ak I.p2.q3) 8) (jn (α:=Int×dL×eh×gB×Int×Int×(List Int)×(List Int)×List Int) (bc I.p3.2.1 18 (aD (I.p3.p3,I.2.1,I.p2,I.p3,I.q4,0,(([]:List Int)++I.p2.2.1),(([]:List Int)++I.p2.p2),(([]:List Int)++I.p2.q3))) (aD ((-1),I.2.1,I.p2,I.p3,I.q4,0,(([]:List Int)++I.p2.2.1),(([]:List Int)++I.p2.p2),(([]:List Int)++I.p2.q3)))) λJ=>(obind (oJ (J.2.1,J.p2.1,J.p3.1,J.p3.2.1,J.p3.p2,J.1)) λy21=>(jn (α:=gB×Int×oB×(List Int)×(List Int)×List Int) (bc J.p3.2.1 4 (ck (fD J.p3.p2 (ak J.p6)) (aD (J.p3,J.p4,y21.1,(cJ J.p6 J.p3.p2 J.p3.p3),J.q7))) (aD (J.p3,J.p4,y21.1,J.q6))) λM=>(jn (α:=gB×Int×oB×(List Int)×(List Int)×List Int) (bc M.1.2.1 22 (ck (fD M.1.p2 (ak M.p4)) (aD (M.1,M.2.1,M.p2,M.p3,(cJ M.p4 M.1.p2 M.1.p3),M.q5))) (aD M)) λY=>(kj aM Y.q5 Y.1.1 λz24=>(ck (fD Y.1.1 (ak Y.q5)) (aa ((Y.p2,Y.p3,Y.p4,(cJ Y.q5 Y.1.1 (cw z24))),ah)))))))))))))))))))))
def qm (x:(List gB)×Int×Int×List Int):Option (Bool):=
 (iter (σ:=Int) (λx1=>(bu x1 (aU x.q3) (iter (σ:=Int×Bool×Int) (λI=>(bu I.2.2 x.2.1 (jn (α:=Int×Bool) (bF iS x.1 I.2.2 λZ=>(iL Z.1 x.p2 (aD (I.1,I.2.1)) (jn (α:=Bool) (bcase I.2.1 (aD ah) (bF aM x.q3 x1 λY=>(bc I.1 Y (bF iS x.1 I.2.2 λU=>(bc U.2.1 3 (aD ah) (bF iS x.1 I.2.2 λM=>(aD (decide ((M.2.1:Int)=23)))))) (aD ai)))) λx5=>(aD ((cw I.1),x5))))) λJ=>(cK (J.1,J.2,(cw I.2.2)))) (obind (bcase (!I.2.1) (aD ai) (cK (cw x1))) λr=>aa (bZ r)))) (0,ai,0)) (aD ah))) 0)
def sP (x:dL×List gB):Option (Int×Int):=
 (bu 400 (aU x.2) (aa (0,2)) (obind (gO x.1) λy1=>(bcase (!y1) (aa (0,1)) (obind (mn x.1) λy2=>(iter (σ:=Int×(dL×List gB)×oB×(List Int)×(List Int)×List Int) (λI=>(bu I.1 (aU I.2.1.2) (bF iS I.2.1.2 I.1 λJ=>(obind (qn (I.2.1.1,I.2.2,J)) λM=>(jn (α:=Bool×(dL×List gB)×eh×oB×(List Int)×(List Int)×List Int) (bcase (!M.2) (aD (ah,I.2.1,I.2.2,M.1)) (obind (qm (I.2.1.2,I.1,J.1,J.p5)) λZ=>(bcase (!Z) (aD (ah,I.2.1,I.2.2,M.1)) (obind (qm (I.2.1.2,I.1,J.1,J.q6)) λY=>(aD ((!Y),I.2.1,I.2.2,M.1)))))) λU=>(bcase U.1 (aD (I.1,12)) (cK ((cw I.1),U.2.1,U.q3)))))) (aD (0,0)))) (0,x,y2))))))
def KG {Z W V:Type} (i:Int) (t1:Z->(List Int)->(List (List Int))->W) (t2:W->V) (t3:V->sI->List sI) (x6:Int) (I:yw×oB×(Int×Int)×Int×uD×gB×(Int×Int)×(List Int)×(List Int)×Z×(List Int)×List (List Int)):Option CO:=
 (jn (α:=oB×(Int×Int)×Int×uD×gB×sI×(List Int)×(List Int)×V) (jn (α:=Bool×yw×oB×(Int×Int)×Int×uD×gB×sI×(List Int)×(List Int)×W) (iL I.p5.2.1 16 (aD ((!decide ((I.p5.2.1:Int)=2)),I.1,I.2.1,I.p2,I.p3,I.p4,I.p5,(x6,I.p10,I.q11,(cw I.p6.2)),I.p7,I.p8,(t1 I.p9 I.p10 I.q11))) (aD (ai,I.1,I.2.1,I.p2,I.p3,I.p4,I.p5,(x6,I.p10,I.q11,(cw I.p6.2)),I.p7,I.p8,(t1 I.p9 I.p10 I.q11)))) λJ=>(bcase J.1 (bF vK J.2.1.2 J.p3.1 λU=>(obind (mG (U,J.p7)) λY=>(aD (J.p2,J.p3,J.p4,J.p5,J.p6,Y.1,J.p8,J.p9,(t2 J.q10))))) (aD (J.p2,J.p3,J.p4,J.p5,J.p6,J.p7,J.p8,J.p9,(t2 J.q10))))) λM=>(bc M.2.1.1 i (aa ((M.1,M.p6,M.p7,(t3 M.q8 M.p5)),M.p4,ah)) af))
def SG {Z:Type} (i:Int) (cp:(oB×(List Int)×(List Int)×List sI)->Option (Int×gp×(List Bool)×(List dh)×(List Int)×(List Int)×Z×(List Int)×List (List Int))) (Y ev:Z->Int) (k:Int->(yw×oB×(Int×Int)×Int×uD×gB×(Int×Int)×(List Int)×(List Int)×Z×(List Int)×List (List Int))->Option CO) (x:yw×vI×Int×Int):Option CO:=
 (obind (mZ (x.1,x.2.1,x.p2)) λM=>(bcase (!M.2) (aa (((([]:List (Int×List Int)),0,([]:List Bool),([]:List dh)),([]:List Int),([]:List Int),([]:List sI)),(0,0,0,0,0,([]:List Int),([]:List Int)),ai)) (obind (oJ (x.1.1,x.2.1.1,x.p2,M.1.2.1,M.1.p2,x.q3)) λy2=>(bcase (!y2.2.2) (aa (((([]:List (Int×List Int)),0,([]:List Bool),([]:List dh)),([]:List Int),([]:List Int),([]:List sI)),(0,0,0,0,0,([]:List Int),([]:List Int)),ai)) (obind (cp x.2.1) λU=>(bc x.p2 i (bF vK x.1.2 i λz4=>(bF qa z4.2 (Y U.p6) λz5=>(jn (α:=Int×yw×oB×(Int×Int)×Int×uD×gB×(Int×Int)×jD×(List Int)×(List Int)×Z×(List Int)×List (List Int)) (jn (α:=Bool×yw×oB×(Int×Int)×Int×uD×gB×(Int×Int)×jD×(List Int)×(List Int)×Z×(List Int)×List (List Int)) (bc M.1.2.1 1 (aD ((decide ((M.1.2.1:Int)=1)),x.1,y2.1,(i,x.q3),0,(0,0,0,0,0),(M.1.1,M.1.2.1,M.1.p2,y2.2.1,M.1.q4),((Y U.p6),(ev U.p6)),z5,U.q4)) (bc M.1.2.1 16 (aD ((decide ((M.1.2.1:Int)=16)),x.1,y2.1,(i,x.q3),0,(0,0,0,0,0),(M.1.1,M.1.2.1,M.1.p2,y2.2.1,M.1.q4),((Y U.p6),(ev U.p6)),z5,U.q4)) (aD ((decide ((M.1.2.1:Int)=2)),x.1,y2.1,(i,x.q3),0,(0,0,0,0,0),(M.1.1,M.1.2.1,M.1.p2,y2.2.1,M.1.q4),((Y U.p6),(ev U.p6)),z5,U.q4)))) λI=>(bcase I.1 (aD (I.p7.1,I.2)) (bc M.1.2.1 3 (kj aM I.p9 I.p6.p2 λz8=>(aD ((be .i64 ((Y U.p6)+1)),I.2.1,I.p2,I.p3,I.p4,I.p5,(I.p6.1,I.p6.2.1,I.p6.p2,z8,I.p6.q4),I.q7))) (bc M.1.2.1 23 (kj aM I.p10 I.p6.p2 λz9=>(aD ((be .i64 ((Y U.p6)+1)),I.2.1,I.p2,I.p3,I.p4,I.p5,(I.p6.1,I.p6.2.1,I.p6.p2,z9,I.p6.q4),I.q7))) (bc M.1.2.1 4 (kj aM I.p12 I.p8.p2 λz10=>(ck (fD I.p6.p2 (ak I.p9)) (aD ((be .i64 ((Y U.p6)+1)),I.2.1,I.p2,I.p3,I.p4,I.p5,(I.p6.1,I.p6.2.1,I.p6.p2,z10,I.p6.q4),I.p7,I.p8,(cJ I.p9 I.p6.p2 z10),I.q10)))) (bc M.1.2.1 22 (kj aM I.p12 I.p8.p2 λz11=>(ck (fD I.p6.p2 (ak I.p10)) (aD ((be .i64 ((Y U.p6)+1)),I.2.1,I.p2,I.p3,I.p4,I.p5,(I.p6.1,I.p6.2.1,I.p6.p2,z11,I.p6.q4),I.p7,I.p8,I.p9,(cJ I.p10 I.p6.p2 z11),I.q11)))) (bc M.1.2.1 5 (kj aM I.p12 I.p8.2.1 λz12=>(bc z12 0 (aD (I.p8.p2,I.2.1,I.p2,I.p3,I.p4,I.p5,(I.p6.1,I.p6.2.1,I.p6.p2,0,I.p6.q4),I.q7)) (aD ((be .i64 ((Y U.p6)+1)),I.2.1,I.p2,I.p3,I.p4,I.p5,(I.p6.1,I.p6.2.1,I.p6.p2,1,I.p6.q4),I.q7)))) (aD ((be .i64 ((Y U.p6)+1)),I.2))))))))) λx6=>(jn (α:=yw×oB×(Int×Int)×Int×uD×gB×(Int×Int)×(List Int)×(List Int)×Z×(List Int)×List (List Int)) (jn (α:=Bool×yw×oB×(Int×Int)×Int×uD×gB×(Int×Int)×jD×(List Int)×(List Int)×Z×(List Int)×List (List Int)) (bc x6.p6.2.1 3 (aD (ah,x6.2)) (aD ((decide ((x6.p6.2.1:Int)=23)),x6.2))) λJ=>(bcase J.1 (ck (fD J.p8.2.1 (ak J.p12)) (ck (fD J.p8.2.1 (ak J.q13)) (aD (J.2.1,J.p2,J.p3,J.p4,J.p5,J.p6,J.p7,J.p9,J.p10,J.p11,(cJ J.p12 J.p8.2.1 J.p6.p3),(cJ J.q13 J.p8.2.1 ([J.p7.2])))))) (aD (J.2.1,J.p2,J.p3,J.p4,J.p5,J.p6,J.p7,J.q9)))) λx13=>(k x6.1 x13))))) af))))))
def mF (x:oB×(List Int)×(List Int)×List sI):Option (Int×gp×(List Bool)×(List dh)×(List Int)×(List Int)×(Int×Int)×(List Int)×List (List Int)):=
 (obind (gZ x.1) λI=>(bA (a_ (ak ([]:List Int)+ak x.2.1) 8) (bA (a_ (ak ([]:List Int)+ak x.p2) 8) (bu 0 (aU x.q3) (bF eK x.q3 0 λM=>(obind (ca M) λU=>(bu 1 (aU x.q3) (bF eK x.q3 1 λJ=>(obind (ca J) λY=>af)) (aa (I.1,I.2.1,I.p2,I.q3,(([]:List Int)++x.2.1),(([]:List Int)++x.p2),U))))) af))))
def fO (x:yw×vI×Int×Int):Option CO:=
 SG 0 mF (λz=>z.1) (λz=>z.2) (KG 0 (λz R T=>(z.1,R,T,z.2)) (λw=>((w.1,w.2.1,w.2.2.1,w.2.2.2))) (λv t=>[t])) x
def mE (x:oB×(List Int)×(List Int)×List sI):Option (Int×gp×(List Bool)×(List dh)×(List Int)×(List Int)×Ya29×(List Int)×List (List Int)):=
 (obind (gZ x.1) λJ=>(bA (a_ (ak ([]:List Int)+ak x.2.1) 8) (bA (a_ (ak ([]:List Int)+ak x.p2) 8) (bu 0 (aU x.q3) (bF eK x.q3 0 λZ=>(obind (ca Z) λM=>(bu 1 (aU x.q3) (bF eK x.q3 1 λY=>(obind (ca Y) λI=>(bu 2 (aU x.q3) (bF eK x.q3 2 λU=>(obind (ca U) λy7=>af)) (aa (J.1,J.2.1,J.p2,J.q3,(([]:List Int)++x.2.1),(([]:List Int)++x.p2),(M.1.1,M.1.2,I.1.1,I.2.1,I.2.2,I.1.2),M.2))))) af))) af))))
def gj (x:yw×vI×Int×Int):Option CO:=
 SG 0 mE (λz=>z.1) (λz=>z.2.1) (KG 0 (λz R T=>(z.1,R,T,z.2.1,z.2.2)) (λw=>((w.1,w.2.1,w.2.2.1,w.2.2.2.1),w.2.2.2.2)) (λv t=>[t,v.2])) x
def mD (x:oB×(List Int)×(List Int)×List sI):Option (Int×gp×(List Bool)×(List dh)×(List Int)×(List Int)×(sI×Int×Int)×(List Int)×List (List Int)):=
 (obind (gZ x.1) λJ=>(bA (a_ (ak ([]:List Int)+ak x.2.1) 8) (bA (a_ (ak ([]:List Int)+ak x.p2) 8) (bu 0 (aU x.q3) (bF eK x.q3 0 λZ=>(obind (ca Z) λI=>(bu 1 (aU x.q3) (bF eK x.q3 1 λY=>(obind (ca Y) λM=>(bu 2 (aU x.q3) (bF eK x.q3 2 λU=>(obind (ca U) λy7=>af)) (aa (J.1,J.2.1,J.p2,J.q3,(([]:List Int)++x.2.1),(([]:List Int)++x.p2),((I.1.1,I.2.1,I.2.2,I.1.2),M.1),M.2))))) af))) af))))
def fM (x:yw×vI×Int×Int):Option CO:=
 SG 1 mD (λz=>z.2.1) (λz=>z.2.2) (KG 1 (λz R T=>(z.1,z.2.1,R,T,z.2.2)) (λw=>(w.1,(w.2.1,w.2.2.1,w.2.2.2.1,w.2.2.2.2))) (λv t=>[v.1,t])) x
def mC (x:oB×(List Int)×(List Int)×List sI):Option (Int×gp×(List Bool)×(List dh)×(List Int)×(List Int)×Ya27×(List Int)×List (List Int)):=
 (obind (gZ x.1) λM=>(bA (a_ (ak ([]:List Int)+ak x.2.1) 8) (bA (a_ (ak ([]:List Int)+ak x.p2) 8) (bu 0 (aU x.q3) (bF eK x.q3 0 λz2=>(obind (ca z2) λU=>(bu 1 (aU x.q3) (bF eK x.q3 1 λz4=>(obind (ca z4) λJ=>(bu 2 (aU x.q3) (bF eK x.q3 2 λZ=>(obind (ca Z) λI=>(bu 3 (aU x.q3) (bF eK x.q3 3 λY=>(obind (ca Y) λy9=>af)) (aa (M.1,M.2.1,M.p2,M.q3,(([]:List Int)++x.2.1),(([]:List Int)++x.p2),(U.1.1,U.1.2,(J.1.1,J.2.1,J.2.2,J.1.2),I.1.1,I.2.1,I.2.2,I.1.2),U.2))))) af))) af))) af))))
def iZ (x:yw×vI×Int×Int):Option CO:=
 SG 0 mC (λz=>z.1) (λz=>z.2.1) (KG 0 (λz R T=>(z.1,R,T,z.2.1,z.p2,z.q3)) (λw=>((w.1,w.2.1,w.2.2.1,w.2.2.2.1),w.2.2.2.2.1,w.2.2.2.2.2)) (λv t=>[t,v.2.1,v.2.2])) x
def mB (x:oB×(List Int)×(List Int)×List sI):Option (Int×gp×(List Bool)×(List dh)×(List Int)×(List Int)×Ya28×(List Int)×List (List Int)):=
 (obind (gZ x.1) λM=>(bA (a_ (ak ([]:List Int)+ak x.2.1) 8) (bA (a_ (ak ([]:List Int)+ak x.p2) 8) (bu 0 (aU x.q3) (bF eK x.q3 0 λz2=>(obind (ca z2) λJ=>(bu 1 (aU x.q3) (bF eK x.q3 1 λz4=>(obind (ca z4) λU=>(bu 2 (aU x.q3) (bF eK x.q3 2 λZ=>(obind (ca Z) λI=>(bu 3 (aU x.q3) (bF eK x.q3 3 λY=>(obind (ca Y) λy9=>af)) (aa (M.1,M.2.1,M.p2,M.q3,(([]:List Int)++x.2.1),(([]:List Int)++x.p2),((J.1.1,J.2.1,J.2.2,J.1.2),U.1.1,U.1.2,I.1.1,I.2.1,I.2.2,I.1.2),U.2))))) af))) af))) af))))
def ik (x:yw×vI×Int×Int):Option CO:=
 SG 1 mB (λz=>z.2.1) (λz=>z.p2) (KG 1 (λz R T=>(z.1,z.2.1,R,T,z.p2,z.q3)) (λw=>(w.1,(w.2.1,w.2.2.1,w.2.2.2.1,w.2.2.2.2.1),w.2.2.2.2.2)) (λv t=>[v.1,t,v.2.2])) x
def mA (x:oB×(List Int)×(List Int)×List sI):Option (Int×gp×(List Bool)×(List dh)×(List Int)×(List Int)×(sI×sI×Int×Int)×(List Int)×List (List Int)):=
 (obind (gZ x.1) λM=>(bA (a_ (ak ([]:List Int)+ak x.2.1) 8) (bA (a_ (ak ([]:List Int)+ak x.p2) 8) (bu 0 (aU x.q3) (bF eK x.q3 0 λz2=>(obind (ca z2) λJ=>(bu 1 (aU x.q3) (bF eK x.q3 1 λz4=>(obind (ca z4) λI=>(bu 2 (aU x.q3) (bF eK x.q3 2 λZ=>(obind (ca Z) λU=>(bu 3 (aU x.q3) (bF eK x.q3 3 λY=>(obind (ca Y) λy9=>af)) (aa (M.1,M.2.1,M.p2,M.q3,(([]:List Int)++x.2.1),(([]:List Int)++x.p2),((J.1.1,J.2.1,J.2.2,J.1.2),(I.1.1,I.2.1,I.2.2,I.1.2),U.1),U.2))))) af))) af))) af))))
def gM (x:yw×vI×Int×Int):Option CO:=
 SG 2 mA (λz=>z.p2) (λz=>z.q3) (KG 2 (λz R T=>(z.1,z.2.1,z.p2,R,T,z.q3)) (λw=>(w.1,w.2.1,(w.2.2.1,w.2.2.2.1,w.2.2.2.2.1,w.2.2.2.2.2))) (λv t=>[v.1,v.2.1,t])) x
def mz (x:oB×(List Int)×(List Int)×List sI):Option (Int×gp×(List Bool)×(List dh)×(List Int)×(List Int)×Ya23×(List Int)×List (List Int)):=
 (obind (gZ x.1) λU=>(bA (a_ (ak ([]:List Int)+ak x.2.1) 8) (bA (a_ (ak ([]:List Int)+ak x.p2) 8) (bu 0 (aU x.q3) (bF eK x.q3 0 λz2=>(obind (ca z2) λZ=>(bu 1 (aU x.q3) (bF eK x.q3 1 λz4=>(obind (ca z4) λM=>(bu 2 (aU x.q3) (bF eK x.q3 2 λz6=>(obind (ca z6) λJ=>(bu 3 (aU x.q3) (bF eK x.q3 3 λz8=>(obind (ca z8) λI=>(bu 4 (aU x.q3) (bF eK x.q3 4 λY=>(obind (ca Y) λy11=>af)) (aa (U.1,U.2.1,U.p2,U.q3,(([]:List Int)++x.2.1),(([]:List Int)++x.p2),(Z.1.1,Z.1.2,(M.1.1,M.2.1,M.2.2,M.1.2),(J.1.1,J.2.1,J.2.2,J.1.2),I.1.1,I.2.1,I.2.2,I.1.2),Z.2))))) af))) af))) af))) af))))
def mq (x:yw×vI×Int×Int):Option CO:=
 SG 0 mz (λz=>z.1) (λz=>z.2.1) (KG 0 (λz R T=>(z.1,R,T,z.2.1,z.p2,z.p3,z.q4)) (λw=>((w.1,w.2.1,w.2.2.1,w.2.2.2.1),w.2.2.2.2.1,w.2.2.2.2.2.1,w.2.2.2.2.2.2)) (λv t=>[t,v.2.1,v.2.2.1,v.2.2.2])) x
def my (x:oB×(List Int)×(List Int)×List sI):Option (Int×gp×(List Bool)×(List dh)×(List Int)×(List Int)×Ya24×(List Int)×List (List Int)):=
 (obind (gZ x.1) λU=>(bA (a_ (ak ([]:List Int)+ak x.2.1) 8) (bA (a_ (ak ([]:List Int)+ak x.p2) 8) (bu 0 (aU x.q3) (bF eK x.q3 0 λz2=>(obind (ca z2) λM=>(bu 1 (aU x.q3) (bF eK x.q3 1 λz4=>(obind (ca z4) λZ=>(bu 2 (aU x.q3) (bF eK x.q3 2 λz6=>(obind (ca z6) λJ=>(bu 3 (aU x.q3) (bF eK x.q3 3 λz8=>(obind (ca z8) λI=>(bu 4 (aU x.q3) (bF eK x.q3 4 λY=>(obind (ca Y) λy11=>af)) (aa (U.1,U.2.1,U.p2,U.q3,(([]:List Int)++x.2.1),(([]:List Int)++x.p2),((M.1.1,M.2.1,M.2.2,M.1.2),Z.1.1,Z.1.2,(J.1.1,J.2.1,J.2.2,J.1.2),I.1.1,I.2.1,I.2.2,I.1.2),Z.2))))) af))) af))) af))) af))))
def mo (x:yw×vI×Int×Int):Option CO:=
 SG 1 my (λz=>z.2.1) (λz=>z.p2) (KG 1 (λz R T=>(z.1,z.2.1,R,T,z.p2,z.p3,z.q4)) (λw=>(w.1,(w.2.1,w.2.2.1,w.2.2.2.1,w.2.2.2.2.1),w.2.2.2.2.2.1,w.2.2.2.2.2.2)) (λv t=>[v.1,t,v.2.2.1,v.2.2.2])) x
def mw (x:oB×(List Int)×(List Int)×List sI):Option (Int×gp×(List Bool)×(List dh)×(List Int)×(List Int)×Ya25×(List Int)×List (List Int)):=
 (obind (gZ x.1) λU=>(bA (a_ (ak ([]:List Int)+ak x.2.1) 8) (bA (a_ (ak ([]:List Int)+ak x.p2) 8) (bu 0 (aU x.q3) (bF eK x.q3 0 λz2=>(obind (ca z2) λM=>(bu 1 (aU x.q3) (bF eK x.q3 1 λz4=>(obind (ca z4) λJ=>(bu 2 (aU x.q3) (bF eK x.q3 2 λz6=>(obind (ca z6) λZ=>(bu 3 (aU x.q3) (bF eK x.q3 3 λz8=>(obind (ca z8) λI=>(bu 4 (aU x.q3) (bF eK x.q3 4 λY=>(obind (ca Y) λy11=>af)) (aa (U.1,U.2.1,U.p2,U.q3,(([]:List Int)++x.2.1),(([]:List Int)++x.p2),((M.1.1,M.2.1,M.2.2,M.1.2),(J.1.1,J.2.1,J.2.2,J.1.2),Z.1.1,Z.1.2,I.1.1,I.2.1,I.2.2,I.1.2),Z.2))))) af))) af))) af))) af))))
def kM (x:yw×vI×Int×Int):Option CO:=
 SG 2 mw (λz=>z.p2) (λz=>z.p3) (KG 2 (λz R T=>(z.1,z.2.1,z.p2,R,T,z.p3,z.q4)) (λw=>(w.1,w.2.1,(w.2.2.1,w.2.2.2.1,w.2.2.2.2.1,w.2.2.2.2.2.1),w.2.2.2.2.2.2)) (λv t=>[v.1,v.2.1,t,v.2.2.2])) x
def mr (x:oB×(List Int)×(List Int)×List sI):Option (Int×gp×(List Bool)×(List dh)×(List Int)×(List Int)×Ya42×(List Int)×List (List Int)):=
 (obind (gZ x.1) λU=>(bA (a_ (ak ([]:List Int)+ak x.2.1) 8) (bA (a_ (ak ([]:List Int)+ak x.p2) 8) (bu 0 (aU x.q3) (bF eK x.q3 0 λz2=>(obind (ca z2) λM=>(bu 1 (aU x.q3) (bF eK x.q3 1 λz4=>(obind (ca z4) λJ=>(bu 2 (aU x.q3) (bF eK x.q3 2 λz6=>(obind (ca z6) λI=>(bu 3 (aU x.q3) (bF eK x.q3 3 λz8=>(obind (ca z8) λZ=>(bu 4 (aU x.q3) (bF eK x.q3 4 λY=>(obind (ca Y) λy11=>af)) (aa (U.1,U.2.1,U.p2,U.q3,(([]:List Int)++x.2.1),(([]:List Int)++x.p2),((M.1.1,M.2.1,M.2.2,M.1.2),(J.1.1,J.2.1,J.2.2,J.1.2),(I.1.1,I.2.1,I.2.2,I.1.2),Z.1),Z.2))))) af))) af))) af))) af))))
def jN (x:yw×vI×Int×Int):Option CO:=
 SG 3 mr (λz=>z.p3) (λz=>z.q4) (KG 3 (λz R T=>(z.1,z.2.1,z.p2,z.p3,R,T,z.q4)) (λw=>(w.1,w.2.1,w.2.2.1,(w.2.2.2.1,w.2.2.2.2.1,w.2.2.2.2.2.1,w.2.2.2.2.2.2))) (λv t=>[v.1,v.2.1,v.2.2.1,t])) x
def yK (x:yw×vI×Int×Int):Option CO:=orE (mq x) (orE (mo x) (orE (kM x) (orE (jN x) (orE (iZ x) (orE (ik x) (orE (gM x) (orE (gj x) (orE (fM x) (fO x)))))))))
def uW (x:yw×vI×List (Int×Int)):Option ((List gB)×oB×(List Int)×(List Int)×List sI):=
 (iter (σ:=Int×(List gB)×yw×vI×Int) (λx1=>(jn (α:=Bool×(List gB)×yw×vI×Int) (bu x1.1 (aU x.2.2) (aD ((fG (aU x1.2.1) 400),x1.2)) (aD (ai,x1.2))) λI=>(bcase I.1 (jn (α:=(List gB)×yw×vI×Int) (bF ip x.2.2 x1.1 λM=>(obind (yK (I.p2,I.p3,M)) λJ=>(bcase J.2.2 (bA (a_ (ak I.2.1+ak ([J.2.1])) 88) (aD ((I.2.1++([J.2.1])),I.p2,J.1,I.q4))) (aD I.2)))) λU=>(cK ((cw x1.1),U))) (aD (I.2.1,I.p3))))) (0,([]:List gB),x.1,x.2.1,0))
def xI (x:yw×List (Int×Int)):Option ((dL×List gB)×oB×(List Int)×(List Int)×List sI):=
 (obind (jk x.1) λM=>(bcase (!M) (aa (((([]:List QM),([]:List ((List UInt8)×Bool)),([]:List eW),([]:List (List UInt8)),([]:List (List UInt8)),([]:List (Int×Int×Int))),([]:List gB)),(([]:List (Int×List Int)),0,([]:List Bool),([]:List dh)),([]:List Int),([]:List Int),([]:List sI))) (obind (sQ x.1) λJ=>(obind (uW (x.1,J,x.2)) λI=>(aa ((x.1.1,I.1),I.2))))))
def bp (x:Int×(List Int)×Int):Option (Int×(List Int)×Int):=
 (jn (α:=Bool×(List Int)×Int) (jC (aU x.2.1) x.2.2 (aD (ah,x.2)) (aD ((fG x.1 1),x.2))) λx1=>(bcase x1.1 (aa (0,x1.2)) (lt (cw x1.2.2) λJ=>(bF (.int .u8) x1.2.1 (be .i64 (J-1)) λI=>(bA (!decide ((x.1:Int)=0)) (aa ((p_ (be .i64 I) x.1),x1.2.1,(cw x1.2.2))))))))
def qy (x:Int):Option (Xp):=
 (aa (dQ (1,x,[],([]:List Xp))))
def oO (x:List UInt8):Option (Xp):=
 (aa (dQ (2,0,x,([]:List Xp))))
def m_ (x:Int×Xp×Xp):Option (Xp):=
 (aa (dQ (x.1,0,[],[dQ ((Xp.op x.2.1),(Xp.n x.2.1),(Xp.name x.2.1),(Xp.l x.2.1)),dQ ((Xp.op x.2.2),(Xp.n x.2.2),(Xp.name x.2.2),(Xp.l x.2.2))])))
def iW (x:(List UInt8)×Xp):Option (Sx):=
 (aa (ne (1,0,x.1,[],([]:List Xp),dQ ((Xp.op x.2),(Xp.n x.2),(Xp.name x.2),(Xp.l x.2)),([]:List Sx),([]:List Sx))))
def ri (x:Unit):Option qZ:=
 (aa ([(1,0,[120],0,0,[]),(1,0,[121],0,1,[]),(2,0,[118],0,0,[]),(1,0,[113],2,0,[]),(3,0,[109],0,0,[]),(3,0,[110],0,0,[]),(4,0,[114],0,0,[]),(5,0,[99],0,0,[109]),(6,0,[102],0,0,[])]))
def oc (x:List Int):Option (List (Int×Int)):=
 (iter (σ:=Int×List (Int×Int)) (λx1=>(bu x1.1 (aU x) (bF (.int .u8) x x1.1 λJ=>(bF (.int .u8) x x1.1 λI=>(bA (a_ (ak x1.2+ak ([((p_ (be .i64 J) 4),(be .i64 ((p_ (be .i64 (Int.tdiv (be .i64 I) 4)) 5)-1)))])) 16) (cK ((cw x1.1),(x1.2++([((p_ (be .i64 J) 4),(be .i64 ((p_ (be .i64 (Int.tdiv (be .i64 I) 4)) 5)-1)))]))))))) (aD x1.2))) (0,([]:List (Int×Int))))
def nu (rmade_maker_expr:WG->Option abp) (x:Int×xx×fx×Bool×List (List UInt8)):Option abp:=
 (obind (bp (10,x.p2)) λZ=>(jn (α:=Bool×xx×fx×QN×(Int×Int×List UInt8)×List (List UInt8)) (bu Z.1 2 (aD (ah,x.2.1,Z.2,x.q3,(0,0,[]),[[97],[98],[120],[121],[118],[120],[121]])) (bc x.1 0 (aD ((cR 7 Z.1),x.2.1,Z.2,x.q3,(0,0,[]),[[97],[98],[120],[121],[118],[120],[121]])) (aD (ai,x.2.1,Z.2,x.q3,(0,0,[]),[[97],[98],[120],[121],[118],[120],[121]])))) λI=>(bcase I.1 (obind (bp (4,I.p2)) λy3=>(obind (qy y3.1) λy4=>(aa (dQ ((Xp.op y4),(Xp.n y4),(Xp.name y4),(Xp.l y4)),I.2.1,y3.2,I.p3)))) (bu Z.1 7 (obind (bp ((aU I.q5),I.p2)) λy5=>(kj (.str) I.q5 y5.1 λz6=>(obind (oO z6) λy7=>(aa (dQ ((Xp.op y7),(Xp.n y7),(Xp.name y7),(Xp.l y7)),I.2.1,y5.2,I.p3))))) (bc Z.1 7 (obind (rmade_maker_expr (0,I.2.1,I.p2,I.p3)) λY=>(bA (((I.p3.1==Y.p3)&&ah)&&aA (ak I.p3.2) (ak Y.q4)&&ah) (aa (dQ (3,0,[113],[dQ ((Xp.op Y.1),(Xp.n Y.1),(Xp.name Y.1),(Xp.l Y.1))]),Y.2)))) (obind (bp ((aN (ak ([6,7,8,11,13,17]))),I.p2)) λy9=>(kj aM ([6,7,8,11,13,17]) y9.1 λz10=>(obind (rmade_maker_expr ((be .i64 (x.1-1)),I.2.1,y9.2,I.p3)) λJ=>(bA (((I.p3.1==J.p3)&&ah)&&aA (ak I.p3.2) (ak J.q4)&&ah) (obind (rmade_maker_expr ((be .i64 (x.1-1)),J.2)) λU=>(bA (((J.p3==U.p3)&&ah)&&aA (ak J.q4) (ak U.q4)&&ah) (obind (m_ (z10,J.1,U.1)) λM=>(aa (dQ ((Xp.op M),(Xp.n M),(Xp.name M),(Xp.l M)),U.2))))))))))))))
def hX:Nat->WG->Option abp
 |0,_=>af
 |n+1,x=>nu (hX n) x
theorem xt (n:Nat) (x:Int×xx×fx×Bool×List (List UInt8)):hX (n+1) x=nu (hX n) x:=rfl
def eR (x:Int×xx×fx×Bool×List (List UInt8)):Option abp:=hX fuel x
def eA (x:(List UInt8)×xx×fx×Bool×List (List UInt8)):Option (Bool×xx×fx×Bool×List (List UInt8)):=
 (obind (iG (x.q4,x.1)) λI=>(aa ((cR 0 I),x.2)))
def mb (rmade_maker_stmts:abr->Option WF) (rmade_maker_stmt:WG->Option Zl) (rmade_maker_block:abq->Option Zm) (x:(Int×Int)×xx×fx×Bool×List (List UInt8)):Option WF:=
 (iter (σ:=Int×xx×fx×(List Sx)×Bool×List (List UInt8)) (λx1=>(jn (α:=Bool×xx×fx×(List Sx)×Bool×List (List UInt8)) (bu x1.1 x.1.2 (bc x1.1 0 (aD (ah,x1.2)) (aD ((fG 0 x1.2.1.2.1),x1.2))) (aD (ai,x1.2))) λI=>(bcase I.1 (obind (rmade_maker_stmt (x.1.1,I.2.1,I.p2,I.q4)) λJ=>(bA (((I.p4==I.p4)&&ah)&&aA (ak I.q5) (ak I.q5)&&ah) (bA (a_ (ak I.p3+ak ([dS J.1])) 176) (cK ((cw x1.1),J.2.1,J.p2,(I.p3++([dS J.1])),J.q3))))) (aD (I.2.1,I.p2,I.q4,I.p3))))) (0,x.2.1,x.p2,([]:List Sx),x.q3))
def nl (rmade_maker_stmts:abr->Option WF) (rmade_maker_stmt:WG->Option Zl) (rmade_maker_block:abq->Option Zm) (x:Int×xx×fx×Bool×List (List UInt8)):Option Zl:=
 (obind (bp (18,x.p2)) λy1=>(jn (α:=Bool×xx×fx×FP×Bool×List (List UInt8)) (bu 0 x.1 (lt (be .i64 (x.2.1.2.1-1)) λz3=>(bu 0 z3 (aD ((!x.2.1.p3),(x.2.1.1,(be .i64 (x.2.1.2.1-1)),x.2.1.2.2),y1.2,(0,0,[],[],0,0,[]),x.q3)) (aD (ai,(x.2.1.1,(be .i64 (x.2.1.2.1-1)),x.2.1.2.2),y1.2,(0,0,[],[],0,0,[]),x.q3)))) (aD (ai,(x.2.1.1,(be .i64 (x.2.1.2.1-1)),x.2.1.2.2),y1.2,(0,0,[],[],0,0,[]),x.q3))) λx2=>(bu y1.1 4 (kj (.str) ([[120],[121],[120],[118]]) y1.1 λz4=>(obind (eR (1,x2.2.1,x2.p2,x2.q4)) λy5=>(bA (((x2.p4==y5.p3)&&ah)&&aA (ak x2.q5) (ak y5.q4)&&ah) (obind (iW (z4,y5.1)) λy6=>(aa (dS y6,y5.2)))))) (bc y1.1 4 (obind (bp (2,x2.p2)) λy7=>(kj (.str) ([[97],[98]]) y7.1 λz8=>(obind (eR (1,x2.2.1,y7.2,x2.q4)) λy9=>(bA (((x2.p4==y9.p3)&&ah)&&aA (ak x2.q5) (ak y9.q4)&&ah) (obind (iW (z8,y9.1)) λy10=>(aa (dS y10,y9.2))))))) (bc y1.1 5 (obind (eR (0,x2.2.1,x2.p2,x2.q4)) λy11=>(bA (((x2.p4==y11.p3)&&ah)&&aA (ak x2.q5) (ak y11.q4)&&ah) (obind (eR (1,y11.2)) λy12=>(bA (((y11.p3==y12.p3)&&ah)&&aA (ak y11.q4) (ak y12.q4)&&ah) (aa (ne (1,0,[113],[],[dQ ((Xp.op y11.1),(Xp.n y11.1),(Xp.name y11.1),(Xp.l y11.1))],dQ ((Xp.op y12.1),(Xp.n y12.1),(Xp.name y12.1),(Xp.l y12.1)),([]:List Sx),([]:List Sx)),y12.2)))))) (jn (α:=Bool×xx×fx×FP×Bool×List (List UInt8)) (bc y1.1 6 (aD ((fG 0 x.1),x2.2)) (aD (ai,x2.2))) λx13=>(bcase x13.1 (obind (eR (1,x13.2.1,x13.p2,x13.q4)) λU=>(bA (((x13.p4==U.p3)&&ah)&&aA (ak x13.q5) (ak U.q4)&&ah) (obind (rmade_maker_stmts (((be .i64 (x.1-1)),1),U.2)) λy15=>(bA (((U.p3==U.p3)&&ah)&&aA (ak U.q4) (ak U.q4)&&ah) (jn (α:=xx×fx×FP×(Int×Int×(List UInt8)×(List UInt8)×Int×Int×(List UInt8)×List Xp)×QN×(List Sx)×List Sx) (obind (bp (2,y15.2.1)) λy17=>(bc y17.1 1 (obind (rmade_maker_stmts (((be .i64 (x.1-1)),1),y15.1,y17.2,y15.p2)) λy18=>(bA (((y15.p2.1==y15.p2.1)&&ah)&&aA (ak y15.p2.2) (ak y15.p2.2)&&ah) (aD (y18.1,y18.2.1,x13.p3,(2,0,[],[],(Xp.op U.1),(Xp.n U.1),(Xp.name U.1),(Xp.l U.1)),y18.p2,y15.q3,y18.q3)))) (aD (y15.1,y17.2,x13.p3,(2,0,[],[],(Xp.op U.1),(Xp.n U.1),(Xp.name U.1),(Xp.l U.1)),y15.p2,y15.q3,([]:List Sx))))) λx16=>(aa (ne (x16.p3.1,x16.p3.2.1,x16.p3.p2,x16.p3.p3,([]:List Xp),dQ x16.p3.q4,x16.q5),x16.1,x16.2.1,x16.p4))))))) (jn (α:=Bool×xx×fx×FP×Bool×List (List UInt8)) (bc y1.1 7 (aD ((fG 0 x.1),x13.2)) (aD (ai,x13.2))) λI=>(bcase I.1 (obind (oO ([98])) λy20=>(obind (qy 2) λy21=>(obind (m_ (13,y20,y21)) λy22=>(obind (rmade_maker_stmts (((be .i64 (x.1-1)),1),(I.2.1.1,I.2.1.2.1,I.2.1.p2,I.2.1.p3,I.2.1.p4,ah),I.p2,I.q4)) λy23=>(bA (((I.p4==I.p4)&&ah)&&aA (ak I.q5) (ak I.q5)&&ah) (obind (oO ([98])) λy24=>(obind (qy 1) λy25=>(obind (m_ (6,y24,y25)) λy26=>(obind (iW ([98],y26)) λy27=>(bA (a_ (ak y23.q3+ak ([dS y27])) 176) (aa (ne (3,0,[],[],([]:List Xp),dQ ((Xp.op y22),(Xp.n y22),(Xp.name y22),(Xp.l y22)),(y23.q3++([dS y27])),([]:List Sx)),(y23.1.1,y23.1.2.1,y23.1.p2,y23.1.p3,y23.1.p4,I.2.1.q5),y23.2.1,y23.p2)))))))))))) (jn (α:=Bool×xx×fx×FP×Bool×List (List UInt8)) (bc y1.1 8 (bcase x2.1 (kj (.str) ([[109],[110]]) (be .i64 (y1.1-8)) λz29=>(obind (eA (z29,I.2.1,I.p2,I.q4)) λy30=>(bA (((I.p4==y30.p3)&&ah)&&aA (ak I.q5) (ak y30.q4)&&ah) (aD ((!y30.1),y30.2.1,y30.p2,I.p3,y30.q3))))) (aD (ai,I.2))) (bc y1.1 9 (bcase x2.1 (kj (.str) ([[109],[110]]) (be .i64 (y1.1-8)) λz31=>(obind (eA (z31,I.2.1,I.p2,I.q4)) λy32=>(bA (((I.p4==y32.p3)&&ah)&&aA (ak I.q5) (ak y32.q4)&&ah) (aD ((!y32.1),y32.2.1,y32.p2,I.p3,y32.q3))))) (aD (ai,I.2))) (aD (ai,I.2)))) λJ=>(bcase J.1 (kj (.str) ([[109],[110]]) (be .i64 (y1.1-8)) λz33=>(obind (rmade_maker_block ((z33,(be .i64 (x.1-1))),J.2.1,J.p2,J.q4)) λy34=>(bA (((J.p4==J.p4)&&ah)&&aA (ak J.q5) (ak J.q5)&&ah) (aa (ne (4,0,z33,[],([]:List Xp),dQ (0,0,[],([]:List Xp)),y34.1,([]:List Sx)),y34.2))))) (jn (α:=Bool×xx×fx×FP×Bool×List (List UInt8)) (bc y1.1 10 (bcase x2.1 (obind (eA ([114],J.2.1,J.p2,J.q4)) λy36=>(bA (((J.p4==y36.p3)&&ah)&&aA (ak J.q5) (ak y36.q4)&&ah) (aD ((!y36.1),y36.2.1,y36.p2,J.p3,y36.q3)))) (aD (ai,J.2))) (bc y1.1 11 (bcase x2.1 (obind (eA ([114],J.2.1,J.p2,J.q4)) λy37=>(bA (((J.p4==y37.p3)&&ah)&&aA (ak J.q5) (ak y37.q4)&&ah) (aD ((!y37.1),y37.2.1,y37.p2,J.p3,y37.q3)))) (aD (ai,J.2))) (aD (ai,J.2)))) λx35=>(bcase x35.1 (obind (rmade_maker_block (([114],(be .i64 (x.1-1))),x35.2.1,x35.p2,x35.q4)) λy38=>(bA (((x35.p4==x35.p4)&&ah)&&aA (ak x35.q5) (ak x35.q5)&&ah) (aa (ne ((be .i64 ((be .i64 (y1.1-10))+5)),0,[114],[],([]:List Xp),dQ (0,0,[],([]:List Xp)),y38.1,([]:List Sx)),y38.2)))) (jn (α:=Bool×xx×fx×FP×Bool×List (List UInt8)) (bc y1.1 12 (aD (x2.1,x35.2)) (aD (ai,x35.2))) λY=>(bcase Y.1 (obind (bp (2,Y.p2)) λy40=>(obind (rmade_maker_stmts ((0,(be .i64 (1+y40.1))),(Y.2.1.1,Y.2.1.2.1,Y.2.1.p2,ah,Y.2.1.q4),y40.2,Y.q4)) λy41=>(bA (((Y.p4==Y.p4)&&ah)&&aA (ak Y.q5) (ak Y.q5)&&ah) (aa (ne (7,0,[],[],([]:List Xp),dQ (0,0,[],([]:List Xp)),y41.q3,([]:List Sx)),(y41.1.1,y41.1.2.1,y41.1.p2,ai,y41.1.q4),y41.2.1,y41.p2))))) (jn (α:=Bool×xx×fx×FP×Bool×List (List UInt8)) (bc y1.1 13 (bcase x2.1 (aD ((!Y.2.1.p4),Y.2)) (aD (ai,Y.2))) (aD (ai,Y.2))) λM=>(bcase M.1 (obind (rmade_maker_stmts (((be .i64 (x.1-1)),2),(M.2.1.1,M.2.1.2.1,M.2.1.p2,M.2.1.p3,ah,M.2.1.q5),M.p2,M.q4)) λy43=>(bA (((M.p4==M.p4)&&ah)&&aA (ak M.q5) (ak M.q5)&&ah) (aa (ne (8,0,[],[],([]:List Xp),dQ (0,0,[],([]:List Xp)),y43.q3,([]:List Sx)),(y43.1.1,y43.1.2.1,y43.1.p2,y43.1.p3,ai,y43.1.q5),y43.2.1,y43.p2)))) (jn (α:=Bool×xx×fx×FP×Bool×List (List UInt8)) (bc y1.1 14 (bcase x2.1 (bcase (!M.2.1.p4) (obind (eA ([109],M.2.1,M.p2,M.q4)) λy45=>(bA (((M.p4==y45.p3)&&ah)&&aA (ak M.q5) (ak y45.q4)&&ah) (aD ((!y45.1),y45.2.1,y45.p2,M.p3,y45.q3)))) (aD (ai,M.2))) (aD (ai,M.2))) (aD (ai,M.2))) λx44=>(bcase x44.1 (obind (oO ([120])) λy46=>(obind (iW ([97],y46)) λy47=>(aa (ne (4,0,[109],[],([]:List Xp),dQ (0,0,[],([]:List Xp)),[ne (9,0,[99],[],([]:List Xp),dQ (0,0,[],([]:List Xp)),([]:List Sx),([]:List Sx)),dS y47],([]:List Sx)),x44.2.1,x44.p2,x44.q4)))) (jn (α:=Bool×xx×fx×FP×Bool×List (List UInt8)) (bc y1.1 15 (bcase x2.1 (obind (eA ([109],x44.2.1,x44.p2,x44.q4)) λy49=>(bA (((x44.p4==y49.p3)&&ah)&&aA (ak x44.q5) (ak y49.q4)&&ah) (aD ((!y49.1),y49.2.1,y49.p2,x44.p3,y49.q3)))) (aD (ai,x44.2))) (aD (ai,x44.2))) λx48=>(bcase x48.1 (obind (bp (2,x48.p2)) λy50=>(aa (ne (4,0,[109],[],([]:List Xp),dQ (0,0,[],([]:List Xp)),[ne ((be .i64 (10+y50.1)),0,[99],[],([]:List Xp),dQ (0,0,[],([]:List Xp)),([]:List Sx),([]:List Sx))],([]:List Sx)),x48.2.1,y50.2,x48.q4))) (jn (α:=Bool×xx×fx×FP×Bool×List (List UInt8)) (bc y1.1 16 (bcase (!x48.2.1.p3) (bcase (!x48.2.1.q5) (aD ((!x48.2.1.p2),x48.2)) (aD (ai,x48.2))) (aD (ai,x48.2))) (aD (ai,x48.2))) λZ=>(bcase Z.1 (obind (eR (1,(Z.2.1.1,Z.2.1.2.1,ah,Z.2.1.q3),Z.p2,Z.q4)) λy52=>(bA (((Z.p4==y52.p3)&&ah)&&aA (ak Z.q5) (ak y52.q4)&&ah) (aa (ne (14,0,[102],[],([]:List Xp),dQ ((Xp.op y52.1),(Xp.n y52.1),(Xp.name y52.1),(Xp.l y52.1)),([]:List Sx),([]:List Sx)),y52.2)))) (jn (α:=Bool×xx×fx×FP×Bool×List (List UInt8)) (bc y1.1 17 (bcase (!Z.2.1.p3) (obind (bp (2,Z.p2)) λy54=>(aD ((decide ((y54.1:Int)=1)),Z.2.1,y54.2,Z.q3))) (aD (ai,Z.2))) (aD (ai,Z.2))) λx53=>(bcase x53.1 (aa (ne (15,0,[97],[102],([]:List Xp),dQ (0,0,[],([]:List Xp)),([]:List Sx),([]:List Sx)),x53.2.1,x53.p2,x53.q4)) (obind (eR (1,x53.2.1,x53.p2,x53.q4)) λy55=>(bA (((x53.p4==y55.p3)&&ah)&&aA (ak x53.q5) (ak y55.q4)&&ah) (obind (iW ([120],y55.1)) λy56=>(aa (dS y56,y55.2))))))))))))))))))))))))))))))
def mc (rmade_maker_stmts:abr->Option WF) (rmade_maker_stmt:WG->Option Zl) (rmade_maker_block:abq->Option Zm) (x:eW×xx×fx×Bool×List (List UInt8)):Option Zm:=
 (bA (a_ (ak x.q4+ak ([x.1.1])) 16) (obind (bp (2,x.p2)) λJ=>(obind (rmade_maker_stmts ((x.1.2,(be .i64 (1+J.1))),x.2.1,J.2,x.p3,(x.q4++([x.1.1])))) λI=>(bA (((x.p3==x.p3)&&ah)&&aA (ak (x.q4++([x.1.1]))) (ak (x.q4++([x.1.1])))&&ah) (bA (cR 0 (be .i64 ((aU I.p2.2)-1))&&fG (be .i64 ((aU I.p2.2)-1)) (ak I.p2.2)) (aa (I.q3,I.1,I.2.1,ai,(dF (aR (be .i64 ((aU I.p2.2)-1))) I.p2.2))))))))
mutual
def dy:Nat->abr->Option WF
 |0,_=>af
 |n+1,x=>mb (dy n) (ef n) (dN n) x
def ef:Nat->WG->Option Zl
 |0,_=>af
 |n+1,x=>nl (dy n) (ef n) (dN n) x
def dN:Nat->abq->Option Zm
 |0,_=>af
 |n+1,x=>mc (dy n) (ef n) (dN n) x
end
def pE (x:(Int×Int)×xx×fx×Bool×List (List UInt8)):Option WF:=dy fuel x
def oa (x:List Int):Option (qZ×List qY):=
 (obind (ri ()) λy1=>(obind (bp (3,x,0)) λy2=>(iter (σ:=Int×xx×qZ×b9×fx×QN×List qY) (λM=>(bu M.1 (be .i64 (2+y2.1)) (kj (.str) M.p3 M.1 λz4=>(jn (α:=xx×qZ×b9×eW×fx×QN×(List qY)×b9×List Sx) (bc M.1 0 (iter (σ:=Int×xx×qZ×b9×eW×fx×QN×(List qY)×b9×List Sx) (λY=>(bu Y.1 (be .i64 (2+y2.1)) (kj (.str) Y.p3 Y.1 λz7=>(bA (a_ (ak Y.q9+ak ([ne (12,0,z7,[],([]:List Xp),dQ (0,0,[],([]:List Xp)),([]:List Sx),([]:List Sx))])) 176) (cK ((cw Y.1),Y.2.1,Y.p2,Y.p3,Y.p4,Y.p5,Y.p6,Y.p7,Y.p8,(Y.q9++([ne (12,0,z7,[],([]:List Xp),dQ (0,0,[],([]:List Xp)),([]:List Sx),([]:List Sx))])))))) (aD (bZ Y.2)))) (1,(M.1,M.2.1.2),M.p2,M.p3,(z4,0),M.p4,M.p5,M.q6,[[97],[98]],([]:List Sx))) (aD ((M.1,M.2.1.2),M.p2,M.p3,(z4,0),M.p4,M.p5,M.q6,[[97],[98]],([]:List Sx)))) λU=>(obind (bp (3,U.p4)) λy8=>(obind (pE ((2,(be .i64 (1+y8.1))),U.1,y8.2,U.p5)) λZ=>(bA (((U.p5.1==U.p5.1)&&ah)&&aA (ak U.p5.2) (ak U.p5.2)&&ah) (bA (a_ (ak U.q8+ak Z.q3) 176) (jn (α:=xx×qZ×b9×eW×fx×QN×(List qY)×b9×List Sx) (jn (α:=Bool×xx×qZ×b9×eW×fx×QN×(List qY)×b9×List Sx) (bc M.1 0 (obind (bp (3,Z.2.1)) λy12=>(aD ((decide ((y12.1:Int)=2)),Z.1,U.2.1,U.p2,U.p3,y12.2,Z.p2,U.p6,U.p7,(U.q8++Z.q3)))) (aD (ai,Z.1,U.2.1,U.p2,U.p3,Z.2.1,Z.p2,U.p6,U.p7,(U.q8++Z.q3)))) λI=>(bcase I.1 (kj (.str) I.p3 1 λz13=>(bA (a_ (ak I.q9+ak ([ne (13,0,z13,[],([]:List Xp),dQ (0,0,[],([]:List Xp)),([]:List Sx),([]:List Sx))])) 176) (aD (I.2.1,I.p2,I.p3,I.p4,I.p5,I.p6,I.p7,I.p8,(I.q9++([ne (13,0,z13,[],([]:List Xp),dQ (0,0,[],([]:List Xp)),([]:List Sx),([]:List Sx))])))))) (aD I.2))) λJ=>(bA (a_ (ak J.p6+ak ([(J.p3.1,J.p3.2,J.q7)])) 72) (cK ((cw M.1),J.1,J.2.1,J.p2,J.p4,J.p5,(J.p6++([(J.p3.1,J.p3.2,J.q7)])))))))))))) (obind (obind (eV (M.p2,M.q6)) λy14=>(iL y14.1 0 (obind (ri ()) λy15=>(obind (qy 1) λy16=>(obind (iW ([120],y16)) λy17=>(aa (y15,[([109,97,105,110],0,[[97],[98]],[dS y17])]))))) (aa (M.p2,M.q6)))) λr=>aa (bZ r)))) (0,(0,20,ai,ai,ai,ai),y1,[[109,97,105,110],[116,49],[116,50],[116,51]],y2.2,(ah,([]:List (List UInt8))),([]:List qY)))))
def v8 (x:List Int):Option yw:=
 (obind (oa x) λJ=>(obind (pD J) λI=>(aa I.1)))
def rj (x:(List Int)×List Int):Option (dL×List gB):=
 (obind (v8 x.1) λM=>(obind (oc x.2) λJ=>(obind (xI (M,J)) λI=>(aa I.1))))
def mX (x:Unit):Option dL:=
 (iter (σ:=Int×gH×gq×(List eW)×b9×b9×List (Int×Int×Int)) (λx1=>(bu x1.1 (aN (ak ([[109,97,105,110],[116,49],[116,50],[116,51]]))) (iter (σ:=Int×gH×gq×(List eW)×b9×b9×List (Int×Int×Int)) (λI=>(bu I.1 6 (bA (a_ (ak I.q6+ak ([(x1.1,I.1,(be .i64 ((be .i64 ((be .i64 (10*x1.1))+I.1))+1)))])) 24) (cK ((cw I.1),I.2.1,I.p2,I.p3,I.p4,I.p5,(I.q6++([(x1.1,I.1,(be .i64 ((be .i64 ((be .i64 (10*x1.1))+I.1))+1)))]))))) (aD (oh ((cw x1.1),I.2))))) (0,x1.2)) (aD x1.2))) (0,[([120],0,0,ai,0),([121],0,0,ai,1),([118],0,0,ah,0),([113],0,2,ai,0),([113],1,2,ai,0)],[([109],ai),([110],ai),([114],ah)],[([99],0)],[[102]],[[109,97,105,110],[116,49],[116,50],[116,51]],([]:List (Int×Int×Int))))
def kz (x:oB×(List Int)×(List Int)×List Int):Option (List Int):=
 (iter (σ:=Int×List Int) (λx1=>(bu x1.1 (aU x.1.q3) (jn (α:=List Int) (bF gR x.1.q3 x1.1 λI=>(bc I.1 3 (bA (a_ (ak x1.2+ak ([x1.1])) 8) (aD (x1.2++([x1.1])))) (aD x1.2))) λJ=>(cK ((cw x1.1),J))) (aD x1.2))) (0,([]:List Int)))
def r8 (x:Unit):Option (List Int):=
 (aa ([3,3,3,3,3,4,4,4,4,4,5,5,5,6,6,6,7,7,7,8,9,10,11,12,13,14,14,15,16,16,17,17,18,18,19,20,1,1,2,21,22,23,23]))
def nY (x:(Int×Int)×(List Int)×Int):Option (Int×(List Int)×Int):=
 (jn (α:=Bool×(List Int)×Int) (bc x.1.1 3 (aD ((decide ((x.1.1:Int)=3)),x.2)) (aD ((decide ((x.1.1:Int)=4)),x.2))) λx1=>(bcase x1.1 (obind (bp (8,x1.2)) λZ=>(kj aM ([0,0,0,1,1,2,3,4]) Z.1 λz3=>(aa (z3,Z.2)))) (jn (α:=Bool×(List Int)×Int) (bc x.1.1 6 (aD ((decide ((x.1.1:Int)=6)),x1.2)) (aD ((decide ((x.1.1:Int)=7)),x1.2))) λJ=>(bcase J.1 (obind (bp (2,J.2)) λy5=>(aa y5)) (jn (α:=Bool×(List Int)×Int) (bc x.1.1 8 (aD ((decide ((x.1.1:Int)=8)),J.2)) (bc x.1.1 9 (aD ((decide ((x.1.1:Int)=9)),J.2)) (bc x.1.1 10 (aD ((decide ((x.1.1:Int)=10)),J.2)) (aD ((decide ((x.1.1:Int)=11)),J.2))))) λI=>(bcase I.1 (aa (2,I.2)) (jn (α:=Bool×(List Int)×Int) (bc x.1.1 16 (aD ((decide ((x.1.1:Int)=16)),I.2)) (bc x.1.1 17 (aD ((decide ((x.1.1:Int)=17)),I.2)) (bc x.1.1 18 (aD ((decide ((x.1.1:Int)=18)),I.2)) (bc x.1.1 19 (aD ((decide ((x.1.1:Int)=19)),I.2)) (bc x.1.1 22 (aD ((decide ((x.1.1:Int)=22)),I.2)) (aD ((decide ((x.1.1:Int)=23)),I.2))))))) λM=>(bcase M.1 (aa (0,M.2)) (jn (α:=Bool×(List Int)×Int) (bc x.1.1 20 (aD ((decide ((x.1.1:Int)=20)),M.2)) (aD ((decide ((x.1.1:Int)=21)),M.2))) λU=>(bcase U.1 (obind (bp (3,U.2)) λY=>(aa ((p_ (be .i64 ((cw x.1.2)+Y.1)) 4),Y.2))) (aa ((-1),U.2))))))))))))
def pw (x:(eh×Int×Int)×(List Int)×Int):Option (Int×(List Int)×Int):=
 (bc x.1.2.1 3 (bF aM x.1.1.2.1 x.1.2.2 λZ=>(aa (Z,x.2))) (bc x.1.2.1 23 (bF aM x.1.1.p2 0 λY=>(aa (Y,x.2))) (jn (α:=Bool×fx×oB×(List Int)×(List Int)×List Int) (bc x.1.2.1 4 (aD ((decide ((x.1.2.1:Int)=4)),x.2,x.1.1)) (aD ((decide ((x.1.2.1:Int)=22)),x.2,x.1.1))) λI=>(bcase I.1 (obind (bp (3,I.2.1)) λy4=>(aa y4)) (bc x.1.2.1 5 (obind (bp (2,I.2.1)) λy5=>(aa y5)) (bc x.1.2.1 18 (obind (kz I.2.2) λJ=>(bu 0 (aU J) (obind (bp ((aU J),I.2.1)) λM=>(bF aM J M.1 λU=>(aa (U,M.2)))) (aa ((-1),I.2.1)))) (bc x.1.2.1 19 (obind (kz I.2.2) λy9=>(aa ((aU y9),I.2.1))) (aa (0,I.2.1)))))))))
def gi (x:fx×List Int):Option ((List Int)×fx×List Int):=
 (iter (σ:=Int×fx×(List Int)×List Int) (λx1=>(bu x1.1 (aU x.2) (jn (α:=fx×(List Int)×List Int) (kj aM x1.p2 x1.1 λJ=>(jn (α:=Bool×fx×(List Int)×List Int) (jC (aU x1.p2) (be .i64 (x1.1+3)) (obind (bp (2,x1.2.1)) λM=>(aD ((decide ((M.1:Int)=1)),M.2,x1.2.2))) (aD (ai,x1.2))) λI=>(bcase I.1 (bA (a_ (ak I.q3+ak ([J])) 8) (aD (I.2.1,I.p2,(I.q3++([J]))))) (aD I.2)))) λU=>(cK ((cw x1.1),U))) (aD (x1.q3,x1.2.1,x1.p2)))) (0,x.1,x.2,([]:List Int)))
def px (x:(eh×gH×gq×(List eW)×b9×b9×List (Int×Int×Int))×fx×(List Int)×(List Int)×(List Int)×List Int):Option (gB×fx×(List Int)×(List Int)×(List Int)×List Int):=
 (obind (bp (4,x.2.1)) λU=>(obind (r8 ()) λy2=>(obind (bp ((aU y2),U.2)) λy3=>(bF aM y2 y3.1 λz4=>(obind (bp (6,y3.2)) λy5=>(jn (α:=fx×(List Int)×(List Int)×(List Int)×(List Int)×eh×dL×uD×Int×Int×Int×Int×Int) (jn (α:=Bool×fx×(List Int)×(List Int)×(List Int)×(List Int)×eh×dL×uD×Int×Int×Int×Int×Int) (bc z4 1 (aD (ah,y5.2,x.p2,x.p3,x.p4,x.q5,x.1.1,x.1.2,(0,0,0,0,0),U.1,z4,0,0,(be .i64 ((be .i64 (U.1*6))+y5.1)))) (aD ((decide ((z4:Int)=2)),y5.2,x.p2,x.p3,x.p4,x.q5,x.1.1,x.1.2,(0,0,0,0,0),U.1,z4,0,0,(be .i64 ((be .i64 (U.1*6))+y5.1))))) λY=>(bcase Y.1 (aD (Y.2.1,Y.p2,Y.p3,Y.p4,Y.p5,Y.p6,Y.p7,Y.p8,Y.p9,Y.p10,Y.p11,Y.p12,(-1))) (aD Y.2))) λM=>(obind (nY ((M.p9,U.1),M.1)) λy8=>(obind (pw ((M.p5,M.p9,y8.1),y8.2)) λy9=>(jn (α:=fx×(List Int)×(List Int)×(List Int)×(List Int)×uD×Int×Int×Int×Int×Int×List Int) (jn (α:=Bool×fx×(List Int)×(List Int)×(List Int)×(List Int)×uD×Int×Int×Int×Int×Int) (bc M.p9 5 (aD (ah,y9.2,M.2.1,M.p2,M.p3,M.p4,M.p7,M.p8,M.p9,y8.1,y9.1,M.q12)) (bc M.p9 3 (bF ka M.p6.1 y8.1 λz12=>(aD ((fG 0 z12.2.2.1),y9.2,M.2.1,M.p2,M.p3,M.p4,M.p7,M.p8,M.p9,y8.1,y9.1,M.q12))) (bc M.p9 4 (bF ka M.p6.1 y8.1 λz13=>(aD ((fG 0 z13.2.2.1),y9.2,M.2.1,M.p2,M.p3,M.p4,M.p7,M.p8,M.p9,y8.1,y9.1,M.q12))) (aD (ai,y9.2,M.2.1,M.p2,M.p3,M.p4,M.p7,M.p8,M.p9,y8.1,y9.1,M.q12))))) λJ=>(bcase J.1 (bc U.1 0 (obind (gi (J.2.1,J.p2)) λy14=>(bA (aA (ak J.p2) (ak y14.2.2)&&ah) (aD (y14.2.1,y14.2.2,J.p3,J.p4,J.p5,J.p6,J.p7,J.p8,J.p9,J.p10,J.q11,y14.1)))) (bc U.1 1 (obind (gi (J.2.1,J.p3)) λy15=>(bA (aA (ak J.p3) (ak y15.2.2)&&ah) (aD (y15.2.1,J.p2,y15.2.2,J.p4,J.p5,J.p6,J.p7,J.p8,J.p9,J.p10,J.q11,y15.1)))) (bc U.1 2 (obind (gi (J.2.1,J.p4)) λy16=>(bA (aA (ak J.p4) (ak y16.2.2)&&ah) (aD (y16.2.1,J.p2,J.p3,y16.2.2,J.p5,J.p6,J.p7,J.p8,J.p9,J.p10,J.q11,y16.1)))) (bc U.1 3 (obind (gi (J.2.1,J.p5)) λy17=>(bA (aA (ak J.p5) (ak y17.2.2)&&ah) (aD (y17.2.1,J.p2,J.p3,J.p4,y17.2.2,J.p6,J.p7,J.p8,J.p9,J.p10,J.q11,y17.1)))) af)))) (aD (J.2.1,J.p2,J.p3,J.p4,J.p5,J.p6,J.p7,J.p8,J.p9,J.p10,J.q11,([]:List Int))))) λx10=>(jn (α:=fx×(List Int)×(List Int)×(List Int)×(List Int)×uD×Int×Int×Int×Int×Int×(List Int)×List Int) (jn (α:=Bool×fx×(List Int)×(List Int)×(List Int)×(List Int)×uD×Int×Int×Int×Int×Int×List Int) (bc x10.p7 4 (aD (ah,x10)) (aD ((decide ((x10.p7:Int)=22)),x10))) λI=>(bcase I.1 (bc U.1 0 (obind (gi (I.2.1,I.p2)) λy20=>(bA (aA (ak I.p2) (ak y20.2.2)&&ah) (aD (y20.2.1,y20.2.2,I.p3,I.p4,I.p5,I.p6,I.p7,I.p8,I.p9,I.p10,I.p11,I.q12,y20.1)))) (bc U.1 1 (obind (gi (I.2.1,I.p3)) λy21=>(bA (aA (ak I.p3) (ak y21.2.2)&&ah) (aD (y21.2.1,I.p2,y21.2.2,I.p4,I.p5,I.p6,I.p7,I.p8,I.p9,I.p10,I.p11,I.q12,y21.1)))) (bc U.1 2 (obind (gi (I.2.1,I.p4)) λy22=>(bA (aA (ak I.p4) (ak y22.2.2)&&ah) (aD (y22.2.1,I.p2,I.p3,y22.2.2,I.p5,I.p6,I.p7,I.p8,I.p9,I.p10,I.p11,I.q12,y22.1)))) (bc U.1 3 (obind (gi (I.2.1,I.p5)) λy23=>(bA (aA (ak I.p5) (ak y23.2.2)&&ah) (aD (y23.2.1,I.p2,I.p3,I.p4,y23.2.2,I.p6,I.p7,I.p8,I.p9,I.p10,I.p11,I.q12,y23.1)))) af)))) (aD (I.2.1,I.p2,I.p3,I.p4,I.p5,I.p6,I.p7,I.p8,I.p9,I.p10,I.p11,I.q12,([]:List Int))))) λZ=>(aa (Z.q6,Z.1,Z.2.1,Z.p2,Z.p3,Z.p4))))))))))))
def rc (x:(eh×dL×Int×Bool)×(List Int)×Int):Option ((List gB)×(List Int)×Int):=
 (bA (cR 0 (aU x.1.2.1.p4)&&cR (aU x.1.2.1.p4) (aU x.1.2.1.p4)&&a_ (aR (aU x.1.2.1.p4)) 24&&decide (((aU x.1.2.1.p4):Int)=4)) (jn (α:=fx×eh×dL×(List Int)×(List Int)×(List Int)×List Int) (bu 0 (aN 4) (jn (α:=fx×eh×dL×(List Int)×(List Int)×(List Int)×List Int) (jn (α:=Bool×fx×eh×dL×(List Int)×(List Int)×(List Int)×List Int) (bcase x.1.q3 (bF aM x.1.1.q3 0 λz4=>(bu 1 z4 (obind (bp (3,x.2)) λy5=>(aD ((decide ((y5.1:Int)=2)),y5.2,x.1.1,x.1.2.1,([]:List Int),([]:List Int),([]:List Int),([]:List Int)))) (aD (ai,x.2,x.1.1,x.1.2.1,([]:List Int),([]:List Int),([]:List Int),([]:List Int))))) (aD (ai,x.2,x.1.1,x.1.2.1,([]:List Int),([]:List Int),([]:List Int),([]:List Int)))) λx3=>(bcase x3.1 (bA (a_ (ak x3.p4+ak ([1])) 8) (aD (x3.2.1,x3.p2,x3.p3,(x3.p4++([1])),x3.q5))) (aD x3.2))) λx2=>(bu 1 (aN 4) (jn (α:=fx×eh×dL×(List Int)×(List Int)×(List Int)×List Int) (jn (α:=Bool×fx×eh×dL×(List Int)×(List Int)×(List Int)×List Int) (bcase x.1.q3 (bF aM x2.2.1.q3 1 λz8=>(bu 1 z8 (obind (bp (3,x2.1)) λy9=>(aD ((decide ((y9.1:Int)=2)),y9.2,x2.2))) (aD (ai,x2)))) (aD (ai,x2))) λx7=>(bcase x7.1 (bA (a_ (ak x7.p5+ak ([1])) 8) (aD (x7.2.1,x7.p2,x7.p3,x7.p4,(x7.p5++([1])),x7.q6))) (aD x7.2))) λx6=>(bu 2 (aN 4) (jn (α:=fx×eh×dL×(List Int)×(List Int)×(List Int)×List Int) (jn (α:=Bool×fx×eh×dL×(List Int)×(List Int)×(List Int)×List Int) (bcase x.1.q3 (bF aM x6.2.1.q3 2 λz12=>(bu 1 z12 (obind (bp (3,x6.1)) λy13=>(aD ((decide ((y13.1:Int)=2)),y13.2,x6.2))) (aD (ai,x6)))) (aD (ai,x6))) λY=>(bcase Y.1 (bA (a_ (ak Y.p6+ak ([1])) 8) (aD (Y.2.1,Y.p2,Y.p3,Y.p4,Y.p5,(Y.p6++([1])),Y.q7))) (aD Y.2))) λx10=>(bu 3 (aN 4) (jn (α:=fx×eh×dL×(List Int)×(List Int)×(List Int)×List Int) (jn (α:=Bool×fx×eh×dL×(List Int)×(List Int)×(List Int)×List Int) (bcase x.1.q3 (bF aM x10.2.1.q3 3 λz16=>(bu 1 z16 (obind (bp (3,x10.1)) λy17=>(aD ((decide ((y17.1:Int)=2)),y17.2,x10.2))) (aD (ai,x10)))) (aD (ai,x10))) λU=>(bcase U.1 (bA (a_ (ak U.q7+ak ([1])) 8) (aD (U.2.1,U.p2,U.p3,U.p4,U.p5,U.p6,(U.q7++([1]))))) (aD U.2))) λx14=>(bu 4 (aN 4) (jn (α:=fx×eh×dL×(List Int)×(List Int)×(List Int)×List Int) (jn (α:=Bool×fx×eh×dL×(List Int)×(List Int)×(List Int)×List Int) (bcase x.1.q3 (bF aM x14.2.1.q3 4 λz20=>(bu 1 z20 (obind (bp (3,x14.1)) λy21=>(aD ((decide ((y21.1:Int)=2)),y21.2,x14.2))) (aD (ai,x14)))) (aD (ai,x14))) λx19=>(bcase x19.1 af (aD x19.2))) λx18=>af) (aD x14))) (aD x10))) (aD x6))) (aD x2))) (aD (x.2,x.1.1,x.1.2.1,([]:List Int),([]:List Int),([]:List Int),([]:List Int)))) λx1=>(iter (σ:=fx×eh×dL×(List gB)×(List Int)×(List Int)×(List Int)×List Int) (λx22=>(jn (α:=Bool×fx×eh×dL×(List gB)×(List Int)×(List Int)×(List Int)×List Int) (bu (aU x22.p3) x.1.p2 (aD ((fG x22.1.2 (aU x22.1.1)),x22)) (aD (ai,x22))) λJ=>(bcase J.1 (jn (α:=fx×eh×dL×(List gB)×(List Int)×(List Int)×(List Int)×List Int) (obind (px ((J.p2,J.p3),J.2.1,J.q5)) λM=>(bA (aA (ak J.q8) (ak M.q5)&&(aA (ak J.p7) (ak M.p4)&&(aA (ak J.p6) (ak M.p3)&&(aA (ak J.p5) (ak M.p2)&&ah)))) (obind (qn (J.p3,J.p2,M.1)) λy26=>(bcase (!y26.2) (aD (M.2.1,J.p2,J.p3,J.p4,M.2.2)) (jn (α:=fx×eh×dL×(List gB)×gB×eh×(List Int)×(List Int)×(List Int)×List Int) (jn (α:=Bool×fx×eh×dL×(List gB)×gB×eh×(List Int)×(List Int)×(List Int)×List Int) (bc M.1.2.1 3 (aD (ah,M.2.1,J.p2,J.p3,J.p4,M.1,y26.1,M.2.2)) (aD ((decide ((M.1.2.1:Int)=23)),M.2.1,J.p2,J.p3,J.p4,M.1,y26.1,M.2.2))) λI=>(bcase I.1 (bc I.p5.1 0 (bF aM I.p2.q3 0 λz29=>(bA (a_ (ak I.p7+ak ([z29])) 8) (aD (I.2.1,I.p2,I.p3,I.p4,(0,I.p5.2),I.p6,(I.p7++([z29])),I.q8)))) (bc I.p5.1 1 (bF aM I.p2.q3 1 λz30=>(bA (a_ (ak I.p8+ak ([z30])) 8) (aD (I.2.1,I.p2,I.p3,I.p4,(1,I.p5.2),I.p6,I.p7,(I.p8++([z30])),I.q9)))) (bc I.p5.1 2 (bF aM I.p2.q3 2 λz31=>(bA (a_ (ak I.p9+ak ([z31])) 8) (aD (I.2.1,I.p2,I.p3,I.p4,(2,I.p5.2),I.p6,I.p7,I.p8,(I.p9++([z31])),I.q10)))) (bc I.p5.1 3 (bF aM I.p2.q3 3 λz32=>(bA (a_ (ak I.q10+ak ([z32])) 8) (aD (I.2.1,I.p2,I.p3,I.p4,(3,I.p5.2),I.p6,I.p7,I.p8,I.p9,(I.q10++([z32])))))) af)))) (aD I.2))) λZ=>(bA (a_ (ak Z.p3+ak ([Z.p4])) 88) (aD (Z.1,Z.p5,Z.p2,(Z.p3++([Z.p4])),Z.q6)))))))) λx24=>(cK x24)) (aD (J.p4,J.2.1))))) (x1.1,x1.2.1,x1.p2,([]:List gB),x1.q3))))
def py (x:(List Int)×Int):Option (dL×List gB):=
 (jn (α:=List Int) (bu 600 (aU x.1) (bA (cR 0 600&&cR 600 (ak x.1)) (aD (dF (aR 600) x.1))) (aD x.1)) λx1=>(obind (mX ()) λy2=>(obind (mn y2) λy3=>(obind (bp (3,x1,0)) λy4=>(iter (σ:=Int×fx×dL×eh×List gB) (λJ=>(jC J.1 (be .i64 (1+y4.1)) (bA (a_ (ak J.q4+ak ([(0,20,J.1,0,0,([]:List Int),([]:List Int)),(J.1,1,(-1),0,(-1),([]:List Int),([]:List Int))])) 88) (cK ((cw J.1),J.2.1,J.p2,J.p3,(J.q4++([(0,20,J.1,0,0,([]:List Int),([]:List Int)),(J.1,1,(-1),0,(-1),([]:List Int),([]:List Int))]))))) (obind (iter (σ:=Int×fx×dL×eh×(List gB)×List gB) (λI=>(bu I.1 (aU J.q4) (jn (α:=fx×dL×eh×(List gB)×List gB) (kj iS I.p4 I.1 λU=>(obind (qn (I.p2,I.p3,U)) λy9=>(bcase y9.2 (bA (a_ (ak I.q5+ak ([U])) 88) (aD (I.2.1,I.p2,y9.1,I.p4,(I.q5++([U]))))) (aD I.2)))) λx7=>(cK ((cw I.1),x7))) (obind (obind (rc ((I.p3,I.p2,(Ft (jR x.2 0) 60),ai),I.2.1)) λM=>(bA (a_ (ak I.q5+ak M.1) 88) (obind (sP (I.p2,(I.q5++M.1))) λZ=>(iL Z.2 0 (obind (mX ()) λY=>(aa (Y,([]:List gB)))) (aa (I.p2,(I.q5++M.1))))))) λr=>aa (bZ r)))) (0,J.2.1,J.p2,J.p3,J.q4,([]:List gB))) λr=>aa (bZ r)))) (1,y4.2,y2,y3,[(0,1,(-1),0,(-1),([]:List Int),([]:List Int))]))))))
def kA (x:((List Int)×(List Int)×List Int)×Int):Option (dL×List gB):=
 (bu 0 (aU x.1.2.2) (obind (py (x.1.2.2,x.2)) λJ=>(aa J)) (bA (cR 0 (Ft (aU x.1.2.1) x.2)&&cR (Ft (aU x.1.2.1) x.2) (ak x.1.2.1)) (obind (rj (x.1.1,(dF (aR (Ft (aU x.1.2.1) x.2)) x.1.2.1))) λI=>(aa I))))
end
end Go.Proofs.YtkagidinekdnoaaGreatDoor.AI
