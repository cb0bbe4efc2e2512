/-
  Texts of the proof, part 1 of 5: what is used to prove the statement. No condition.
-/
import Derived.WalkKit
import Derived.Lib.Hide
import Derived.Deep.QuietTactic
namespace Prod
variable {A0 A1 A2 A3 A4 A5 A6 A7 A8 A9 A10 A11 A12 A13 A14 A15 A16 A17 A18 A19 A20 A21 A22 A23 A24:Type}
abbrev p2 (x:A0×A1×A2×A3):A2:=x.2.2.1
abbrev p3 (x:A0×A1×A2×A3×A4):A3:=x.2.2.2.1
abbrev q3 (x:A0×A1×A2×A3):A3:=x.2.2.2
abbrev p4 (x:A0×A1×A2×A3×A4×A5):A4:=x.2.2.2.2.1
abbrev q4 (x:A0×A1×A2×A3×A4):A4:=x.2.2.2.2
abbrev p5 (x:A0×A1×A2×A3×A4×A5×A6):A5:=x.2.2.2.2.2.1
abbrev q5 (x:A0×A1×A2×A3×A4×A5):A5:=x.2.2.2.2.2
abbrev p6 (x:A0×A1×A2×A3×A4×A5×A6×A7):A6:=x.2.2.2.2.2.2.1
abbrev q6 (x:A0×A1×A2×A3×A4×A5×A6):A6:=x.2.2.2.2.2.2
abbrev p7 (x:A0×A1×A2×A3×A4×A5×A6×A7×A8):A7:=x.2.2.2.2.2.2.2.1
abbrev q7 (x:A0×A1×A2×A3×A4×A5×A6×A7):A7:=x.2.2.2.2.2.2.2
abbrev p8 (x:A0×A1×A2×A3×A4×A5×A6×A7×A8×A9):A8:=x.2.2.2.2.2.2.2.2.1
abbrev q8 (x:A0×A1×A2×A3×A4×A5×A6×A7×A8):A8:=x.2.2.2.2.2.2.2.2
abbrev p9 (x:A0×A1×A2×A3×A4×A5×A6×A7×A8×A9×A10):A9:=x.2.2.2.2.2.2.2.2.2.1
abbrev q9 (x:A0×A1×A2×A3×A4×A5×A6×A7×A8×A9):A9:=x.2.2.2.2.2.2.2.2.2
abbrev p10 (x:A0×A1×A2×A3×A4×A5×A6×A7×A8×A9×A10×A11):A10:=x.2.2.2.2.2.2.2.2.2.2.1
abbrev q10 (x:A0×A1×A2×A3×A4×A5×A6×A7×A8×A9×A10):A10:=x.2.2.2.2.2.2.2.2.2.2
abbrev p11 (x:A0×A1×A2×A3×A4×A5×A6×A7×A8×A9×A10×A11×A12):A11:=x.2.2.2.2.2.2.2.2.2.2.2.1
abbrev q11 (x:A0×A1×A2×A3×A4×A5×A6×A7×A8×A9×A10×A11):A11:=x.2.2.2.2.2.2.2.2.2.2.2
abbrev p12 (x:A0×A1×A2×A3×A4×A5×A6×A7×A8×A9×A10×A11×A12×A13):A12:=x.2.2.2.2.2.2.2.2.2.2.2.2.1
abbrev q12 (x:A0×A1×A2×A3×A4×A5×A6×A7×A8×A9×A10×A11×A12):A12:=x.2.2.2.2.2.2.2.2.2.2.2.2
abbrev p13 (x:A0×A1×A2×A3×A4×A5×A6×A7×A8×A9×A10×A11×A12×A13×A14):A13:=x.2.2.2.2.2.2.2.2.2.2.2.2.2.1
abbrev q13 (x:A0×A1×A2×A3×A4×A5×A6×A7×A8×A9×A10×A11×A12×A13):A13:=x.2.2.2.2.2.2.2.2.2.2.2.2.2
abbrev p14 (x:A0×A1×A2×A3×A4×A5×A6×A7×A8×A9×A10×A11×A12×A13×A14×A15):A14:=x.2.2.2.2.2.2.2.2.2.2.2.2.2.2.1
abbrev p15 (x:A0×A1×A2×A3×A4×A5×A6×A7×A8×A9×A10×A11×A12×A13×A14×A15×A16):A15:=x.2.2.2.2.2.2.2.2.2.2.2.2.2.2.2.1
abbrev p16 (x:A0×A1×A2×A3×A4×A5×A6×A7×A8×A9×A10×A11×A12×A13×A14×A15×A16×A17):A16:=x.2.2.2.2.2.2.2.2.2.2.2.2.2.2.2.2.1
abbrev q16 (x:A0×A1×A2×A3×A4×A5×A6×A7×A8×A9×A10×A11×A12×A13×A14×A15×A16):A16:=x.2.2.2.2.2.2.2.2.2.2.2.2.2.2.2.2
abbrev p17 (x:A0×A1×A2×A3×A4×A5×A6×A7×A8×A9×A10×A11×A12×A13×A14×A15×A16×A17×A18):A17:=x.2.2.2.2.2.2.2.2.2.2.2.2.2.2.2.2.2.1
abbrev q17 (x:A0×A1×A2×A3×A4×A5×A6×A7×A8×A9×A10×A11×A12×A13×A14×A15×A16×A17):A17:=x.2.2.2.2.2.2.2.2.2.2.2.2.2.2.2.2.2
abbrev p18 (x:A0×A1×A2×A3×A4×A5×A6×A7×A8×A9×A10×A11×A12×A13×A14×A15×A16×A17×A18×A19):A18:=x.2.2.2.2.2.2.2.2.2.2.2.2.2.2.2.2.2.2.1
abbrev q18 (x:A0×A1×A2×A3×A4×A5×A6×A7×A8×A9×A10×A11×A12×A13×A14×A15×A16×A17×A18):A18:=x.2.2.2.2.2.2.2.2.2.2.2.2.2.2.2.2.2.2
abbrev p19 (x:A0×A1×A2×A3×A4×A5×A6×A7×A8×A9×A10×A11×A12×A13×A14×A15×A16×A17×A18×A19×A20):A19:=x.2.2.2.2.2.2.2.2.2.2.2.2.2.2.2.2.2.2.2.1
abbrev p20 (x:A0×A1×A2×A3×A4×A5×A6×A7×A8×A9×A10×A11×A12×A13×A14×A15×A16×A17×A18×A19×A20×A21):A20:=x.2.2.2.2.2.2.2.2.2.2.2.2.2.2.2.2.2.2.2.2.1
abbrev q21 (x:A0×A1×A2×A3×A4×A5×A6×A7×A8×A9×A10×A11×A12×A13×A14×A15×A16×A17×A18×A19×A20×A21):A21:=x.2.2.2.2.2.2.2.2.2.2.2.2.2.2.2.2.2.2.2.2.2
end Prod
namespace Go.Proofs.YthehadcddfilhaaGreatDoor.AI
open Go.RowKit
set_option maxRecDepth 100000
set_option maxHeartbeats 4000000
set_option linter.unusedVariables false
set_option linter.unusedSimpArgs false
open Act renaming put→MX
open _root_.Array renaming length_toList→iu,replicate→oh
open _root_.Bool renaming true→ai,false→aj
open _root_.Int renaming ofNat→aO,toNat→aU,tmod→zG
open IntKind renaming wrap→oL
open _root_.List renaming length→al,replicate→aG,take→dM,length_singleton→eD,range→eS,getElem?_cons_zero→qI
open _root_.Nat renaming beq→aC,testBit→aM,ble→eC,blt→gf,min→iQ
open Oper renaming wp→GW
open _root_.Option renaming some→af,none→ah,bind_some→aH
open Region renaming wanted→iJ,binds→zC,ready→GV
open _root_.Sum renaming inr→bW,inl→nh
open World renaming shape?→rF,cell?→MT
noncomputable section
abbrev aB:=@if_neg
abbrev aE:=@if_pos
abbrev aQ:=@decide_eq_true
abbrev bg:=@of_decide_eq_true
abbrev bD:=@if_true
abbrev bH:=@decide_eq_false
abbrev bR:=@decide_eq_true_eq
abbrev cr:=@decide_false
abbrev cJ:=@decide_true
abbrev cU:=@beq_self_eq_true
abbrev cV:=@beq_iff_eq
abbrev cZ:=@absurd
abbrev dY:=@if_false
abbrev fY:=@or_false
abbrev gG:=@congrArg
abbrev A_:=@true_and
abbrev Ba:=@of_decide_eq_false
abbrev ak:=@Option.some.injEq
abbrev av:=@Bool.and_eq_true
abbrev aw:=@Nat.eq_of_beq_eq_true
abbrev ay:=@List.getD_eq_getElem?_getD
abbrev aA:=@List.getElem?_eq_getElem
abbrev aD:=@Prod.mk.injEq
abbrev aL:=@List.mem_singleton
abbrev a_:=@Nat.le_of_ble_eq_true
abbrev ba:=@List.mem_of_getElem?
abbrev bc:=@List.getElem?_map
abbrev bi:=@List.mem_cons
abbrev bk:=@List.getElem?_eq_some_iff
abbrev bt:=@List.length_append
abbrev bu:=@Nat.testBit_or
abbrev bC:=@Nat.ble_eq_true_of_le
abbrev bE:=@List.length_take
abbrev bN:=@Nat.zero_add
abbrev bO:=@List.getElem?_append_left
abbrev bP:=@List.mem_append
abbrev bQ:=@List.getElem?_eq_none
abbrev bT:=@Nat.le_refl
abbrev bZ:=@Nat.lt_or_ge
abbrev b7:=@List.getElem?_append_right
abbrev cf:=@List.length_map
abbrev cu:=@List.not_mem_nil
abbrev cw:=@Bool.false_eq_true
abbrev cC:=@Array.getElem?_eq_some_iff
abbrev cG:=@Nat.mul_le_mul_right
abbrev cH:=@Array.getElem?_toList
abbrev cM:=@List.mem_cons_of_mem
abbrev cN:=@List.getElem?_take
abbrev cQ:=@List.map_append
abbrev cR:=@List.take_length
abbrev dj:=@Nat.le_trans
abbrev dk:=@List.mem_map
abbrev dy:=@Nat.lt_of_lt_of_le
abbrev dz:=@List.mem_cons_self
abbrev dA:=@List.ext_getElem
abbrev dN:=@Bool.not_eq_true'
abbrev ey:=@Int.natCast_nonneg
abbrev eE:=@List.length_replicate
abbrev eV:=@List.getElem?_of_mem
abbrev eX:=@Int.le_refl
abbrev fB:=@List.foldl_append
abbrev fD:=@List.flatMap_cons
abbrev fR:=@List.take_of_length_le
abbrev gh:=@List.map_cons
abbrev gj:=@List.all_eq_true
abbrev gC:=@Array.getD_eq_getD_getElem?
abbrev gF:=@List.length_eq_zero_iff
abbrev gV:=@List.getElem?_drop
abbrev gW:=@Bool.and_eq_true_iff
abbrev ia:=@Nat.ne_of_beq_eq_false
abbrev ig:=@Array.getElem?_eq_getElem
abbrev iv:=@Nat.le_succ_of_le
abbrev iw:=@List.append_assoc
abbrev iK:=@Option.isSome_iff_exists
abbrev iP:=@Nat.succ_mul
abbrev iR:=@List.cons.injEq
abbrev iS:=@Bool.or_eq_true
abbrev jg:=@List.mem_of_mem_take
abbrev jM:=@Option.map_eq_some_iff
abbrev jQ:=@Option.some.inj
abbrev jR:=@Nat.zero_le
abbrev jT:=@List.append_nil
abbrev ki:=@List.getElem?_toArray
abbrev kA:=@Nat.or_assoc
abbrev kC:=@List.map_take
abbrev kD:=@Bool.and_self
abbrev kX:=@List.take_append_of_le_length
abbrev kY:=@List.mem_append_left
abbrev lm:=@List.length_range
abbrev lq:=@List.getElem?_replicate
abbrev mw:=@List.length_drop
abbrev m8:=@List.mem_range
abbrev m_:=@List.getElem_range
abbrev ne:=@Bool.false_and
abbrev nk:=@List.mem_append_right
abbrev oJ:=@List.take_succ_eq_append_getElem
abbrev oK:=@List.getElem?_set
abbrev pq:=@List.eq_of_mem_replicate
abbrev pu:=@Bool.true_and
abbrev pI:=@Array.getElem?_setIfInBounds_ne
abbrev pO:=@List.map_congr_left
abbrev pP:=@List.length_take_le
abbrev qH:=@List.getElem_map
abbrev rG:=@Nat.beq_refl
abbrev rH:=@List.drop_of_length_le
abbrev sw:=@Nat.min_eq_left
abbrev sx:=@List.length_set
abbrev sA:=@Nat.add_assoc
abbrev sM:=@List.contains_iff_mem
abbrev sV:=@List.size_toArray
abbrev uF:=@List.mem_flatMap
abbrev uG:=@List.getElem_set
abbrev uH:=@List.getElem_mem
abbrev uI:=@List.drop_append
abbrev vg:=@Classical.byContradiction
abbrev vC:=@List.drop_succ_cons
abbrev wL:=@Nat.not_lt_zero
abbrev xZ:=@Nat.zero_or
abbrev zE:=@Nat.lt_succ_of_lt
abbrev zF:=@List.map_map
abbrev AZ:=@List.take_append_drop
abbrev BU:=@Nat.lt_succ_self
abbrev BV:=@Int.not_lt
abbrev B1:=@Nat.lt_irrefl
abbrev DC:=@List.replicate_succ'
abbrev DE:=@List.getElem?_mapIdx
abbrev DF:=@List.drop_append_of_le_length
abbrev EY:=@List.sum_append
abbrev EZ:=@List.mem_filter
abbrev F7:=@List.getElem?_range
abbrev F8:=@Int.toNat_of_nonneg
abbrev GY:=@Nat.sub_self
abbrev GZ:=@Nat.mul_comm
abbrev Km:=@Nat.eq_zero_or_pos
abbrev Ko:=@Array.ext'
abbrev MU:=@Nat.lt_trichotomy
abbrev MV:=@Nat.add_mul
abbrev MW:=@Bool.eq_false_iff
inductive FV where
 |raw (v:Value)
 |sl (cells:List FV) (n:Nat)
 |ptr (cells:List FV) (off:Nat)
 |agg (cells:List FV)
inductive AV where
 |f (x:FV)
 |ptr (id off:Nat)
 |sl (id off n:Nat)
 |row (id sz n:Nat)
 |mp (id:Nat)
 |emp
 |anyb
 |agg (cells:List AV)
 |tup (vs:List AV)
 |clo (g:FuncId) (cap:List AV)
def FV.isCell:FV->Bool
 |.raw v=>v.oneCell'
 |.sl _ _=>ai
 |.ptr _ _=>ai
 |.agg _=>aj
def AV.isCell:AV->Bool
 |.f x=>x.isCell
 |.ptr _ _=>ai
 |.sl _ _ _=>ai
 |.row _ _ _=>ai
 |.mp _=>ai
 |.emp=>ai
 |.clo _ _=>ai
 |_=>aj
inductive m6 (O:Nat->Prop) (w:World):FV->Value->Prop
 |raw (v:Value):m6 O w (.raw v) v
 |nil (a:Option Addr) (c:Nat) (hc:c<=maxLen):m6 O w (.sl [] 0) (.slice a 0 c)
 |sl (cells:List FV) (n c b off:Nat) (us:Nat->Value) (hn:n<=c) (hc:c<=maxLen) (hO:¬O b) (hb:b<w.heap.size)
   (hcl:∀ x∈cells,x.isCell=ai)
   (hu:∀ j,j<cells.length->w.cell? ⟨b,off+j,ah⟩=af (us j)) (hr:∀ (j:Nat) x,cells[j]? =af x->m6 O w x (us j)):
   m6 O w (.sl cells n) (.slice (af ⟨b,off,ah⟩) n c)
 |ptr (cells:List FV) (o b off:Nat) (us:Nat->Value) (hO:¬O b) (hb:b<w.heap.size)
   (hcl:∀ x∈cells,x.isCell=ai)
   (hu:∀ j,j<cells.length->w.cell? ⟨b,off+j,ah⟩=af (us j)) (hr:∀ (j:Nat) x,cells[j]? =af x->m6 O w x (us j)):
   m6 O w (.ptr cells o) (.pointer (af ⟨b,off+o,ah⟩))
 |agg (cells:List FV) (vs:List Value) (hl:vs.length=cells.length) (hcl:∀ x∈cells,x.isCell=ai)
   (hr:∀ (j:Nat) x v,cells[j]? =af x->vs[j]? =af v->m6 O w x v):m6 O w (.agg cells) (.agg vs.toArray)
abbrev PM:=Nat->Option Nat
inductive cL (φ:PM) (O:Nat->Prop) (w:World):AV->Value->Prop
 |f {x:FV} {v:Value} (h:m6 O w x v):cL φ O w (.f x) v
 |ptr {id off b:Nat} (h:φ id=af b):cL φ O w (.ptr id off) (.pointer (af ⟨b,off,ah⟩))
 |sl {id off n c b:Nat} (h:φ id=af b) (hn:n<=c) (hc:c<=maxLen):cL φ O w (.sl id off n) (.slice (af ⟨b,off,ah⟩) n c)
 |row {id sz n c b:Nat} (h:φ id=af b) (hn:n<=c) (hc:c<=maxLen) (hs:∃ ty,w.shape? b=af (ty,c*sz)):
   cL φ O w (.row id sz n) (.slice (af ⟨b,0,ah⟩) n c)
 |emp {a:Option Addr}:cL φ O w .emp (.slice a 0 0)
 |anyb {b:Bool}:cL φ O w .anyb (.bool b)
 |mp {id b:Nat} (h:φ id=af b):cL φ O w (.mp id) (.map (af b))
 |agg {cells:List AV} {vs:List Value} (hl:vs.length=cells.length) (hcl:∀ x∈cells,x.isCell=ai)
   (hr:∀ (j:Nat) x v,cells[j]? =af x->vs[j]? =af v->cL φ O w x v):cL φ O w (.agg cells) (.agg vs.toArray)
 |tup {cells:List AV} {vs:List Value} (hl:vs.length=cells.length)
   (hr:∀ (j:Nat) x v,cells[j]? =af x->vs[j]? =af v->cL φ O w x v):cL φ O w (.tup cells) (.tuple vs.toArray)
 |clo {g:FuncId} {cells:List AV} {vs:List Value} (hl:vs.length=cells.length)
   (hr:∀ (j:Nat) x v,cells[j]? =af x->vs[j]? =af v->cL φ O w x v):cL φ O w (.clo g cells) (.func (.func g) #[] vs.toArray)
structure Ki (O:Nat->Prop) (w w':World):Prop where
 os:w'.os=w.os
 tape:w'.tape=w.tape
 output:w'.output=w.output
 size:w.heap.size<=w'.heap.size
 blk:∀ k,k<w.heap.size->¬O k->w'.heap[k]? =w.heap[k]?
 shp:∀ k,k<w.heap.size->w'.shape? k=w.shape? k
theorem Ki.refl (O:Nat->Prop) (w:World):Ki O w w:=⟨rfl,rfl,rfl,bT _,λ_ _ _=>rfl,λ_ _=>rfl⟩
theorem Dp {w w':World} {b:Nat} (h:w'.heap[b]? =w.heap[b]?) (o:Nat):w'.cell? ⟨b,o,ah⟩=w.cell? ⟨b,o,ah⟩:=by
 unfold MT;rw[h]
theorem m6.ext {O O':Nat->Prop} {w w':World} (he:Ki O w w') (J:∀ k,k<w.heap.size->O' k->O k) {x:FV} {v:Value} (h:m6 O w x v):m6 O' w' x v:=by
 induction h with
 |raw v=>exact .raw v
 |nil a c hc=>exact .nil a c hc
 |sl cells n c b off us hn hc hO hb hcl hu hr I=>
  exact .sl cells n c b off us hn hc (λh=>hO (J b hb h)) (dy hb he.size) hcl (λj hj=>by rw[Dp (he.blk b hb hO)];exact hu j hj) I
 |ptr cells o b off us hO hb hcl hu hr I=>
  exact .ptr cells o b off us (λh=>hO (J b hb h)) (dy hb he.size) hcl (λj hj=>by rw[Dp (he.blk b hb hO)];exact hu j hj) I
 |agg cells vs hl hcl hr I=>exact .agg cells vs hl hcl I
theorem cL.ext {φ φ':PM} {O O':Nat->Prop} {w w':World} (hs:∀ i k,φ i=af k->φ' i=af k) (he:Ki O w w') (J:∀ k,k<w.heap.size->O' k->O k) {x:AV} {v:Value} (h:cL φ O w x v):cL φ' O' w' x v:=by
 induction h with
 |f h=>exact .f (h.ext he J)
 |ptr h=>exact .ptr (hs _ _ h)
 |sl h hn hc=>exact .sl (hs _ _ h) hn hc
 |row h hn hc hsh=>
  obtain⟨ty,hty⟩:=hsh;refine .row (hs _ _ h) hn hc ⟨ty,?_⟩;rw[he.shp _ ?_];exact hty;unfold rF at hty;rcases bZ _ w.heap.size with hlt|hge
  .exact hlt
  .rw[Array.getElem?_eq_none hge] at hty;cases hty
 |emp=>exact .emp
 |anyb=>exact .anyb
 |mp h=>exact .mp (hs _ _ h)
 |agg hl hcl hr I=>exact .agg hl hcl I
 |tup hl hr I=>exact .tup hl I
 |clo hl hr I=>exact .clo hl I
inductive BC where
 |fz (l:List FV)
 |mx (l:List AV)
 |mp (es:List (Value×AV))
 |it (s:ByteArray) (pos:Nat)
def BC.get:BC->Nat->Option AV
 |.fz l,j=>l[j]?.map AV.f
 |.mx l,j=>l[j]?
 |_,_=>ah
def BC.len:BC->Nat
 |.fz l=>l.length
 |.mx l=>l.length
 |_=>0
def BC.isCells:BC->Bool
 |.fz _=>ai
 |.mx _=>ai
 |_=>aj
structure wK where
 ty:TypeId
 c:BC
abbrev HF:=Nat->Option wK
def own (φ:PM) (h:HF) (k:Nat):Prop:=∃ id b,h id=af b/\φ id=af k
def tot (E:Nat->Prop) (φ:PM) (h:HF) (k:Nat):Prop:=E k\/own φ h k
def ve (φ:PM) (O:Nat->Prop) (w:World) (c:BC) (arr:Array Value):Prop:=
 c.len<=arr.size/\∀ j x,c.get j=af x->x.isCell=ai/\∃ v,arr[j]? =af v/\cL φ O w x v
def js (φ:PM) (O:Nat->Prop) (w:World) (b:wK) (o:Obj):Prop:=
 match b.c with
 |.mp es=>∃ ents clock,o= .map ents clock/\ents.toList.map (·.key)=es.map (·.1)/\∀ (j:Nat) x,es[j]? =af x->∃ m,ents[j]? =af m/\cL φ O w x.2 m.val
 |.it s p=>o= .stringIter s p
 |c=>∃ arr,o= .cells arr b.ty (0,0)/\ve φ O w c arr
def Ww (φ:PM) (O:Nat->Prop) (w:World) (k:Nat) (b:wK):Prop:=∃ o,w.heap[k]? =af o/\js φ O w b o
theorem Ww.cells {φ:PM} {O:Nat->Prop} {w:World} {k:Nat} {b:wK} (h:Ww φ O w k b) (hc:b.c.isCells=ai):
 ∃ arr,w.heap[k]? =af (.cells arr b.ty (0,0))/\ve φ O w b.c arr:=by
 obtain⟨o,h1,h2⟩:=h;unfold js at h2;cases hb:b.c with
 |fz l=>rw[hb] at h2;obtain⟨arr,rfl,I⟩:=h2;exact⟨arr,h1,I⟩
 |mx l=>rw[hb] at h2;obtain⟨arr,rfl,I⟩:=h2;exact⟨arr,h1,I⟩
 |mp _=>rw[hb] at hc;cases hc
 |it _ _=>rw[hb] at hc;cases hc
theorem js.mono {φ φ':PM} {O O':Nat->Prop} {w w':World} (hk:∀ x v,cL φ O w x v->cL φ' O' w' x v) {b:wK} {o:Obj} (h:js φ O w b o):js φ' O' w' b o:=by
 unfold js at h ⊢;cases hb:b.c with
 |fz l=>rw[hb] at h;obtain⟨arr,h1,h2,J⟩:=h;exact⟨arr,h1,h2,λj x I=>by obtain⟨a,v,c,d⟩:=J j x I;exact⟨a,v,c,hk _ _ d⟩⟩
 |mx l=>rw[hb] at h;obtain⟨arr,h1,h2,J⟩:=h;exact⟨arr,h1,h2,λj x I=>by obtain⟨a,v,c,d⟩:=J j x I;exact⟨a,v,c,hk _ _ d⟩⟩
 |mp es=>rw[hb] at h;obtain⟨e,c,h1,h2,J⟩:=h;exact⟨e,c,h1,h2,λj x I=>by obtain⟨m,a,b⟩:=J j x I;exact⟨m,a,hk _ _ b⟩⟩
 |it s p=>rw[hb] at h;exact h
theorem ve.mono {φ φ':PM} {O O':Nat->Prop} {w w':World} (hk:∀ x v,cL φ O w x v->cL φ' O' w' x v) {c:BC} {arr:Array Value} (h:ve φ O w c arr):ve φ' O' w' c arr:=
 ⟨h.1,λj x I=>by obtain⟨a,v,c,d⟩:=h.2 j x I;exact⟨a,v,c,hk _ _ d⟩⟩
def uw (l:List UInt8):FV:=.raw (.string ⟨l.toArray⟩)
def Cr:List FV:=[uw [118,97,114],uw [118,111,108,97,116,105,108,101],uw [109,117,116,101,120],uw [114,119,108,111,99,107],uw [99,111,110,100],uw [102,117,116,117,114,101],uw [116,104,114,101,97,100],uw [105,102],uw [101,108,115,101],uw [119,104,105,108,101],uw [108,111,99,107],uw [114,101,97,100],uw [119,114,105,116,101],uw [116,114,97,110,115,97,99,116,105,111,110],uw [97,116,111,109,105,99],uw [119,97,105,116],uw [110,111,116,105,102,121],uw [110,111,116,105,102,121,97,108,108],uw [115,112,97,119,110],uw [106,111,105,110],uw [115,101,116],uw [103,101,116]]
def G (g:Nat):Option (List FV):=if g==0 then af Cr else ah
structure qP (φ:PM) (E:Nat->Prop) (h:HF) (w:World):Prop where
 inj:∀ i j b b' k,h i=af b->h j=af b'->φ i=af k->φ j=af k->i=j
 at_:∀ i b,h i=af b->∃ k,φ i=af k/\¬E k/\Ww φ (tot E φ h) w k b
 el:∀ k,E k->k<w.heap.size
 gl:∀ g cells,G g=af cells->m6 (tot E φ h) w (.ptr cells 0) (.pointer (af ⟨g,0,ah⟩))
structure iY (φ φ':PM) (h h':HF) (w w':World):Prop where
 sub:∀ i k,φ i=af k->φ' i=af k
 ext:Ki (own φ h) w w'
 own_:∀ k,k<w.heap.size->own φ' h' k->own φ h k
theorem iY.refl (φ:PM) (h:HF) (w:World):iY φ φ h h w w:=⟨λ_ _ h=>h,Ki.refl _ _,λ_ _ h=>h⟩
theorem iY.trans {φ φ' φ'':PM} {h h' h'':HF} {w w' w'':World} (m:iY φ φ' h h' w w') (n:iY φ' φ'' h' h'' w' w''):iY φ φ'' h h'' w w'' where
 sub:=λi k e=>n.sub i k (m.sub i k e)
 ext:=⟨n.ext.os.trans m.ext.os,n.ext.tape.trans m.ext.tape,n.ext.output.trans m.ext.output,dj m.ext.size n.ext.size,
  λk hk I=>(n.ext.blk k (dy hk m.ext.size) (λh=>I (m.own_ k hk h))).trans (m.ext.blk k hk I),
  λk hk=>(n.ext.shp k (dy hk m.ext.size)).trans (m.ext.shp k hk)⟩
 own_:=λk hk h=>m.own_ k hk (n.own_ k (dy hk m.ext.size) h)
theorem Ki.mono {O O':Nat->Prop} {w w':World} (h:Ki O w w') (I:∀ k,O k->O' k):Ki O' w w':=
 ⟨h.os,h.tape,h.output,h.size,λk hk hO=>h.blk k hk (λx=>hO (I k x)),h.shp⟩
theorem iY.keep {φ φ':PM} {h h':HF} {w w':World} (m:iY φ φ' h h' w w') {E:Nat->Prop} {x:AV} {v:Value} (r:cL φ (tot E φ h) w x v):cL φ' (tot E φ' h') w' x v:=
 r.ext m.sub (m.ext.mono λ_ h=>.inr h) λk hk I=>I.elim .inl λo=>.inr (m.own_ k hk o)
theorem iY.keepF {φ φ':PM} {h h':HF} {w w':World} (m:iY φ φ' h h' w w') {E:Nat->Prop} {x:FV} {v:Value} (r:m6 (tot E φ h) w x v):m6 (tot E φ' h') w' x v:=
 r.ext (m.ext.mono λ_ h=>.inr h) λk hk I=>I.elim .inl λo=>.inr (m.own_ k hk o)
abbrev EF:=Nat->Option AV
def MP (φ:PM) (O:Nat->Prop) (w:World) (e:EF) (a:Act):Prop:=∀ t x,e t=af x->cL φ O w x (a.tmps.getD t undef)
def Cg (e:EF) (dst:Option Nat) (x:AV):EF:=λt=>if dst=af t then af x else e t
def eO (h:HF) (wr:List Nat) (nw:HF):HF:=λi=>if i∈wr then nw i else h i
structure AY where
 val:AV
 rd:List Nat
 wr:List Nat
 nw:HF
 N:List Nat
def gK (P:Program) (o:Oper) (e:EF) (h:HF) (f:AY):Prop:=
 ∀ (φ:PM) (E:Nat->Prop) (h':HF) (w:World) (a:Act),(∀ i∈f.rd,h' i=h i)->(∀ i∈f.wr,h' i=h i)->
  (∀ t,.tmp t∈o.op.operands->∀ y,e t=af y->cL φ (tot E φ h') w y (a.tmps.getD t undef))->qP φ E h' w->(∀ n∈f.N,φ n=ah)->
  o.wp P a w (λa' w'=>∃ v φ',a'=a.put o.dst v/\iY φ φ' h' (eO h' f.wr f.nw) w w'/\(∀ i k,φ' i=af k->φ i=af k\/i∈f.N)/\
   qP φ' E (eO h' f.wr f.nw) w'/\cL φ' (tot E φ' (eO h' f.wr f.nw)) w' f.val v) (λ_ _ _=>False)
def rJ:AY:=⟨.f (.raw undef),[],[],λ_=>ah,[]⟩
inductive J8 (P:Program) (ops:Array Oper) (o:Oper) (f:AY) (e:EF) (h:HF):Prop
 |run (hg:o.guard=ah) (ht:gK P o e h f)
 |runG (j t:Nat) (want:Bool) (hg:o.guard=af (j,want)) (hj:(ops[j]?).bind (·.dst)=af t) (he:e t=af (.f (.raw (.bool want)))) (ht:gK P o e h f)
 |skip (j t:Nat) (want:Bool) (hg:o.guard=af (j,want)) (hj:(ops[j]?).bind (·.dst)=af t) (v:Value) (he:e t=af (.f (.raw v))) (hv:v≠ .bool want) (hf:f=rJ)
inductive zB (P:Program) (ops:Array Oper):List (Oper×AY)->EF->HF->EF->HF->Prop
 |nil (e:EF) (h:HF):zB P ops [] e h e h
 |cons {o:Oper} {f:AY} {r:List (Oper×AY)} {e e':EF} {h h':HF} (hs:J8 P ops o f e h)
   (hr:zB P ops r (Cg e o.dst f.val) (eO h f.wr f.nw) e' h'):zB P ops ((o,f)::r) e h e' h'
def Kq (S:Nat->Bool):Nat->List (Oper×AY)->EF->EF
 |_,[],e=>e
 |k,(o,f)::r,e=>Kq S (k+1) r (if S k then Cg e o.dst f.val else e)
def BW (S:Nat->Bool):Nat->List (Oper×AY)->HF->HF
 |_,[],h=>h
 |k,(_,f)::r,h=>BW S (k+1) r (if S k then eO h f.wr f.nw else h)
theorem DL {S S':Nat->Bool} {t:Nat}:∀ (l:List (Oper×AY)) (k:Nat) (e e':EF),e t=e' t->
 (∀ (j:Nat) o f,l[j]? =af (o,f)->o.dst=af t->S (k+j)=S' (k+j))->Kq S k l e t=Kq S' k l e' t
 |[],_,_,_,he,_=>he
 |(o,f)::r,k,e,e',he,I=>by
  simp only[Kq];refine DL r (k+1) _ _ ?_ (λj o f hj hd=>by have:=I (j+1) o f (by simpa using hj) hd;rwa [show k+(j+1)=k+1+j from by omega] at this);by_cases hd:o.dst=af t
  .rw[show S k=S' k from by simpa using I 0 o f rfl hd];split
   .simp[Cg,hd]
   .exact he
  .split<;>split<;>simp[Cg,hd,he]
theorem DK {S S':Nat->Bool} {t:Nat}:∀ (l:List (Oper×AY)) (k:Nat) (e e':HF),e t=e' t->
 (∀ (j:Nat) o f,l[j]? =af (o,f)->t∈f.wr->S (k+j)=S' (k+j))->BW S k l e t=BW S' k l e' t
 |[],_,_,_,he,_=>he
 |(o,f)::r,k,e,e',he,I=>by
  simp only[BW];refine DK r (k+1) _ _ ?_ (λj o f hj hd=>by have:=I (j+1) o f (by simpa using hj) hd;rwa [show k+(j+1)=k+1+j from by omega] at this);by_cases hd:t∈f.wr
  .rw[show S k=S' k from by simpa using I 0 o f rfl hd];split
   .simp[eO,hd]
   .exact he
  .split<;>split<;>simp[eO,hd,he]
theorem B8 {S:Nat->Bool} {t:Nat}:∀ (l:List (Oper×AY)) (k:Nat) (e:EF),(∀ (j:Nat) o f,l[j]? =af (o,f)->o.dst=af t->S (k+j)=aj)->Kq S k l e t=e t
 |[],_,_,_=>rfl
 |(o,f)::r,k,e,I=>by
  simp only[Kq];rw[B8 r (k+1) _ (λj o f hj hd=>by have:=I (j+1) o f (by simpa using hj) hd;rwa [show k+(j+1)=k+1+j from by omega] at this)];split
  .rename_i h;unfold Cg;rw[aB];intro hd;have:=I 0 o f rfl hd;simp_all
  .rfl
theorem B7 {S:Nat->Bool} {t:Nat}:∀ (l:List (Oper×AY)) (k:Nat) (e:HF),(∀ (j:Nat) o f,l[j]? =af (o,f)->t∈f.wr->S (k+j)=aj)->BW S k l e t=e t
 |[],_,_,_=>rfl
 |(o,f)::r,k,e,I=>by
  simp only[BW];rw[B7 r (k+1) _ (λj o f hj hd=>by have:=I (j+1) o f (by simpa using hj) hd;rwa [show k+(j+1)=k+1+j from by omega] at this)];split
  .rename_i h;unfold eO;rw[aB];intro hd;have:=I 0 o f rfl hd;simp_all
  .rfl
theorem O6 {S:Nat->Bool} {t:Nat}:∀ (l:List (Oper×AY)) (k i:Nat) (e:EF) (o:Oper) (f:AY),l[i]? =af (o,f)->o.dst=af t->S (k+i)=ai->
 (∀ (j:Nat) o' f',i<j->l[j]? =af (o',f')->o'.dst=af t->S (k+j)=aj)->Kq S k l e t=af f.val
 |[],_,_,_,_,_,h,_,_,_=>by simp at h
 |(o',f')::r,k,0,e,o,f,h,hd,I,hl=>by
  simp only[qI,ak,aD] at h;obtain⟨rfl,rfl⟩:=h;simp only[Kq];rw[B8 r (k+1) _ (λj o f hj hd=>by have:=hl (j+1) o f (by omega) (by simpa using hj) hd;rwa [show k+(j+1)=k+1+j from by omega] at this)];simp at I;simp[I,Cg,hd]
 |(o',f')::r,k,i+1,e,o,f,h,hd,I,hl=>by
  simp only[Kq];exact O6 r (k+1) i _ o f (by simpa using h) hd (by rwa [show k+1+i=k+(i+1) from by omega])
   (λj o f hij hj hd=>by have:=hl (j+1) o f (by omega) (by simpa using hj) hd;rwa [show k+(j+1)=k+1+j from by omega] at this)
theorem O5 {S:Nat->Bool} {t:Nat}:∀ (l:List (Oper×AY)) (k i:Nat) (e:HF) (o:Oper) (f:AY),l[i]? =af (o,f)->t∈f.wr->S (k+i)=ai->
 (∀ (j:Nat) o' f',i<j->l[j]? =af (o',f')->t∈f'.wr->S (k+j)=aj)->BW S k l e t=f.nw t
 |[],_,_,_,_,_,h,_,_,_=>by simp at h
 |(o',f')::r,k,0,e,o,f,h,hd,I,hl=>by
  simp only[qI,ak,aD] at h;obtain⟨rfl,rfl⟩:=h;simp only[BW];rw[B7 r (k+1) _ (λj o f hj hd=>by have:=hl (j+1) o f (by omega) (by simpa using hj) hd;rwa [show k+(j+1)=k+1+j from by omega] at this)];simp at I;simp[I,eO,hd]
 |(o',f')::r,k,i+1,e,o,f,h,hd,I,hl=>by
  simp only[BW];exact O5 r (k+1) i _ o f (by simpa using h) hd (by rwa [show k+1+i=k+(i+1) from by omega])
   (λj o f hij hj hd=>by have:=hl (j+1) o f (by omega) (by simpa using hj) hd;rwa [show k+(j+1)=k+1+j from by omega] at this)
theorem zB.step {P:Program} {ops:Array Oper}:∀ {l:List (Oper×AY)} {e e':EF} {h h':HF} (_:zB P ops l e h e' h') (k i:Nat) (o:Oper) (f:AY),l[i]? =af (o,f)->
 J8 P ops o f (Kq (λj=>decide (j<k+i)) k l e) (BW (λj=>decide (j<k+i)) k l h):=by
 intro l e e' h h' hc;induction hc with
 |nil=>intro k i o f hi;simp at hi
 |@cons o1 I r e e' h h' hs hr J=>
  intro k i o f hi;cases i with
  |zero=>
   simp only[qI,ak,aD] at hi;obtain⟨rfl,rfl⟩:=hi;have e1:Kq (λj=>decide (j<k+0)) k ((o1,I)::r) e=e:=by
    funext t;rw[B8];intro j o f _ _;simp
   have e2:BW (λj=>decide (j<k+0)) k ((o1,I)::r) h=h:=by
    funext t;rw[B7];intro j o f _ _;simp
   rw[e1,e2];exact hs
  |succ i=>
   have:=J (k+1) i o f (by simpa using hi);simp only[Kq,BW];rw[show k+(i+1)=k+1+i from by omega];simpa[show k<k+1+i from by omega] using this
theorem zB.final {P:Program} {ops:Array Oper}:∀ {l:List (Oper×AY)} {e e':EF} {h h':HF} (_:zB P ops l e h e' h') (k:Nat) (S:Nat->Bool),(∀ j,j<l.length->S (k+j)=ai)->
 Kq S k l e=e'/\BW S k l h=h':=by
 intro l e e' h h' hc;induction hc with
 |nil=>intro k S _;exact⟨rfl,rfl⟩
 |@cons o1 M r e e' h h' hs hr J=>
  intro k S I;have h0:S k=ai:=by simpa using I 0 (by simp)
  simp only[Kq,BW,h0,bD];exact J (k+1) S (λj hj=>by have:=I (j+1) (by simpa using hj);rwa [show k+(j+1)=k+1+j from by omega] at this)
theorem OY {P:Program} {o:Oper} {a:Act} {w:World} {K K':Act->World->Prop} {Q:Exit->Act->World->Prop} (h:∀ a w,K a w->K' a w)
 (hh:o.wp P a w K (λ_ _ _=>False)):o.wp P a w K' Q:=by
 unfold GW at*
 generalize (execOp a.eval o).run P w=r at*
 cases r with
 |ok n w'=>
  cases n<;>simp only[Oper.upon] at hh ⊢<;>
   first
    |exact h _ _ hh
    |exact Calls.mono hh (λe w'' he=>by
      cases e with
      |returned v=>exact h _ _ he
      |panicked c=>exact he.elim
      |outgrown=>obtain⟨_,_,h⟩:=he;exact h.elim)
    |exact Rows.mono hh (λ_ _ he=>h _ _ he)
 |halt x w'=>cases x<;>simp only[Oper.upon] at hh ⊢<;>first|exact hh.elim|exact hh
inductive Bef (ops:Array Oper):Nat->Nat->Prop
 |one {j:Nat} {o:Oper} {e:Edge} (h:ops[j]? =af o) (he:e∈o.after) (hb:zC .any e=ai):Bef ops j e.on
 |more {j i:Nat} {o:Oper} {e:Edge} (h:ops[j]? =af o) (he:e∈o.after) (hb:zC .any e=ai) (hi:Bef ops e.on i):Bef ops j i
structure NIP (ops:Array Oper) (l:List (Oper×AY)):Prop where
 edge:∀ (j:Nat) o,ops[j]? =af o->∀ e∈o.after,zC .any e=ai->e.on<j
 pair:∀ (i j:Nat) oi fi oj fj,i<j->l[i]? =af (oi,fi)->l[j]? =af (oj,fj)->Bef ops j i\/
  (oi.apart ops oj=ai/\(∀ x∈fi.wr,x∉fj.rd/\x∉fj.wr)/\(∀ x∈fj.wr,x∉fi.rd))
 names:∀ (i j:Nat) oi fi oj fj,i<j->l[i]? =af (oi,fi)->l[j]? =af (oj,fj)->∀ n∈fi.N,n∉fj.N
def EW (ops:Array Oper) (listed:Array Bool):Prop:=∀ (j:Nat) o,ops[j]? =af o->listed.getD j aj=ai->∀ e∈o.after,zC .any e=ai->listed.getD e.on aj=ai
theorem EW.bef {ops:Array Oper} {listed:Array Bool} (hc:EW ops listed) {j i:Nat} (h:Bef ops j i):listed.getD j aj=ai->listed.getD i aj=ai:=by
 induction h with
 |one h he hb=>intro hj;exact hc _ _ h hj _ he hb
 |more h he hb hi I=>intro hj;exact I (hc _ _ h hj _ he hb)
theorem WG {ops:Array Oper} {listed:Array Bool} (hc:EW ops listed) {j i:Nat} {o:Oper} (I:ops[j]? =af o) (hr:∀ e∈o.after,zC .any e=ai->listed.getD e.on aj=ai) (h:Bef ops j i):listed.getD i aj=ai:=by
 cases h with
 |one h he hb=>rw[h] at I;cases I;exact hr _ he hb
 |more h he hb hi=>rw[h] at I;cases I;exact hc.bef hi (hr _ he hb)
theorem sG {listed:Array Bool} {j:Nat} (h:listed.getD j ai=aj):listed.getD j aj=aj/\j<listed.size:=by
 rcases bZ j listed.size with h1|h1
 .simp[h1] at h ⊢;exact h
 .simp[Array.getElem?_eq_none h1] at h
def StP (φ0:PM) (E:Nat->Prop) (e0:EF) (h0:HF) (w0:World) (a0:Act) (l:List (Oper×AY)) (S:Nat->Bool) (a:Act) (w:World):Prop:=
 ∃ φ,iY φ0 φ h0 (BW S 0 l h0) w0 w/\(∀ i k,φ i=af k->φ0 i=af k\/∃ (j:Nat) (o:Oper) (f:AY),S j=ai/\l[j]? =af (o,f)/\i∈f.N)/\
  qP φ E (BW S 0 l h0) w/\MP φ (tot E φ (BW S 0 l h0)) w (Kq S 0 l e0) a/\a.defers=a0.defers/\a.tmps.size=a0.tmps.size
theorem HJ {a:Act} {dst:Option Tmp} {v:Value} {t:Nat} (hd:∀ d,dst=af d->d<a.tmps.size):(a.put dst v).tmps.getD t undef=if dst=af t then v else a.tmps.getD t undef:=by
 cases dst with
 |none=>simp[MX]
 |some d=>
  by_cases h:d=t
  .subst h;simp[MX,hd d rfl]
  .simp[MX,h,pI h]
theorem Po {a:Act} {dst:Option Tmp} {v:Value}:(a.put dst v).tmps.size=a.tmps.size:=by cases dst<;>simp[MX]
theorem HK {a:Act} {dst:Option Tmp} {v:Value}:(a.put dst v).defers=a.defers:=by cases dst<;>rfl
theorem Y9 {P:Program} {ops:Array Oper} {l:List (Oper×AY)} {e0 e':EF} {h0 h':HF} {φ0:PM} {E:Nat->Prop} {w0:World} {a0:Act}
 (hl:l.map (·.1)=ops.toList) (hc:zB P ops l e0 h0 e' h') (ni:NIP ops l) (hfr:∀ (j:Nat) o f,l[j]? =af (o,f)->∀ n∈f.N,φ0 n=ah)
 (hsz:∀ (j:Nat) o,ops[j]? =af o->∀ d,o.dst=af d->d<a0.tmps.size) {listed:Array Bool} (hcl:EW ops listed) {i:Nat} (hi:i∈GV .any ops listed) {Q:Exit->Act->World->Prop} {K:Act->World->Prop}
 (hK:∀ a w,StP φ0 E e0 h0 w0 a0 l (λj=>(listed.setIfInBounds i ai).getD j aj) a w->K a w) {a:Act} {w:World} (hst:StP φ0 E e0 h0 w0 a0 l (λj=>listed.getD j aj) a w):
 wpOp P ops Q i K a w:=by
 obtain⟨hun,o,ho,hdeps⟩:=mem_ready.1 hi;obtain⟨hnf,hlt⟩:=sG hun;have hln:∀ (j:Nat) o',ops[j]? =af o'->∃ f,l[j]? =af (o',f):=λj o' h=>by
  have h1:(l.map (·.1))[j]? =af o':=by rw[hl];simpa using h
  rw[bc] at h1;cases hj:l[j]? with
  |none=>rw[hj] at h1;cases h1
  |some p=>rw[hj] at h1;obtain⟨a,b⟩:=p;simp at h1;subst h1;exact⟨b,rfl⟩
 have hnl:∀ (j:Nat) o' f,l[j]? =af (o',f)->ops[j]? =af o':=λj o' f h=>by
  have h1:(l.map (·.1))[j]? =af o':=by rw[bc,h];rfl
  rw[hl] at h1;simpa using h1
 obtain⟨f,hf⟩:=hln i o ho;have hord:∀ (j:Nat) oj fj,j≠i->l[j]? =af (oj,fj)->(listed.getD j aj=decide (j<i))\/
  (o.apart ops oj=ai\/oj.apart ops o=ai)/\(∀ x∈f.wr,x∉fj.rd/\x∉fj.wr)/\(∀ x∈fj.wr,x∉f.rd/\x∉f.wr):=by
  intro j oj fj hji hj;rcases bZ j i with h|h
  .rcases ni.pair j i oj fj o f h hj hf with hb|⟨h1,h2,h3⟩
   .left;rw[WG hcl ho hdeps hb];simp[h]
   .right;exact⟨.inr h1,λx I=>⟨h3 x I,λU=>(h2 x U).2 I⟩,λx I=>h2 x I⟩
  .have h:i<j:=by omega
   rcases ni.pair i j o f oj fj h hf hj with hb|⟨h1,h2,h3⟩
   .left;have:listed.getD j aj=aj:=by
     cases I:listed.getD j aj with
     |false=>rfl
     |true=>have:=hcl.bef hb I;rw[hnf] at this;cases this
    rw[this];simp;omega
   .right;exact⟨.inl h1,λx I=>h2 x I,λx I=>⟨h3 x I,λU=>(h2 x U).2 I⟩⟩
 have J:∀ j,(listed.setIfInBounds i ai).getD j aj=if j=i then ai else listed.getD j aj:=λj=>by
  by_cases h:i=j
  .subst h;simp[hlt]
  .rw[getD_set_ne aj h,aB (λe=>h e.symm)]
 have hlater:∀ (j:Nat) oj fj,i<j->l[j]? =af (oj,fj)->(listed.getD j aj=aj)\/((o.apart ops oj=ai\/oj.apart ops o=ai)/\(∀ x∈f.wr,x∉fj.rd/\x∉fj.wr)):=by
  intro j oj fj hij hj;rcases hord j oj fj (by omega) hj with h|⟨h1,h2,_⟩
  .left;rw[h];simp;omega
  .right;exact⟨h1,h2⟩
 have hdd:∀ {x y:Oper},(x.apart ops y=ai\/y.apart ops x=ai)->∀ d,x.dst=af d->y.dst≠af d:=by
  intro x y h d hd he;rcases h with h|h
  .exact (Oper.apart_spec h).2.1 d hd he
  .exact (Oper.apart_spec h).2.1 d he hd
 have hlook:∀ {x y:Oper},(x.apart ops y=ai\/y.apart ops x=ai)->∀ d,y.dst=af d->d∉x.looksAt ops:=by
  intro x y h d hd;rcases h with h|h
  .exact (Oper.apart_spec h).2.2 d hd
  .exact (Oper.apart_spec h).1 d hd
 have heL:∀ t,t∈o.looksAt ops->Kq (λj=>listed.getD j aj) 0 l e0 t=Kq (λj=>decide (j<0+i)) 0 l e0 t:=λt ht=>by
  refine DL l 0 e0 e0 rfl λj oj fj hj hd=>?_
  simp only[bN];by_cases hji:j=i
  .subst hji;rw[hnf];simp
  .rcases hord j oj fj hji hj with h|⟨h,_⟩
   .exact h
   .exact cZ ht (hlook h t hd)
 have hhL:∀ t,t∈f.rd\/t∈f.wr->BW (λj=>listed.getD j aj) 0 l h0 t=BW (λj=>decide (j<0+i)) 0 l h0 t:=λt ht=>by
  refine DK l 0 h0 h0 rfl λj oj fj hj hd=>?_
  simp only[bN];by_cases hji:j=i
  .subst hji;rw[hnf];simp
  .rcases hord j oj fj hji hj with h|⟨_,_,h⟩
   .exact h
   .rcases ht with ht|ht
    .exact cZ ht (h t hd).1
    .exact cZ ht (h t hd).2
 have hE':∀ t,Kq (λj=>(listed.setIfInBounds i ai).getD j aj) 0 l e0 t=if o.dst=af t then af f.val else Kq (λj=>listed.getD j aj) 0 l e0 t:=λt=>by
  by_cases hd:o.dst=af t
  .rw[aE hd];refine O6 l 0 i e0 o f hf hd (by simp[J]) λj o' f' hij hj M=>?_
   simp only[bN,J,aB (show ¬j=i by omega)];rcases hlater j o' f' hij hj with h|⟨h,_⟩
   .exact h
   .exact cZ M (hdd h t hd)
  .rw[aB hd];refine DL l 0 e0 e0 rfl λj oj fj hj M=>?_
   simp only[bN,J];rw[aB];intro hji;subst hji;rw[hf] at hj;cases hj;exact hd M
 have Y:BW (λj=>(listed.setIfInBounds i ai).getD j aj) 0 l h0=eO (BW (λj=>listed.getD j aj) 0 l h0) f.wr f.nw:=by
  funext t;unfold eO;by_cases hd:t∈f.wr
  .rw[aE hd];refine O5 l 0 i h0 o f hf hd (by simp[J]) λj o' f' hij hj M=>?_
   simp only[bN,J,aB (show ¬j=i by omega)];rcases hlater j o' f' hij hj with h|⟨_,h⟩
   .exact h
   .exact cZ M (h t hd).2
  .rw[aB hd];refine DK l 0 h0 h0 rfl λj oj fj hj M=>?_
   simp only[bN,J];rw[aB];intro hji;subst hji;rw[hf] at hj;cases hj;exact hd M
 obtain⟨φ,hm,hdom,hrep,henv,hdef,hsize⟩:=hst;have hfrN:∀ n∈f.N,φ n=ah:=λn hn=>by
  cases I:φ n with
  |none=>rfl
  |some k=>
   rcases hdom n k I with h|⟨j,oj,fj,hSj,hj,hnj⟩
   .rw[hfr i o f hf n hn] at h;cases h
   .have hji:j≠i:=by intro h;subst h;exact cZ hSj (by simp only[hnf];simp)
    rcases bZ j i with h|h
    .exact cZ hn (ni.names j i oj fj o f h hj hf n hnj)
    .exact cZ hnj (ni.names i j o f oj fj (by omega) hf hj n hn)
 have hdsz:∀ d,o.dst=af d->d<a.tmps.size:=λd hd=>by rw[hsize];exact hsz i o ho d hd
 have main:∀ (v:Value) (φ':PM) (w':World),iY φ φ' (BW (λj=>listed.getD j aj) 0 l h0) (eO (BW (λj=>listed.getD j aj) 0 l h0) f.wr f.nw) w w'->
  (∀ i k,φ' i=af k->φ i=af k\/i∈f.N)->qP φ' E (eO (BW (λj=>listed.getD j aj) 0 l h0) f.wr f.nw) w'->
  cL φ' (tot E φ' (eO (BW (λj=>listed.getD j aj) 0 l h0) f.wr f.nw)) w' f.val v->K (a.put o.dst v) w':=by
  intro v φ' w' m1 d1 r1 v1;refine hK _ _ ⟨φ',?_,?_,?_,?_,?_,?_⟩
  .rw[Y];exact hm.trans m1
  .intro i' k h;rcases d1 i' k h with h|h
   .rcases hdom i' k h with h|⟨j,oj,fj,hSj,hj,hnj⟩
    .exact .inl h
    .refine .inr ⟨j,oj,fj,?_,hj,hnj⟩;show (listed.setIfInBounds i ai).getD j aj=ai;rw[J j];split
     .rfl
     .exact hSj
   .exact .inr ⟨i,o,f,(J i).trans (by simp),hf,h⟩
  .rw[Y];exact r1
  .rw[Y];intro t x I;rw[hE' t] at I;rw[HJ hdsz];by_cases hd:o.dst=af t
   .rw[aE hd] at I ⊢;cases I;exact v1
   .rw[aB hd] at I ⊢;exact m1.keep (henv t x I)
  .rw[HK];exact hdef
  .rw[Po];exact hsize
 have hstep:=hc.step 0 i o f hf;have hrun:gK P o (Kq (λj=>decide (j<0+i)) 0 l e0) (BW (λj=>decide (j<0+i)) 0 l h0) f->o.wp P a w K Q:=by
  intro ht;refine OY ?_ (ht φ E (BW (λj=>listed.getD j aj) 0 l h0) w a (λt h=>hhL t (.inl h)) (λt h=>hhL t (.inr h)) ?_ hrep hfrN)
  .rintro a' w' ⟨v,φ',rfl,m1,d1,r1,v1⟩;exact main v φ' w' m1 d1 r1 v1
  .intro t ht' y hy;refine henv t y ?_;rw[heL t (kY _ (List.mem_filterMap.2 ⟨.tmp t,by simpa using ht',rfl⟩))];exact hy
 have hyield:∀ (j t:Nat) (want b:Bool),o.guard=af (j,want)->(ops[j]?).bind (·.dst)=af t->Kq (λj=>decide (j<0+i)) 0 l e0 t=af (.f (.raw (.bool b)))->iJ o (yielded ops a.tmps)=(b==want):=by
  intro j t want b hg hj he;rw[<- heL t (nk _ (by rw[hg];simp[hj]))] at he;have h1:=henv t _ he;have h2:a.tmps.getD t undef= .bool b:=by
   generalize Z:a.tmps.getD t undef=z at h1;cases h1 with
   |f h=>cases h;rfl
  have h3:a.tmps[t]? =af (.bool b):=by
   rw[gC] at h2;cases Z:a.tmps[t]? with
   |none=>rw[Z] at h2;simp[undef] at h2
   |some z=>rw[Z] at h2;simp at h2;rw[h2]
  unfold iJ yielded;rw[hg];simp[hj,h3]
 unfold wpOp;simp only[ho];cases hstep with
 |run hg ht=>
  rw[aE (by unfold iJ;rw[hg])];exact .inl (hrun ht)
 |runG j t want hg hj he ht=>
  rw[aE (by rw[hyield j t want want hg hj he];simp)];exact .inl (hrun ht)
 |skip j t want hg hj v he hv hf'=>
  have hnw:iJ o (yielded ops a.tmps)=aj:=by
   rw[<- heL t (nk _ (by rw[hg];simp[hj]))] at he;have h1:=henv t _ he;have h2:a.tmps.getD t undef=v:=by
    generalize a.tmps.getD t undef=z at h1;cases h1 with
    |f h=>cases h;rfl
   unfold iJ yielded;rw[hg];simp only[hj,aH];rw[gC] at h2;cases Z:a.tmps[t]? with
   |none=>simp
   |some z=>
    rw[Z] at h2;simp at h2;subst h2;cases z<;>simp at hv ⊢;exact hv
  rw[aB (by rw[hnw];simp)];subst hf';have hu:eO (BW (λj=>listed.getD j aj) 0 l h0) rJ.wr rJ.nw=BW (λj=>listed.getD j aj) 0 l h0:=by
   funext t;simp[eO,rJ]
  refine main undef φ w ?_ (λ_ _ h=>.inl h) ?_ ?_
  .rw[hu];exact iY.refl _ _ _
  .rw[hu];exact hrep
  .exact .f (.raw _)
theorem XE {l:List Bool}:∀ {i:Nat},l[i]? =af aj->(l.set i ai).countP id=l.countP id+1:=by
 induction l with
 |nil=>intro i h;simp at h
 |cons b l I=>
  intro i h;cases i with
  |zero=>simp at h;subst h;simp
  |succ i=>
   simp only[List.set_cons_succ,List.countP_cons];rw[I (by simpa using h)];omega
theorem OA {l:List Bool} (h:l.length<=l.countP id):∀ (j:Nat),j<l.length->l[j]? =af ai:=by
 have h1:l.countP id=l.length:=Nat.le_antisymm List.countP_le_length h;rw[List.countP_eq_length] at h1;intro j hj;rw[aA hj];simpa using h1 _ (uH hj)
theorem UW {ops:Array Oper} {l:List (Oper×AY)} (J:NIP ops l) {listed:Array Bool} (hs:listed.size=ops.size) (hr:GV .any ops listed=[]):
 ∀ (n j:Nat),j<n->j<ops.size->listed.getD j aj=ai:=by
 intro n;induction n with
 |zero=>intro j h;omega
 |succ n M=>
  intro j hj hjs;cases I:listed.getD j aj with
  |true=>rfl
  |false=>
   exfalso;have hmem:j∈GV .any ops listed:=by
    refine mem_ready.2 ⟨?_,ops[j],ig hjs,λe he hb=>?_⟩
    .have:j<listed.size:=by omega
     simp[this] at I ⊢;exact I
    .have h1:=J.edge j _ (ig hjs) e he hb;exact M e.on (by omega) (by omega)
   rw[hr] at hmem;cases hmem
theorem MJ {P:Program} {ops:Array Oper} {l:List (Oper×AY)} {e0 e':EF} {h0 h':HF} {φ0:PM} {E:Nat->Prop} {w0:World} {a0:Act}
 (hl:l.map (·.1)=ops.toList) (hc:zB P ops l e0 h0 e' h') (J:NIP ops l) (hfr:∀ (j:Nat) o f,l[j]? =af (o,f)->∀ n∈f.N,φ0 n=ah)
 (hsz:∀ (j:Nat) o,ops[j]? =af o->∀ d,o.dst=af d->d<a0.tmps.size) {Q:Exit->Act->World->Prop}
 (U:∀ a w,StP φ0 E e0 h0 w0 a0 l (λ_=>ai) a w->Q .normal a w):
 ∀ (fuel:Nat) (listed:Array Bool) (a:Act) (w:World),listed.size=ops.size->EW ops listed->ops.size<=fuel+listed.toList.countP id->
  StP φ0 E e0 h0 w0 a0 l (λj=>listed.getD j aj) a w->wpAny P .any ops Q fuel listed a w:=by
 have hlen:l.length=ops.size:=by have:=gG al hl;simpa using this
 have fin:∀ (listed:Array Bool) (a:Act) (w:World),(∀ j,j<ops.size->listed.getD j aj=ai)->StP φ0 E e0 h0 w0 a0 l (λj=>listed.getD j aj) a w->Q .normal a w:=by
  intro listed a w hall hst;refine U a w ?_;have h1:=hc.final 0 (λj=>listed.getD j aj) (λj hj=>by simp only[bN];exact hall j (by omega));have h2:=hc.final 0 (λ_=>ai) (λ_ _=>rfl);unfold StP at hst ⊢;rw[h1.1,h1.2] at hst;rw[h2.1,h2.2];obtain⟨φ,m,d,r⟩:=hst;refine ⟨φ,m,λi k h=>?_,r⟩;rcases d i k h with h|⟨j,o,f,_,hj,hn⟩
  .exact .inl h
  .exact .inr ⟨j,o,f,rfl,hj,hn⟩
 intro fuel;induction fuel with
 |zero=>
  intro listed a w hs hcl hcnt hst;have hall:∀ j,j<ops.size->listed.getD j aj=ai:=λj hj=>by
   have:=OA (l:=listed.toList) (by simp only[iu];omega) j (by simp only[iu];omega);rw[cH] at this;rw[gC,this];rfl
  refine ⟨?_,fin listed a w hall hst⟩;cases hr:GV .any ops listed with
  |nil=>rfl
  |cons i r=>
   have hi:i∈GV .any ops listed:=by rw[hr];simp
   obtain⟨hun,o,I,_⟩:=mem_ready.1 hi;have hnf:=(sG hun).1;rw[hall i (cC.1 I).1] at hnf;cases hnf
 |succ fuel M=>
  intro listed a w hs hcl hcnt hst;refine ⟨λhr=>fin listed a w (λj hj=>UW J hs hr (j+1) j (by omega) hj) hst,λi hi=>?_⟩;obtain⟨hun,o,I,hdeps⟩:=mem_ready.1 hi;obtain⟨hnf,hlt⟩:=sG hun;refine Y9 hl hc J hfr hsz hcl hi (λa' w' h=>M _ a' w' ?_ ?_ ?_ h) hst
  .simpa using hs
  .intro j oj hoj hj e he hb;by_cases hji:i=j
   .subst hji;rw[I] at hoj;cases hoj;exact getD_set_true (hdeps e he hb)
   .rw[getD_set_ne aj hji] at hj;exact getD_set_true (hcl j oj hoj hj e he hb)
  .have h1:listed.toList[i]? =af aj:=by
    rw[cH,ig hlt];simp[hlt] at hnf;rw[hnf]
   rw[Array.toList_setIfInBounds,XE h1];omega
def amc (φ0:PM) (E:Nat->Prop) (e':EF) (h0 h':HF) (N:List Nat) (w0:World) (a0:Act) (a:Act) (w:World):Prop:=
 ∃ φ,iY φ0 φ h0 h' w0 w/\(∀ i k,φ i=af k->φ0 i=af k\/i∈N)/\qP φ E h' w/\MP φ (tot E φ h') w e' a/\a.defers=a0.defers/\a.tmps.size=a0.tmps.size
theorem iY.drew {φ:PM} {h:HF} (w:World):iY φ φ h h w {w with drawn:=w.drawn+1}:=
 ⟨λ_ _ h=>h,⟨rfl,rfl,rfl,bT _,λ_ _ _=>rfl,λ_ _=>rfl⟩,λ_ _ h=>h⟩
theorem qP.moved {φ:PM} {E:Nat->Prop} {h:HF} {w w':World} (r:qP φ E h w) (m:iY φ φ h h w w') (hk:∀ k,own φ h k->w'.heap[k]? =w.heap[k]?):qP φ E h w':=
 ⟨r.inj,λi b hb=>by
   obtain⟨k,h1,h2,o,J,I⟩:=r.at_ i b hb;exact⟨k,h1,h2,o,by rw[hk k ⟨i,b,hb,h1⟩];exact J,I.mono λ_ _ h=>m.keep h⟩,λk hk=>dy (r.el k hk) m.ext.size,
   λg cells hg=>m.keepF (r.gl g cells hg)⟩
theorem Pm {P:Program} {ops:Array Oper} {l:List (Oper×AY)} {e0 e':EF} {h0 h':HF} {φ0:PM} {E:Nat->Prop} {w0:World} {a0:Act} {id:Nat} {draw:Bool}
 (hm:P.follows .mixedOrders=ai) (hl:l.map (·.1)=ops.toList) (hc:zB P ops l e0 h0 e' h') (I:NIP ops l) (hfr:∀ n∈l.flatMap (λp=>p.2.N),φ0 n=ah)
 (hsz:∀ (j:Nat) o,ops[j]? =af o->∀ d,o.dst=af d->d<a0.tmps.size) (hrep:qP φ0 E h0 w0) (henv:MP φ0 (tot E φ0 h0) w0 e0 a0) {Q:Exit->Act->World->Prop}
 (Y:∀ a w,amc φ0 E e' h0 h' (l.flatMap (λp=>p.2.N)) w0 a0 a w->Q .normal a w):(Code.region id ops draw).wp P Q a0 w0:=by
 have hfr':∀ (j:Nat) o f,l[j]? =af (o,f)->∀ n∈f.N,φ0 n=ah:=λj o f hj n hn=>hfr n (uF.2 ⟨(o,f),ba hj,hn⟩)
 have fin:∀ a w,StP φ0 E e0 h0 w0 a0 l (λ_=>ai) a w->Q .normal a w:=by
  rintro a w ⟨φ,m,d,r,en,Z,sz⟩;have h2:=hc.final 0 (λ_=>ai) (λ_ _=>rfl);rw[h2.2] at m r en;rw[h2.1] at en;refine Y a w ⟨φ,m,λi k h=>?_,r,en,Z,sz⟩;rcases d i k h with h|⟨j,o,f,_,hj,hn⟩
  .exact .inl h
  .exact .inr (uF.2 ⟨(o,f),ba hj,hn⟩)
 have st0:∀ (w:World),iY φ0 φ0 h0 h0 w0 w->qP φ0 E h0 w->StP φ0 E e0 h0 w0 a0 l (λj=>(oh ops.size aj).getD j aj) a0 w:=by
  intro w m r;have e1:(λj=>(oh ops.size aj).getD j aj)=λ_=>aj:=by
   funext j;rw[gC,Array.getElem?_replicate];split<;>rfl
  rw[e1];have e2:Kq (λ_=>aj) 0 l e0=e0:=by funext t;rw[B8];intros;rfl
  have e3:BW (λ_=>aj) 0 l h0=h0:=by funext t;rw[B7];intros;rfl
  refine ⟨φ0,by rw[e3];exact m,λ_ _ h=>.inl h,by rw[e3];exact r,?_,rfl,rfl⟩;rw[e2,e3];exact λt x U=>m.keep (henv t x U)
 have cl0:EW ops (oh ops.size aj):=by
  intro j o ho hj;rw[gC,Array.getElem?_replicate] at hj;split at hj<;>simp at hj
 cases draw with
 |true=>
  refine wp_region_any hm ?_;exact MJ hl hc I hfr' hsz fin ops.size _ a0 _ (by simp) cl0 (by omega) (st0 _ (iY.drew w0) (hrep.moved (iY.drew w0) λ_ _=>rfl))
 |false=>
  have hany:=MJ (E:=E) (w0:=w0) hl hc I hfr' hsz fin ops.size _ a0 w0 (by simp) cl0 (by omega) (st0 _ (iY.refl _ _ _) hrep);refine wp_region ?_;have key:∀ (m k:Nat) (listed:Array Bool) (a:Act) (w:World),k+m=ops.size->listed.size=ops.size->(∀ j,j<k->listed.getD j aj=ai)->(∀ j,k<=j->j<ops.size->listed.getD j ai=aj)->
   wpAny P .any ops Q m listed a w->wpOps P ops Q (List.range' k m) a w:=by
   intro m;induction m with
   |zero=>intro k listed a w hk hs h1 h2 h;simpa[wpOps] using h.2
   |succ m M=>
    intro k listed a w hk hs h1 h2 h;rw[List.range'_succ,wpOps_cons];have hkr:k∈GV .any ops listed:=by
     refine mem_ready.2 ⟨h2 k (bT _) (by omega),ops[k]'(by omega),ig (by omega),λe he hb=>?_⟩;exact h1 _ (I.edge k _ (ig (by omega)) e he hb)
    refine wpOp_mono (λa' w' h'=>M (k+1) (listed.setIfInBounds k ai) a' w' (by omega) (by simpa using hs) ?_ ?_ h') (h.2 k hkr)
    .intro j hj;by_cases hjk:k=j
     .subst hjk;simp[show k<listed.size by omega]
     .rw[getD_set_ne aj hjk];exact h1 j (by omega)
    .intro j hj J;rw[getD_set_ne ai (by omega)];exact h2 j (by omega) J
  have:=key ops.size 0 (oh ops.size aj) a0 w0 (by omega) (by simp) (by intro j hj;omega) (by
   intro j _ hj;rw[gC,Array.getElem?_replicate,aE hj];rfl) hany
  rwa [List.range_eq_range']
inductive PT (α:Type) where
 |leaf
 |node (v:Option α) (l r:PT α)
namespace PT
variable {α:Type}
def get:PT α->Nat->Option α
 |leaf,_=>ah
 |node v l r,n=>match n with
  |0=>v
  |m+1=>if aC (m%2) 0 then get l (m/2) else get r (m/2)
def M8:Nat->PT α->Nat->Option α->PT α
 |0,t,_,_=>t
 |k+1,t,n,x=>match t with
  |leaf=>(match n with
   |0=>node x leaf leaf
   |m+1=>if aC (m%2) 0 then node ah (M8 k leaf (m/2) x) leaf else node ah leaf (M8 k leaf (m/2) x))
  |node v l r=>(match n with
   |0=>node x l r
   |m+1=>if aC (m%2) 0 then node v (M8 k l (m/2) x) r else node v l (M8 k r (m/2) x))
def set (t:PT α) (n:Nat) (x:Option α):PT α:=M8 (n+1) t n x
theorem yM:∀ (k:Nat) (t:PT α) (n:Nat) (x:Option α),n<k->∀ i,(M8 k t n x).get i=if i=n then x else t.get i
 |0,_,_,_,h,_=>cZ h (wL _)
 |k+1,t,n,x,h,i=>by
  cases n with
  |zero=>
   cases t<;>cases i<;>simp[M8,get]
  |succ m=>
   have hm:m/2<k:=by have:=Nat.div_le_self m 2;omega
   cases t with
   |leaf=>
    simp only[M8];cases hb:aC (m%2) 0 with
    |true=>
     have J:m%2=0:=aw hb;simp only[bD];cases i with
     |zero=>simp[get]
     |succ j=>
      simp only[get];cases hj:aC (j%2) 0 with
      |true=>
       have I:j%2=0:=aw hj;simp only[bD];rw[yM k _ _ _ hm];by_cases he:j/2=m/2
       .rw[aE he,aE (by omega)]
       .rw[aB he,aB (by omega)];rfl
      |false=>
       have I:¬j%2=0:=ia hj;simp only[cw,dY];rw[aB (by omega)]
    |false=>
     have J:¬m%2=0:=ia hb;simp only[cw,dY];cases i with
     |zero=>simp[get]
     |succ j=>
      simp only[get];cases hj:aC (j%2) 0 with
      |true=>
       have I:j%2=0:=aw hj;simp only[bD];rw[aB (by omega)]
      |false=>
       have I:¬j%2=0:=ia hj;simp only[cw,dY];rw[yM k _ _ _ hm];by_cases he:j/2=m/2
       .rw[aE he,aE (by omega)]
       .rw[aB he,aB (by omega)];rfl
   |node v l r=>
    simp only[M8];cases hb:aC (m%2) 0 with
    |true=>
     have J:m%2=0:=aw hb;simp only[bD];cases i with
     |zero=>simp[get]
     |succ j=>
      simp only[get];cases hj:aC (j%2) 0 with
      |true=>
       have I:j%2=0:=aw hj;simp only[bD];rw[yM k _ _ _ hm];by_cases he:j/2=m/2
       .rw[aE he,aE (by omega)]
       .rw[aB he,aB (by omega)]
      |false=>
       have I:¬j%2=0:=ia hj;simp only[cw,dY];rw[aB (by omega)]
    |false=>
     have J:¬m%2=0:=ia hb;simp only[cw,dY];cases i with
     |zero=>simp[get]
     |succ j=>
      simp only[get];cases hj:aC (j%2) 0 with
      |true=>
       have I:j%2=0:=aw hj;simp only[bD];rw[aB (by omega)]
      |false=>
       have I:¬j%2=0:=ia hj;simp only[cw,dY];rw[yM k _ _ _ hm];by_cases he:j/2=m/2
       .rw[aE he,aE (by omega)]
       .rw[aB he,aB (by omega)]
theorem get_set (t:PT α) (n:Nat) (x:Option α) (i:Nat):(t.set n x).get i=if i=n then x else t.get i:=yM (n+1) t n x (by omega) i
def mask {β:Type}:PT α->PT β->PT α
 |leaf,_=>leaf
 |node _ _ _,leaf=>leaf
 |node v l r,node u J I=>node (match u with|some _=>v|none=>ah) (mask l J) (mask r I)
def mk:Option α->PT α->PT α->PT α
 |none,leaf,leaf=>leaf
 |v,l,r=>node v l r
def only (m:Nat):Nat->Nat->PT α->PT α
 |_,_,leaf=>leaf
 |a,b,node v l r=>mk (if aM m b then v else ah) (only m (2*a) (a+b) l) (only m (2*a) (2*a+b) r)
def exc (m:Nat):Nat->Nat->PT α->PT α
 |_,_,leaf=>leaf
 |a,b,node v l r=>mk (if aM m b then ah else v) (exc m (2*a) (a+b) l) (exc m (2*a) (2*a+b) r)
def merge (m:Nat):Nat->Nat->PT α->PT α->PT α
 |a,b,leaf,t=>only m a b t
 |a,b,node v l r,leaf=>exc m a b (node v l r)
 |a,b,node v l r,node I M J=>mk (if aM m b then I else v) (merge m (2*a) (a+b) l M) (merge m (2*a) (2*a+b) r J)
def all (p:Nat->α->Bool):Nat->Nat->PT α->Bool
 |_,_,leaf=>ai
 |a,b,node v l r=>(match v with|some x=>p b x|none=>ai)&&all p (2*a) (a+b) l&&all p (2*a) (2*a+b) r
theorem get_all (p:Nat->α->Bool):∀ (t:PT α) (a b i:Nat) (x:α),all p a b t=ai->t.get i=af x->p (a*i+b) x=ai
 |leaf,_,_,_,_,_,h=>by simp[get] at h
 |node v l r,a,b,0,x,h,I=>by
  simp only[get] at I;subst I;simp only[all,av] at h;rw[Nat.mul_zero,bN];exact h.1.1
 |node v l r,a,b,j+1,x,h,I=>by
  simp only[all,av] at h;simp only[get] at I;cases hj:aC (j%2) 0 with
  |true=>
   have J:j%2=0:=aw hj;simp only[hj,bD] at I;have key:=get_all p l _ _ _ x h.1.2 I;have:2*a*(j/2)+(a+b)=a*(j+1)+b:=by
    have e:j=2*(j/2):=by omega
    calc 2*a*(j/2)+(a+b)=a*(2*(j/2))+a+b:=by rw[GZ 2 a,Nat.mul_assoc];omega
     _=a*(j+1)+b:=by rw[<- e,Nat.mul_add];omega
   rw[this] at key;exact key
  |false=>
   have J:¬j%2=0:=ia hj;simp only[hj,cw,dY] at I;have key:=get_all p r _ _ _ x h.2 I;have:2*a*(j/2)+(2*a+b)=a*(j+1)+b:=by
    have e:j=2*(j/2)+1:=by omega
    have h2:a*(j+1)=a*(2*(j/2))+2*a:=by
     calc a*(j+1)=a*(2*(j/2)+2):=by rw[show j+1=2*(j/2)+2 from by omega]
      _=a*(2*(j/2))+2*a:=by rw[Nat.mul_add];omega
    have M:2*a*(j/2)=a*(2*(j/2)):=by rw[GZ 2 a,Nat.mul_assoc]
    omega
   rw[this] at key;exact key
def dom:Nat->Nat->PT α->Nat->Nat
 |_,_,leaf,acc=>acc
 |a,b,node v l r,acc=>dom (2*a) (a+b) l (dom (2*a) (2*a+b) r (match v with|some _=>acc|||(1<<<b)|none=>acc))
def emp:PT α:=leaf
end PT
abbrev zA:=PT AV
abbrev nP:=PT wK
abbrev NW:=List (Nat×wK)
def zA.put (e:zA):Option Nat->AV->zA
 |none,_=>e
 |some d,x=>e.set d (af x)
def jb:NW->HF
 |[],_=>ah
 |(s,x)::r,t=>if aC s t then af x else jb r t
theorem Y1 (e:zA) (d:Option Nat) (x:AV):Cg e.get d x=(e.put d x).get:=by
 funext t;cases d with
 |none=>simp[Cg,zA.put]
 |some d=>
  simp only[Cg,zA.put,PT.get_set,ak];by_cases h:d=t
  .simp[h]
  .rw[aB h,aB (λe=>h e.symm)]
def Hk (acc:List Nat) (s:Nat) (e:Edge):Nat:=if zC .any e then (s|||2^e.on)|||acc.getD e.on 0 else s
def JV:List Oper->List Nat->List Nat
 |[],acc=>acc
 |o::r,acc=>JV r (acc++[o.after.toList.foldl (Hk acc) 0])
theorem JW {ops:Array Oper} {o:Oper} {k:Nat} {acc:List Nat} (J:ops[k]? =af o) (M:∀ (j:Nat) B,acc[j]? =af B->∀ i,B.testBit i=ai->Bef ops j i):
 ∀ (es:List Edge) (s:Nat),(∀ e∈es,e∈o.after)->(∀ i,s.testBit i=ai->Bef ops k i)->∀ i,(es.foldl (Hk acc) s).testBit i=ai->Bef ops k i
 |[],s,_,hs,i,hi=>hs i hi
 |e::r,s,he,hs,i,hi=>by
  refine JW J M r (Hk acc s e) (λe' h'=>he e' (cM _ h')) (λi hi=>?_) i hi;unfold Hk at hi;split at hi
  .rename_i hb;rw[bu,bu,iS,iS] at hi;rcases hi with (hi|hi)|hi
   .exact hs i hi
   .rw[Nat.testBit_two_pow] at hi;have:e.on=i:=by simpa using hi
    subst this;exact .one J (he e (dz ..)) hb
   .refine .more J (he e (dz ..)) hb ?_;rw[ay] at hi;cases I:acc[e.on]? with
    |none=>rw[I] at hi;simp at hi
    |some C=>rw[I] at hi;exact M _ C I i hi
  .exact hs i hi
theorem MI {ops:Array Oper}:∀ (rest:List Oper) (acc:List Nat),(∀ (j:Nat),∀ o,rest[j]? =af o->ops[acc.length+j]? =af o)->
 (∀ (j:Nat) B,acc[j]? =af B->∀ i,B.testBit i=ai->Bef ops j i)->∀ (j:Nat) B,(JV rest acc)[j]? =af B->∀ i,B.testBit i=ai->Bef ops j i
 |[],acc,_,I=>I
 |o::r,acc,J,I=>by
  refine MI r _ (λj o' hj=>?_) ?_
  .rw[bt,eD,show acc.length+1+j=acc.length+(j+1) from by omega];exact J (j+1) o' (by simpa using hj)
  .intro j B hj i hi;rcases bZ j acc.length with h|h
   .rw[bO h] at hj;exact I j B hj i hi
   .rw[b7 h] at hj;have M:j-acc.length=0:=by
     rcases Km (j-acc.length) with h0|h0
     .exact h0
     .rw[bQ (by simp;omega)] at hj;cases hj
    have hjl:j=acc.length:=by omega
    subst hjl;simp at hj;subst hj;have hoo:ops[acc.length]? =af o:=by simpa using J 0 o rfl
    rw[<- Array.foldl_toList] at hi;exact JW hoo I _ 0 (λe he=>by simpa using he) (λi hi=>by simp at hi) i hi
inductive X9 where
 |mv (x:Operand)
 |pick (c a b:Operand)
 |alloc (ty:TypeId) (z:List Value)
 |box (ty:TypeId) (x:Operand)
 |build (z:List Value) (parts:List (Nat×Nat×Operand))
 |bsl (ty:TypeId) (sz len:Nat) (z:List Value) (parts:List (Nat×Nat×Operand))
 |load (sz:Nat) (ag:Bool) (x:Operand)
 |store (sz:Nat) (x v:Operand)
 |nilc (x:Operand)
 |bin (op:BinOp) (x y:Operand)
 |eqs (neg:Bool) (ds:List TypeDesc) (x y:Operand)
 |isnil (neg:Bool) (x:Operand)
 |eqb (neg:Bool) (x y:Operand)
 |not (x:Operand)
 |conv (k:IntKind) (x:Operand)
 |mksl (ty:TypeId) (sz bytes:Nat) (z:List Value) (l c:Operand)
 |slc (sz:Nat) (x:Operand) (lo hi mx:Option Operand)
 |fad (off:Nat) (x:Operand)
 |fld (off sz:Nat) (ag:Bool) (x:Operand)
 |iad (sz:Nat) (x i:Operand)
 |iada (n sz:Nat) (x i:Operand)
 |idx (n sz:Nat) (ag:Bool) (x i:Operand)
 |ext (x:Operand) (i:Nat)
 |len (x:Operand)
 |lens (x:Operand)
 |lenm (x:Operand)
 |max (x y:Operand)
 |min (x y:Operand)
 |sidx (x i:Operand)
 |app (ty:TypeId) (sz bytes:Nat) (s x:Operand)
 |copy (sz:Nat) (d x:Operand)
 |clr (sz:Nat) (z:List Value) (x:Operand)
 |mkf (f:FuncId) (caps:List Operand)
 |mkm
 |lku (str ok:Bool) (z:Value) (x k:Operand)
 |mup (str:Bool) (x k v:Operand)
 |rng (x:Operand)
 |nxt (x:Operand)
 |bad
inductive SI where
 |op (s:X9)
 |call (f:FuncId) (args:List Operand)
 |callv (x:Operand) (args:List Operand)
def WS (t:Nat):List Nat->Bool
 |[]=>aj
 |x::r=>aC x t||WS t r
def JQ:List Value->Bool
 |[]=>ai
 |v::r=>v.oneCell'&&JQ r
def ED:Value->AV
 |.agg vs=>if JQ vs.toList then .agg (vs.toList.map λv=>.f (.raw v)) else .f (.raw (.agg vs))
 |v=>.f (.raw v)
def my (e:zA):Operand->Option AV
 |.tmp t=>e.get t
 |.const v=>af (ED v)
 |.func g=>af (.clo g [])
 |.global g=>match G g with|some cells=>af (.f (.ptr cells 0))|none=>ah
def V0 (e:zA):List Operand->Option (List AV)
 |[]=>af []
 |x::xs=>match my e x with|some y=>(match V0 e xs with|some I=>af (y::I)|none=>ah)|none=>ah
structure BR where
 val:AV
 rd:List Nat
 wr:List Nat
 nw:NW
 N:List Nat
def BR.eff (r:BR):AY:=⟨r.val,r.rd,r.wr,jb r.nw,r.N⟩
def rv (x:AV):Option BR:=af ⟨x,[],[],[],[]⟩
def raw (v:Value):AV:=.f (.raw v)
def pkV (ok:Bool) (v:AV) (b:Bool):AV:=match ok with|true=>.tup [v,raw (.bool b)]|false=>v
def xx:List AV->Option (List FV)
 |[]=>af []
 |.f x::r=>match xx r with|some l=>af (x::l)|none=>ah
 |_::_=>ah
def ph (l:List AV):BC:=match xx l with|some fs=>.fz fs|none=>.mx l
def L3 (l:List AV):AV:=match xx l with|some fs=>.f (.agg fs)|none=>.agg l
def splice {α:Type} (l:List α) (off:Nat) (vs:List α):List α:=l.take off++vs++l.drop (off+vs.length)
def BC.toMx:BC->List AV
 |.fz l=>l.map .f
 |.mx l=>l
 |_=>[]
def gD:List AV->Bool
 |[]=>ai
 |x::r=>x.isCell&&gD r
def BC.put (c:BC) (off:Nat) (vs:List AV):Option BC:=
 if c.isCells&&eC (off+vs.length) c.len&&gD vs then
  match c,xx vs with
  |.fz l,af I=>af (.fz (splice l off I))
  |c,_=>af (.mx (splice c.toMx off vs))
 else ah
def BC.sub? (c:BC) (off sz:Nat):Bool->Option AV
 |false=>match sz with|1=>c.get off|_=>ah
 |true=>match c with
  |.fz l=>if eC (off+sz) l.length then af (.f (.agg ((l.drop off).take sz))) else ah
  |.mx l=>if eC (off+sz) l.length then af (.agg ((l.drop off).take sz)) else ah
  |_=>ah
def AV.cs:AV->List AV
 |.agg l=>l
 |.f (.agg l)=>l.map .f
 |x=>[x]
def Dt (h:nP) (sz:Nat) (ag:Bool):AV->Option BR
 |.ptr id off=>match h.get id with
  |some b=>(match b.c.sub? off sz ag with|some v=>af ⟨v,[id],[],[],[]⟩|none=>ah)
  |none=>ah
 |.f (.ptr cells off)=>(match (BC.fz cells).sub? off sz ag with|some v=>rv v|none=>ah)
 |_=>ah
def JX (h:nP) (sz:Nat) (v:AV):AV->Option BR
 |.ptr id off=>match h.get id with
  |some b=>if v.cs.length==sz then (match b.c.put off v.cs with|some c=>af ⟨raw undef,[id],[id],[(id,⟨b.ty,c⟩)],[]⟩|none=>ah) else ah
  |none=>ah
 |_=>ah
def yR (cells:List AV) (e:zA):List (Nat×Nat×Operand)->Option (List AV)
 |[]=>af cells
 |(off,sz,x)::r=>match my e x with
  |some v=>if v.cs.length==sz&&eC (off+sz) cells.length&&gD v.cs then yR (splice cells off v.cs) e r else ah
  |none=>ah
def c5 (a b:Int):Bool:=decide (a<=b)
def fO (a b:Int):Bool:=decide (a<b)
def LL (k:IntKind) (n:Int):Int:=
 match k with
 |.i64=>if c5 (-9223372036854775808) n&&c5 n 9223372036854775807 then n else oL .i64 n
 |.u8=>if c5 0 n&&c5 n 255 then n else oL .u8 n
 |k=>oL k n
def nok:Int->Bool
 |.ofNat k=>aC k k
 |.negSucc k=>aC k k
theorem ajq (n:Int):nok n=ai:=by cases n<;>exact rG _
def bm (k:IntKind) (n:Int):Int:=bif nok n then LL k n else 0
theorem G0 (k:IntKind) (n:Int):bm k n=LL k n:=by unfold bm;rw[ajq];rfl
def rT (a b:ByteArray):Bool:=a.data.toList==b.data.toList
def uz (op:BinOp):Value->Value->Option Value
 |.int k a,.int k' b=>if k==k' then
   match op with
   |.add=>af (.int k (bm k (a+b)))
   |.sub=>af (.int k (bm k (a-b)))
   |.mul=>af (.int k (bm k (a*b)))
   |.rem=>if b==0 then ah else af (.int k (a.tmod b))
   |.quo=>if b==0 then ah else af (.int k (bm k (a.tdiv b)))
   |.eql=>af (.bool (a==b))
   |.neq=>af (.bool (a !=b))
   |.lss=>af (.bool (fO a b))
   |.leq=>af (.bool (c5 a b))
   |.gtr=>af (.bool (fO b a))
   |.geq=>af (.bool (c5 b a))
   |_=>ah
  else ah
 |.string a,.string b=>match op with
   |.eql=>af (.bool (rT a b))
   |.neq=>af (.bool !(rT a b))
   |_=>ah
 |_,_=>ah
def xm:TypeDesc->FV->FV->Option Bool
 |.int _,.raw (.int k a),.raw (.int k' b)=>if k==k' then af (a==b) else ah
 |.bool,.raw (.bool a),.raw (.bool b)=>af (a==b)
 |.string,.raw (.string a),.raw (.string b)=>af (rT a b)
 |_,_,_=>ah
def oU:List TypeDesc->List FV->List FV->Option Bool
 |[],[],[]=>af ai
 |d::ds,x::xs,y::I=>match xm d x y with
  |some ai=>oU ds xs I
  |some aj=>af aj
  |none=>ah
 |_,_,_=>ah
def AV.row? (h:nP) (sz:Nat):AV->Option (List AV×Nat×List Nat)
 |.f (.sl cells n)=>if eC (n*sz) cells.length then af ((cells.take (n*sz)).map .f,n,[]) else ah
 |.f (.raw (.slice ah 0 0))=>af ([],0,[])
 |.emp=>af ([],0,[])
 |.row id sz' n=>if sz'==sz then (match h.get id with|some b=>if b.c.isCells&&eC (n*sz) b.c.len then af (b.c.toMx.take (n*sz),n,[id]) else ah|none=>ah) else ah
 |.sl id off n=>match h.get id with|some b=>if b.c.isCells&&eC (off+n*sz) b.c.len then af ((b.c.toMx.drop off).take (n*sz),n,[id]) else ah|none=>ah
 |_=>ah
def AV.slen:AV->Option Nat
 |.f (.sl _ n)=>af n
 |.f (.raw (.slice _ n _))=>af n
 |.emp=>af 0
 |.row _ _ n=>af n
 |.sl _ _ n=>af n
 |_=>ah
def bd (n bytes:Nat):Bool:=eC n 1099511627776&&eC (n*bytes) 1099511627776
def repl (z:List Value):Nat->List FV
 |0=>[]
 |n+1=>z.map .raw++repl z n
def zO:Value->Bool
 |.slice ah 0 0=>ai
 |_=>aj
def If:AV->Bool
 |.emp=>ai
 |.f (.raw v)=>zO v
 |_=>aj
def s5 (k:Value):List (Value×AV)->Option (Option AV)
 |[]=>af ah
 |(k',v)::r=>match uz .eql k k' with
  |some (.bool ai)=>af (af v)
  |some (.bool aj)=>s5 k r
  |_=>ah
def yC (k:Value) (v:AV):List (Value×AV)->Option (List (Value×AV))
 |[]=>af [(k,v)]
 |(k',I)::r=>match uz .eql k k' with
  |some (.bool ai)=>af ((k,v)::r)
  |some (.bool aj)=>(match yC k v r with|some J=>af ((k',I)::J)|none=>ah)
  |_=>ah
def yE:Bool->Value->Bool
 |false,.int _ _=>ai
 |true,.string _=>ai
 |_,_=>aj
def eL (s:X9) (e:zA) (h:nP) (nx:Nat):Option BR:=
 match s with
 |.mv x=>match my e x with|some v=>rv v|none=>ah
 |.pick c a b=>match my e c with
  |some (.f (.raw (.bool t)))=>(match my e (if t then a else b) with|some v=>rv v|none=>ah)
  |_=>ah
 |.alloc ty z=>af ⟨.ptr nx 0,[],[nx],[(nx,⟨ty,.fz (z.map .raw)⟩)],[nx]⟩
 |.box ty x=>match my e x with
  |some v=>if gD v.cs then af ⟨.ptr nx 0,[],[nx],[(nx,⟨ty,ph v.cs⟩)],[nx]⟩ else ah
  |none=>ah
 |.build z parts=>match yR (z.map raw) e parts with|some cs=>rv (L3 cs)|none=>ah
 |.bsl ty sz len z parts=>match yR ((repl z len).map .f) e parts with
  |some cs=>af ⟨if len=0 then .emp else .row nx sz len,[],[nx],[(nx,⟨ty,ph cs⟩)],[nx]⟩
  |none=>ah
 |.load sz ag x=>match my e x with|some p=>Dt h sz ag p|none=>ah
 |.store sz x v=>match my e x,my e v with|some p,af y=>JX h sz y p|_,_=>ah
 |.nilc x=>match my e x with
  |some (.ptr id off)=>rv (.ptr id off)
  |some (.f (.ptr cells off))=>rv (.f (.ptr cells off))
  |some (.clo g cap)=>rv (.clo g cap)
  |_=>ah
 |.bin op x y=>match my e x,my e y with
  |some (.f (.raw u)),af (.f (.raw v))=>(match uz op u v with|some r=>rv (raw r)|none=>ah)
  |_,_=>ah
 |.eqs neg ds x y=>match my e x,my e y with
  |some (.f (.agg a)),af (.f (.agg b))=>(match oU ds a b with|some r=>rv (raw (.bool (r !=neg)))|none=>ah)
  |_,_=>ah
 |.eqb neg x y=>match my e x,my e y with
  |some (.f (.raw (.bool a))),af (.f (.raw (.bool b)))=>rv (raw (.bool ((a==b) !=neg)))
  |_,_=>ah
 |.isnil neg x=>match my e x with
  |some (.row _ _ _)=>rv (raw (.bool neg))
  |some (.sl _ _ _)=>rv (raw (.bool neg))
  |some (.f (.sl _ (_+1)))=>rv (raw (.bool neg))
  |some (.f (.sl _ 0))=>rv .anyb
  |some .emp=>rv .anyb
  |some (.f (.raw v))=>if zO v then rv (raw (.bool !neg)) else ah
  |_=>ah
 |.not x=>match my e x with|some (.f (.raw (.bool b)))=>rv (raw (.bool !b))|_=>ah
 |.conv k x=>match my e x with|some (.f (.raw (.int _ n)))=>rv (raw (.int k (bm k n)))|_=>ah
 |.mksl ty sz bytes z l c=>match my e l,my e c with
  |some (.f (.raw (.int _ a))),af (.f (.raw (.int _ b)))=>
   if c5 0 a&&c5 a b&&bd b.toNat bytes then af ⟨.row nx sz a.toNat,[],[nx],[(nx,⟨ty,.fz (repl z a.toNat)⟩)],[nx]⟩ else ah
  |_,_=>ah
 |.slc sz x lo hi mx=>match my e x with
  |some v=>match lo,hi,mx with
   |none,af (.const (.int _ 0)),af (.const (.int _ 0))=>if v.slen.isSome then rv .emp else ah
   |none,af b,ah=>match v,my e b with
    |.row id sz' n,af (.f (.raw (.int _ j)))=>if sz'==sz&&c5 0 j&&c5 j n then (match h.get id with
     |some blk=>if blk.c.isCells&&eC (n*sz) blk.c.len then af ⟨.row nx sz j.toNat,[id],[nx,id],[(nx,⟨blk.ty,ph (blk.c.toMx.take (j.toNat*sz))⟩)],[nx]⟩ else ah
     |none=>ah) else ah
    |.f (.sl cells n),af (.f (.raw (.int _ j)))=>if c5 0 j&&c5 j n&&eC (n*sz) cells.length then rv (.f (.sl (cells.take (j.toNat*sz)) j.toNat)) else ah
    |_,_=>ah
   |some b,ah,ah=>match v,my e b with
    |.row id sz' n,af (.f (.raw (.int _ j)))=>if sz'==sz&&c5 0 j&&fO j n then rv (.sl id (j.toNat*sz) (n-j.toNat)) else ah
    |.f (.sl cells n),af (.f (.raw (.int _ j)))=>if c5 0 j&&c5 j n&&eC (n*sz) cells.length then rv (.f (.sl ((cells.drop (j.toNat*sz)).take ((n-j.toNat)*sz)) (n-j.toNat))) else ah
    |_,_=>ah
   |_,_,_=>ah
  |none=>ah
 |.fad off x=>match my e x with
  |some (.ptr id o)=>rv (.ptr id (o+off))
  |some (.f (.ptr cells o))=>rv (.f (.ptr cells (o+off)))
  |_=>ah
 |.fld off sz ag x=>match my e x with
  |some (.agg l)=>(match (BC.mx l).sub? off sz ag with|some v=>rv v|none=>ah)
  |some (.f (.agg l))=>(match (BC.fz l).sub? off sz ag with|some v=>rv v|none=>ah)
  |_=>ah
 |.iad sz x i=>match my e x,my e i with
  |some v,af (.f (.raw (.int _ j)))=>match v with
   |.row id sz' n=>if sz'==sz&&c5 0 j&&fO j n then rv (.ptr id (j.toNat*sz)) else ah
   |.sl id off n=>if c5 0 j&&fO j n then rv (.ptr id (off+j.toNat*sz)) else ah
   |.f (.sl cells n)=>if c5 0 j&&fO j n then rv (.f (.ptr cells (j.toNat*sz))) else ah
   |_=>ah
  |_,_=>ah
 |.iada n sz x i=>match my e x,my e i with
  |some v,af (.f (.raw (.int _ j)))=>if c5 0 j&&fO j n then (match v with
   |.ptr id off=>rv (.ptr id (off+j.toNat*sz))
   |.f (.ptr cells off)=>rv (.f (.ptr cells (off+j.toNat*sz)))
   |_=>ah) else ah
  |_,_=>ah
 |.idx n sz ag x i=>match my e x,my e i with
  |some v,af (.f (.raw (.int _ j)))=>if c5 0 j&&fO j n then (match v with
   |.agg l=>(match (BC.mx l).sub? (j.toNat*sz) sz ag with|some v=>rv v|none=>ah)
   |.f (.agg l)=>(match (BC.fz l).sub? (j.toNat*sz) sz ag with|some v=>rv v|none=>ah)
   |_=>ah) else ah
  |_,_=>ah
 |.ext x i=>match my e x with|some (.tup l)=>(match l[i]? with|some v=>rv v|none=>ah)|_=>ah
 |.len x=>match my e x with
  |some v=>(match v.slen with|some n=>rv (raw (.int .i64 n))|none=>ah)
  |none=>ah
 |.lens x=>match my e x with
  |some (.f (.raw (.string s)))=>rv (raw (.int .i64 s.data.toList.length))
  |_=>ah
 |.lenm x=>match my e x with
  |some (.mp id)=>(match h.get id with|some ⟨_,.mp es⟩=>af ⟨raw (.int .i64 es.length),[id],[],[],[]⟩|_=>ah)
  |_=>ah
 |.max x y=>match my e x,my e y with
  |some (.f (.raw (.int k a))),af (.f (.raw (.int _ b)))=>rv (raw (.int k (if fO a b then b else a)))
  |_,_=>ah
 |.min x y=>match my e x,my e y with
  |some (.f (.raw (.int k a))),af (.f (.raw (.int _ b)))=>rv (raw (.int k (if fO b a then b else a)))
  |_,_=>ah
 |.sidx x i=>match my e x,my e i with
  |some (.f (.raw (.string s))),af (.f (.raw (.int _ j)))=>if c5 0 j then (match s.data.toList[j.toNat]? with|some b=>rv (raw (.int .u8 b.toNat))|none=>ah) else ah
  |_,_=>ah
 |.app ty sz bytes s x=>match my e s,my e x with
  |some b,af y=>match y.row? h sz with
   |some (src,m,rd)=>match b with
    |.row id sz' n=>match h.get id with
     |some blk=>if sz'==sz&& !(WS id rd)&&blk.c.isCells&&eC (n*sz) blk.c.len&&blk.ty==ty&&bd (n+m) bytes then
       af ⟨.row nx sz (n+m),id::rd,[nx,id],[(nx,⟨ty,ph (blk.c.toMx.take (n*sz)++src)⟩)],[nx]⟩ else ah
     |none=>ah
    |b=>if If b&&bd m bytes then
      (if m==0 then af ⟨b,rd,[],[],[]⟩ else af ⟨.row nx sz m,rd,[nx],[(nx,⟨ty,ph src⟩)],[nx]⟩) else ah
   |none=>ah
  |_,_=>ah
 |.copy sz d x=>match my e d,my e x with
  |some (.row id sz' n),af y=>(match h.get id,y.row? h sz with
   |some blk,af (src,m,rd)=>if sz'==sz&& !(WS id rd)&&eC (n*sz) blk.c.len then
     (match blk.c.put 0 (src.take (iQ m n*sz)) with
     |some c=>af ⟨raw (.int .i64 (iQ m n)),id::rd,[id],[(id,⟨blk.ty,c⟩)],[]⟩
     |none=>ah) else ah
   |_,_=>ah)
  |_,_=>ah
 |.clr _ z x=>match my e x with
  |some (.sl id off n)=>(match h.get id with
   |some blk=>if gf 0 n then (match blk.c.put off ((repl z n).map .f) with
    |some c=>af ⟨.tup [],[id],[id],[(id,⟨blk.ty,c⟩)],[]⟩
    |none=>ah) else ah
   |none=>ah)
  |_=>ah
 |.mkf f caps=>match V0 e caps with|some l=>rv (.clo f l)|none=>ah
 |.mkm=>af ⟨.mp nx,[],[nx],[(nx,⟨0,.mp []⟩)],[nx]⟩
 |.lku str ok z x k=>match my e x,my e k with
  |some (.mp id),af (.f (.raw key))=>(match h.get id with
   |some ⟨_,.mp es⟩=>if yE str key then (match s5 key es with|some (af v)=>af ⟨pkV ok v ai,[id],[],[],[]⟩|some ah=>af ⟨pkV ok (raw z) aj,[id],[],[],[]⟩|none=>ah) else ah
   |_=>ah)
  |_,_=>ah
 |.mup str x k v=>match my e x,my e k,my e v with
  |some (.mp id),af (.f (.raw key)),af y=>(match h.get id with
   |some ⟨ty,.mp es⟩=>if yE str key then (match yC key y es with|some es'=>af ⟨raw undef,[id],[id],[(id,⟨ty,.mp es'⟩)],[]⟩|none=>ah) else ah
   |_=>ah)
  |_,_,_=>ah
 |.rng x=>match my e x with
  |some (.f (.raw (.string s)))=>af ⟨.ptr nx 0,[],[nx],[(nx,⟨0,.it s 0⟩)],[nx]⟩
  |_=>ah
 |.nxt x=>match my e x with
  |some (.ptr id 0)=>(match h.get id with
   |some ⟨ty,.it s p⟩=>(match s.data.toList[p]? with
    |some b=>if gf b.toNat 128 then af ⟨.tup [raw (.bool ai),raw (.int .i64 p),raw (.int .i32 b.toNat)],[id],[id],[(id,⟨ty,.it s (p+1)⟩)],[]⟩ else ah
    |none=>af ⟨.tup [raw (.bool aj)],[id],[id],[(id,⟨ty,.it s p⟩)],[]⟩)
   |_=>ah)
  |_=>ah
 |.bad=>ah
structure su where
 dst:Option Nat
 op:SI
 guard:Option (Nat×Bool)
inductive SC where
 |skip
 |reg (ops:List su) (prs:List (Nat×Nat))
 |seq (a b:SC)
 |cond (c:Nat) (a b:SC)
 |block (id:Nat) (b:SC)
 |loop (b:SC)
 |exit (id:Nat)
 |ret
 |defer (f:FuncId) (caps:List Operand) (t:Nat)
 |bad
structure amb where
 val:AV
 h:nP
 nx:Nat
 wr:Nat
abbrev Wv:=FuncId->List AV->nP->Nat->Option amb
mutual
def AV.ids:AV->Nat->Nat
 |.ptr id _,acc=>acc|||(1<<<id)
 |.sl id _ _,acc=>acc|||(1<<<id)
 |.row id _ _,acc=>acc|||(1<<<id)
 |.mp id,acc=>acc|||(1<<<id)
 |.agg l,acc=>AV.idsL l acc
 |.tup l,acc=>AV.idsL l acc
 |.clo _ l,acc=>AV.idsL l acc
 |.f _,acc=>acc
 |.emp,acc=>acc
 |.anyb,acc=>acc
def AV.idsL:List AV->Nat->Nat
 |[],acc=>acc
 |x::r,acc=>AV.idsL r (AV.ids x acc)
end
mutual
def AV.all (p:Nat->Bool):AV->Bool
 |.ptr id _=>p id
 |.sl id _ _=>p id
 |.row id _ _=>p id
 |.mp id=>p id
 |.agg l=>AV.allL p l
 |.tup l=>AV.allL p l
 |.clo _ l=>AV.allL p l
 |.f _=>ai
 |.emp=>ai
 |.anyb=>ai
def AV.allL (p:Nat->Bool):List AV->Bool
 |[]=>ai
 |x::r=>AV.all p x&&AV.allL p r
end
def BC.ids:BC->Nat->Nat
 |.mx l,acc=>AV.idsL l acc
 |.mp es,acc=>AV.idsL (es.map (·.2)) acc
 |_,acc=>acc
def BC.all (p:Nat->Bool):BC->Bool
 |.mx l=>AV.allL p l
 |.mp es=>AV.allL p (es.map (·.2))
 |_=>ai
def nP.all (p:Nat->Bool) (h:nP):Bool:=PT.all (λi b=>p i&&b.c.all p) 1 0 h
def Vo:Nat->nP->Nat->Nat->Nat
 |0,_,_,Kx=>Kx
 |n+1,h,todo,Kx=>
  if aC todo 0 then Kx else
  match Nat.log2 todo with
  |id=>if aM Kx id then Vo n h (todo ^^^ (1<<<id)) Kx else
   match h.get id with
   |some b=>Vo n h (b.c.ids (todo ^^^ (1<<<id))) (Kx|||(1<<<id))
   |none=>Vo n h (todo ^^^ (1<<<id)) Kx
section force
variable {α:Type}
def sI (n:Nat) (k:Nat->α):α:=match n with|0=>k 0|m+1=>k (m+1)
def frcI (n:Int) (k:Int->α):α:=match n with|.ofNat m=>sI m λm=>k (.ofNat m)|.negSucc m=>sI m λm=>k (.negSucc m)
def frcB (b:Bool) (k:Bool->α):α:=match b with|true=>k ai|false=>k aj
def frcV (v:Value) (k:Value->α):α:=match v with
 |.int kd n=>frcI n λn=>k (.int kd n)
 |.bool b=>frcB b λb=>k (.bool b)
 |v=>k v
def ajy (x:FV) (k:FV->α):α:=match x with
 |.raw v=>frcV v λv=>k (.raw v)
 |.ptr cells off=>sI off λoff=>k (.ptr cells off)
 |.sl cells n=>sI n λn=>k (.sl cells n)
 |.agg l=>k (.agg l)
def ZO:List FV->(List FV->α)->α
 |[],k=>k []
 |x::r,k=>ajy x λx=>ZO r λr=>k (x::r)
def ajx (x:FV) (k:FV->α):α:=match x with
 |.agg l=>ZO l λl=>k (.agg l)
 |x=>ajy x k
def af7 (x:AV) (k:AV->α):α:=match x with
 |.f x=>ajx x λx=>k (.f x)
 |.ptr id off=>sI id λid=>sI off λoff=>k (.ptr id off)
 |.sl id off n=>sI id λid=>sI off λoff=>sI n λn=>k (.sl id off n)
 |.row id sz n=>sI id λid=>sI sz λsz=>sI n λn=>k (.row id sz n)
 |.mp id=>sI id λid=>k (.mp id)
 |x=>k x
def Qp:List AV->(List AV->α)->α
 |[],k=>k []
 |x::r,k=>af7 x λx=>Qp r λr=>k (x::r)
def ajz (x:AV) (k:AV->α):α:=match x with
 |.agg l=>Qp l λl=>k (.agg l)
 |.tup l=>Qp l λl=>k (.tup l)
 |.clo f l=>Qp l λl=>k (.clo f l)
 |x=>af7 x k
def frcC (c:BC) (k:BC->α):α:=match c with
 |.fz l=>ZO l λl=>k (.fz l)
 |.mx l=>Qp l λl=>k (.mx l)
 |.it s p=>sI p λp=>k (.it s p)
 |.mp es=>k (.mp es)
def Qo {β:Type}:PT β->(PT β->α)->α
 |.leaf,k=>k .leaf
 |.node v l r,k=>(match v with
  |none=>λ(k:Option β->α)=>k ah
  |some x=>λk=>k (af x)) λv=>Qo l λl=>Qo r λr=>k (.node v l r)
def SA {β:Type}:Nat->PT β->Nat->Option β->(PT β->α)->α
 |0,t,_,_,k=>k t
 |f+1,t,n,x,k=>match t with
  |.leaf=>(match n with
   |0=>k (.node x .leaf .leaf)
   |m+1=>if aC (m%2) 0 then sI (m/2) λq=>SA f .leaf q x λu=>k (.node ah u .leaf) else sI (m/2) λq=>SA f .leaf q x λu=>k (.node ah .leaf u))
  |.node v l r=>(match n with
   |0=>k (.node x l r)
   |m+1=>if aC (m%2) 0 then sI (m/2) λq=>SA f l q x λu=>k (.node v u r) else sI (m/2) λq=>SA f r q x λu=>k (.node v l u))
theorem NS {β:Type}:∀ (x:PT β) (k:PT β->α),Qo x k=k x
 |.leaf,_=>rfl
 |.node v l r,k=>by cases v<;>simp only[Qo,NS l,NS r]
end force
structure IS where
 e:zA
 h:nP
 nx:Nat
 wr:Nat
structure afp where
 val:AV
 rd:Nat
 wr:Nat
 h:nP
 nx:Nat
def bits:List Nat->Nat->Nat
 |[],acc=>acc
 |x::r,acc=>bits r (acc|||(1<<<x))
def ag1 {α:Type} (h:nP) (nw:NW):List Nat->(nP->α)->α
 |[],k=>k h
 |i::r,k=>match jb nw i with
  |none=>SA (i+1) h i ah λh=>ag1 h nw r k
  |some ⟨ty,c⟩=>frcC c λc=>SA (i+1) h i (af ⟨ty,c⟩) λh=>ag1 h nw r k
def afc (call:Wv) (f:FuncId) (args:List AV) (h:nP) (nx:Nat):Option afp:=
 sI (Vo 1000000 h (AV.idsL args 0) 0) λids=>Qo (PT.only ids 1 0 h) λhc=>
 if AV.allL (gf · nx) args&&nP.all (gf · nx) hc then
  match call f args hc nx with
  |some ⟨val,h',nx',wr⟩=>ajz val λval=>sI nx' λnx'=>sI wr λwr=>Qo (PT.merge wr 1 0 h h') λhm=>af ⟨val,ids,wr,hm,nx'⟩
  |none=>ah
 else ah
def opA (call:Wv) (o:SI) (e:zA) (h:nP) (nx:Nat):Option afp:=
 match o with
 |.call f args=>match V0 e args with|some l=>afc call f l h nx|none=>ah
 |.callv x args=>match my e x,V0 e args with|some (.clo f cap),af l=>afc call f (l++cap) h nx|_,_=>ah
 |.op o=>match eL o e h nx with
  |some ⟨val,rd,wr,nw,N⟩=>ajz val λval=>sI (bits rd 0) λrd=>sI (bits wr 0) λI=>sI (nx+N.length) λnx'=>ag1 h nw wr λh=>af ⟨val,rd,I,h,nx'⟩
  |none=>ah
def ajh (e:zA):Option (Nat×Bool)->Option Bool
 |none=>af ai
 |some (t,want)=>match e.get t with
  |some (.f (.raw (.bool b)))=>af (b==want)
  |some (.f (.raw (.tuple _)))=>af aj
  |_=>ah
def ag9 {α:Type} (e:zA) (dst:Option Nat) (v:AV) (k:zA->α):α:=match dst with
 |none=>k e
 |some d=>SA (d+1) e d (af v) k
structure FPm where
 rd:Nat
 wr:Nat
def SJ (call:Wv):List su->IS->Option (IS×List FPm)
 |[],s=>af (s,[])
 |o::r,⟨e,h,nx,wr⟩=>
  match ajh e o.guard with
  |some ai=>(match opA call o.op e h nx with
   |some ⟨val,rd,w,h',nx'⟩=>ag9 e o.dst val λe'=>sI (wr|||w) λwr'=>(match SJ call r ⟨e',h',nx',wr'⟩ with
    |some (s',fs)=>af (s',⟨rd,w⟩::fs)
    |none=>ah)
   |none=>ah)
  |some aj=>ag9 e o.dst (raw undef) λe'=>(match SJ call r ⟨e',h,nx,wr⟩ with
   |some (s',fs)=>af (s',⟨0,0⟩::fs)
   |none=>ah)
  |none=>ah
def Xl:List FPm->Nat->Option FPm
 |[],_=>ah
 |f::_,0=>af f
 |_::r,n+1=>Xl r n
def Dd (a b:Nat):Bool:=aC (a&&&b) 0
def E6 (fs:List FPm):List (Nat×Nat)->Bool
 |[]=>ai
 |(i,j)::r=>(match Xl fs i,Xl fs j with
  |some a,af b=>Dd a.wr b.rd&&Dd a.wr b.wr&&Dd b.wr a.rd
  |_,_=>aj)&&E6 fs r
inductive Ex where
 |normal
 |exit (id:Nat)
 |ret
def af4 (body:IS->Option (Ex×IS)) (e0:zA):Nat->IS->Option (Ex×IS)
 |0,_=>ah
 |n+1,s=>match body s with
  |some (.normal,⟨e,h,nx,wr⟩)=>Qo (PT.mask e e0) λe=>af4 body e0 n ⟨e,h,nx,wr⟩
  |r=>r
def run (call:Wv) (inert:FuncId->Bool) (fuel:Nat):SC->IS->Option (Ex×IS)
 |.skip,s=>af (.normal,s)
 |.reg ops prs,s=>match SJ call ops s with
  |some (s',fs)=>if E6 fs prs then af (.normal,s') else ah
  |none=>ah
 |.seq a b,s=>match run call inert fuel a s with
  |some (.normal,s')=>run call inert fuel b s'
  |r=>r
 |.cond c a b,s=>match s.e.get c with
  |some (.f (.raw (.bool ai)))=>run call inert fuel a s
  |some (.f (.raw (.bool aj)))=>run call inert fuel b s
  |_=>ah
 |.block id b,s=>match run call inert fuel b s with
  |some (.exit i,s')=>if aC i id then af (.normal,s') else af (.exit i,s')
  |r=>r
 |.loop b,s=>af4 (run call inert fuel b) s.e fuel s
 |.exit id,s=>af (.exit id,s)
 |.ret,s=>af (.ret,s)
 |.defer f caps t,⟨e,h,nx,wr⟩=>match V0 e caps with
  |some l=>if inert f then ag9 e (af t) (.clo f l) λe'=>af (.normal,⟨e',h,nx,wr⟩) else ah
  |none=>ah
 |.bad,_=>ah
inductive RV where
 |tmp (t:Nat)
 |cell (a:Nat) (sz:Nat) (ag:Bool)
structure SF where
 code:SC
 res:List RV
 nt:Nat
def DI:List AV->AV
 |[x]=>x
 |l=>.tup l
def agx:Value->Value->Bool
 |.bool a,.bool b=>a==b
 |.int k a,.int k' b=>k==k'&&a==b
 |.string a,.string b=>rT a b
 |.slice ah n c,.slice ah I c'=>aC n I&&aC c c'
 |.pointer ah,.pointer ah=>ai
 |.tuple a,.tuple b=>a.isEmpty&&b.isEmpty
 |_,_=>aj
def fg (P:Program) (t:TypeId):Option Nat:=(P.info? t).map (·.size)
def EI (P:Program) (t:TypeId):Option Nat:=(P.info? t).map (·.bytes)
def sO (P:Program) (t:TypeId):Option (List Value):=((P.info? t).bind (·.zero)).map (·.cells.toList)
def Du (P:Program) (t:TypeId):Option Bool:=(P.underlying t).map λ|.struct _=>ai|.array _ _=>ai|_=>aj
def As (P:Program) (t:TypeId):Option TypeId:=match P.underlying t with|some (.slice e)=>af e|_=>ah
def Bf (P:Program) (t:TypeId) (i:Nat):Option (Nat×Nat):=match P.underlying t with
 |some (.struct fs)=>(fs[i]?).bind λf=>(fg P f.type).map (f.offset,·)
 |some (.array _ el)=>(fg P el).map λs=>(i*s,s)
 |some (.slice el)=>(fg P el).map λs=>(i*s,s)
 |_=>ah
def wU (P:Program) (t:TypeId):List (Nat×Operand)->Option (List (Nat×Nat×Operand))
 |[]=>af []
 |(i,x)::r=>match Bf P t i,wU P t r with|some (o,s),af l=>af ((o,s,x)::l)|_,_=>ah
def mr (z:List Value):Bool:=z.all λv=>v.oneCell'
def HN:TypeDesc->Bool
 |.int _=>ai
 |.bool=>ai
 |.string=>ai
 |_=>aj
def rK (P:Program):Nat→List Field→Option (List TypeDesc)
 |_,[]=>af []
 |k,f::r=>match P.underlying f.type,rK P (k+1) r with
  |some d,af ds=>if f.name != "_" &&f.offset==k&&HN d then af (d::ds) else ah
  |_,_=>ah
def Y5 (P:Program) (t:TypeId):Option (List TypeDesc):=match P.underlying t with
 |some (.struct fs)=>if P.stoodInHeld t then ah else rK P 0 fs.toList
 |_=>ah
def Ru (P:Program) (c:Call):Option X9:=
 match c.callee with
 |.builtin .len=>(match c.args.toList,c.argTypes.toList with
  |[x],[t]=>(match P.underlying t with
   |some (.slice _)=>af (.len x)
   |some .string=>af (.lens x)
   |some (.map _ _)=>af (.lenm x)
   |_=>ah)
  |_,_=>ah)
 |.builtin .max=>(match c.args.toList with
  |[x,y]=>af (.max x y)
  |_=>ah)
 |.builtin .min=>(match c.args.toList with
  |[x,y]=>af (.min x y)
  |_=>ah)
 |.builtin .copy=>(match c.args.toList,c.argTypes.toList with
  |[d,x],[t,u]=>(match As P t,As P u with
   |some el,af _=>(fg P el).bind λsz=>if sz !=0 then af (.copy sz d x) else ah
   |_,_=>ah)
  |_,_=>ah)
 |.builtin .clear=>(match c.args.toList,c.argTypes.toList with
  |[x],[t]=>(As P t).bind λel=>(sO P el).bind λz=>(fg P el).bind λsz=>if mr z&&z.length==sz&&sz !=0 then af (.clr sz z x) else ah
  |_,_=>ah)
 |.builtin .append=>(match c.args.toList,c.argTypes.toList with
  |[s,x],[t,u]=>(match As P t,As P u with
   |some el,af _=>(fg P el).bind λsz=>(EI P el).bind λb=>(sO P el).bind λz=>if sz !=0&&z.length==sz then af (.app el sz b s x) else ah
   |_,_=>ah)
  |_,_=>ah)
 |_=>ah
def di (P:Program):Op->Option X9
 |.move x=>af (.mv x)
 |.assign x=>af (.mv x)
 |.pick c a b=>af (.pick c a b)
 |.alloc t=>(sO P t).bind λz=>if mr z then af (.alloc t z) else ah
 |.box t x=>af (.box t x)
 |.build t ps=>match P.underlying t with
  |some (.struct fs)=>(sO P t).bind λz=>if mr z&&(fs.toList.all λf=>(fg P f.type).isSome) then (wU P t ps.toList).map (.build z) else ah
  |some (.array _ el)=>(sO P t).bind λz=>if mr z&&(fg P el).isSome then (wU P t ps.toList).map (.build z) else ah
  |_=>ah
 |.buildSlice t n ps=>(As P t).bind λel=>(sO P el).bind λz=>(fg P el).bind λsz=>if mr z&&z.length==sz&&eC (n*sz) 65536&&sz !=0 then (wU P t ps.toList).map (.bsl el sz n z) else ah
 |.load t x=>(fg P t).bind λsz=>(Du P t).map λag=>.load sz ag x
 |.store t x v=>(fg P t).map λsz=>.store sz x v
 |.nilCheck x=>af (.nilc x)
 |.binOp op t x y _=>match P.underlying t with
  |some (.int _)|some .string=>af (.bin op x y)
  |some .bool=>(match op with|.eql=>af (.eqb aj x y)|.neq=>af (.eqb ai x y)|_=>ah)
  |some (.slice _)=>(match op,y with
   |.eql,.const (.slice ah 0 0)=>af (.isnil aj x)
   |.neq,.const (.slice ah 0 0)=>af (.isnil ai x)
   |_,_=>ah)
  |some (.struct _)=>(Y5 P t).bind λds=>(match op with|.eql=>af (.eqs aj ds x y)|.neq=>af (.eqs ai ds x y)|_=>ah)
  |_=>ah
 |.unOp .not _ x=>af (.not x)
 |.unOp .neg t x=>match P.underlying t with|some (.int k)=>af (.bin .sub (.const (.int k 0)) x)|_=>ah
 |.convert s d x=>match P.underlying s,P.underlying d with|some (.int _),af (.int k)=>af (.conv k x)|_,_=>ah
 |.makeSlice t l c=>(As P t).bind λel=>(sO P el).bind λz=>(fg P el).bind λsz=>(EI P el).bind λb=>if mr z&&z.length==sz&&sz !=0 then af (.mksl el sz b z l c) else ah
 |.slice t x lo hi mx=>(As P t).bind λel=>(fg P el).map λsz=>.slc sz x lo hi mx
 |.fieldAddr t x k=>match P.underlying t with
  |some (.struct fs)=>(fs[k]?).bind λf=>(fg P f.type).bind λsz=>if sz !=0 then af (.fad f.offset x) else ah
  |_=>ah
 |.field t x k=>match P.underlying t with
  |some (.struct fs)=>(fs[k]?).bind λf=>(fg P f.type).bind λsz=>(Du P f.type).map λag=>.fld f.offset sz ag x
  |_=>ah
 |.indexAddr t x i=>match P.underlying t with
  |some (.slice el)=>(fg P el).map λsz=>.iad sz x i
  |some (.array n el)=>(fg P el).map λsz=>.iada n sz x i
  |_=>ah
 |.index t x i=>match P.underlying t with
  |some (.array n el)=>(fg P el).bind λsz=>(Du P el).map λag=>.idx n sz ag x i
  |some .string=>af (.sidx x i)
  |_=>ah
 |.extract x i=>af (.ext x i)
 |.makeFunc (.func f) first caps=>if first.isEmpty then af (.mkf f caps.toList) else ah
 |.makeMap t ah=>match P.underlying t with|some (.map _ _)=>af .mkm|_=>ah
 |.lookup t x k ok=>match P.underlying t with
  |some (.map I el)=>(match P.underlying I,(P.info? el).bind (·.zero) with
   |some (.int _),af z=>if z.oneCell' then af (.lku aj ok z x k) else ah
   |some .string,af z=>if z.oneCell' then af (.lku ai ok z x k) else ah
   |_,_=>ah)
  |_=>ah
 |.mapUpdate t m k v=>match P.underlying t with
  |some (.map I _)=>(match P.underlying I with
   |some (.int _)=>af (.mup aj m k v)
   |some .string=>af (.mup ai m k v)
   |_=>ah)
  |_=>ah
 |.range t x=>match P.underlying t with|some .string=>af (.rng x)|_=>ah
 |.next x ai=>af (.nxt x)
 |.call c=>Ru P c
 |_=>ah
def Ou:Op->Option SI
 |.call c=>(match c.callee with
  |.value (.func f)=>af (.call f c.args.toList)
  |.value (.tmp t)=>af (.callv (.tmp t) c.args.toList)
  |_=>ah)
 |_=>ah
def xX (P:Program) (op:Op):SI:=match Ou op with
 |some i=>i
 |none=>(match di P op with|some s=>.op s|none=>.op .bad)
def X9.still:X9->Bool
 |.mv _|.pick _ _ _|.build _ _|.nilc _|.bin _ _ _|.eqs _ _ _ _|.isnil _ _|.eqb _ _ _|.not _|.conv _ _|.fad _ _|.fld _ _ _ _|.iad _ _ _|.iada _ _ _ _|.idx _ _ _ _ _|.ext _ _|.max _ _|.min _ _|.sidx _ _|.mkf _ _|.bad=>ai
 |_=>aj
def SI.still:SI->Bool
 |.op s=>s.still
 |_=>aj
def rS (P:Program) (ops:Array Oper):List Oper->Option (List su)
 |[]=>af []
 |o::r=>match rS P ops r with
  |some l=>(match o.guard with
   |none=>af (⟨o.dst,xX P o.op,ah⟩::l)
   |some (j,want)=>(match (ops[j]?).bind (·.dst) with
    |some t=>af (⟨o.dst,xX P o.op,af (t,want)⟩::l)
    |none=>ah))
  |none=>ah
def LY (ops:Array Oper) (l:List su):Option (List (Nat×Nat)):=
 let B:=JV ops.toList []
 if (eS ops.size).all λj=>((ops[j]?).all λoj=>oj.after.toList.all λe=> !zC .any e||decide (e.on<j))&&
     (eS j).all λi=>aM (B.getD j 0) i||(match ops[i]?,ops[j]? with|some oi,af oj=>oi.apart ops oj|_,_=>aj)
 then af ((eS ops.size).flatMap λj=>(eS j).filterMap λi=>
  if aM (B.getD j 0) i||(match l[i]?,l[j]? with|some a,af b=>a.op.still||b.op.still|_,_=>aj) then ah else af (i,j))
 else ah
def Df (ops:Array Oper) (I:Bool):Option (FuncId×List Operand×Nat):=match ops.toList,I with
 |[p,q],aj=>(match p.op,p.guard,p.dst,q.op,q.guard,q.dst with
  |.makeFunc (.func f) first caps,ah,af t,.defer c,ah,ah=>(match c.callee,c.args.toList with
   |.value (.tmp t'),[]=>if aC t t'&&first.isEmpty then af (f,caps.toList,t) else ah
   |_,_=>ah)
  |_,_,_,_,_,_=>ah)
 |_,_=>ah
def cq (P:Program) (nt:Nat):Code->SC
 |.skip=>.skip
 |.region _ ops I=>if ops.toList.all λo=>match o.dst with|some d=>decide (d<nt)|none=>ai then
   (match Df ops I with
   |some (f,caps,t)=>.defer f caps t
   |none=>(match rS P ops ops.toList with
    |some l=>(match LY ops l with|some prs=>.reg l prs|none=>.bad)
    |none=>.bad)) else .bad
 |.seq a b=>.seq (cq P nt a) (cq P nt b)
 |.cond (.tmp c) a b=>.cond c (cq P nt a) (cq P nt b)
 |.cond (.const (.bool ai)) a _=>cq P nt a
 |.cond (.const (.bool aj)) _ b=>cq P nt b
 |.block id b=>.block id (cq P nt b)
 |.loop b=>.loop (cq P nt b)
 |.exit id=>.exit id
 |.ret=>.ret
 |_=>.bad
def uZ (P:Program):List ResultVar->Option (List RV)
 |[]=>af []
 |.tmp t::r=>match uZ P r with|some l=>af (.tmp t::l)|none=>ah
 |.cell a t::r=>match uZ P r,fg P t,Du P t with|some l,af sz,af ag=>af (.cell a sz ag::l)|_,_,_=>ah
def zj (P:Program) (f:FuncId):Option SF:=
 match P.funcs[f]? with
 |some fn=>if fn.name== "runtime.NumGoroutine" then ah else (match fn.body,uZ P fn.results.toList with
  |some c,af r=>af ⟨cq P fn.ntmps c,r,fn.ntmps⟩
  |_,_=>ah)
 |none=>ah
inductive Xp where
 |mk (op n:Int) (name:List UInt8) (l:List Xp)
inductive Sx where
 |mk (op line:Int) (name arg:List UInt8) (index:List Xp) (expr:Xp) (body els:List Sx)
def Xp.op:Xp->Int|.mk a _ _ _=>a
def Xp.n:Xp->Int|.mk _ a _ _=>a
def Xp.name:Xp->List UInt8|.mk _ _ a _=>a
def Xp.l:Xp->List Xp|.mk _ _ _ a=>a
def Sx.op:Sx->Int|.mk a _ _ _ _ _ _ _=>a
def Sx.line:Sx->Int|.mk _ a _ _ _ _ _ _=>a
def Sx.name:Sx->List UInt8|.mk _ _ a _ _ _ _ _=>a
def Sx.arg:Sx->List UInt8|.mk _ _ _ a _ _ _ _=>a
def Sx.index:Sx->List Xp|.mk _ _ _ _ a _ _ _=>a
def Sx.expr:Sx->Xp|.mk _ _ _ _ _ a _ _=>a
def Sx.body:Sx->List Sx|.mk _ _ _ _ _ _ a _=>a
def Sx.els:Sx->List Sx|.mk _ _ _ _ _ _ _ a=>a
inductive Ty where
 |int (k:IntKind)
 |bool
 |str
 |sl (t:Ty)
 |st (t:Ty)
 |pr (a b:Ty)
 |un
 |ex
 |sm
 deriving DecidableEq
@[reducible] def Ty.den:Ty->Type
  |.int _=>Int
  |.bool=>Bool
  |.str=>List UInt8
  |.sl t=>List t.den
  |.st t=>t.den
  |.pr a b=>a.den×b.den
  |.un=>Unit
  |.ex=>Xp
  |.sm=>Sx
def Ty.size:Ty->Nat
 |.st t=>t.size
 |.pr a b=>a.size+b.size
 |.un=>0
 |.ex=>4
 |.sm=>11
 |_=>1
def Ty.zero:(t:Ty)->t.den
 |.int _=>(0:Int)
 |.bool=>aj
 |.str=>[]
 |.sl _=>[]
 |.st t=>t.zero
 |.pr a b=>(a.zero,b.zero)
 |.un=>()
 |.ex=>.mk 0 0 [] []
 |.sm=>.mk 0 0 [] [] [] (.mk 0 0 [] []) [] []
def Ty.one:Ty->Bool
 |.int _=>ai
 |.bool=>ai
 |.str=>ai
 |.sl _=>ai
 |_=>aj
def Mj:Ty:=.pr (.int .i64) (.pr (.int .i64) (.pr .str (.sl .ex)))
def LS:Ty:=.pr (.int .i64) (.pr (.int .i64) (.pr .str (.pr .str (.pr (.sl .ex) (.pr .ex (.pr (.sl .sm) (.sl .sm)))))))
def M0 (e:Xp):Mj.den:=(e.op,e.n,e.name,e.l)
def dW (x:Mj.den):Xp:=.mk x.1 x.2.1 x.2.2.1 x.2.2.2
def MZ (e:Sx):LS.den:=(e.op,e.line,e.name,e.arg,e.index,e.expr,e.body,e.els)
def nD (x:LS.den):Sx:=.mk x.1 x.2.1 x.2.2.1 x.2.2.2.1 x.2.2.2.2.1 x.2.2.2.2.2.1 x.2.2.2.2.2.2.1 x.2.2.2.2.2.2.2
mutual
def wj:Xp->List FV
 |.mk op n name l=>[.raw (.int .i64 op),.raw (.int .i64 n),.raw (.string ⟨name.toArray⟩),.sl (IZ l) l.length]
def IZ:List Xp->List FV
 |[]=>[]
 |x::r=>wj x++IZ r
end
mutual
def xM:Sx->List FV
 |.mk op line name arg index expr body els=>[.raw (.int .i64 op),.raw (.int .i64 line),.raw (.string ⟨name.toArray⟩),.raw (.string ⟨arg.toArray⟩),.sl (IZ index) index.length]++wj expr++[.sl (IY body) body.length,.sl (IY els) els.length]
def IY:List Sx->List FV
 |[]=>[]
 |x::r=>xM x++IY r
end
def bS:(T:Ty)->T.den->List FV
 |.int k,n=>[.raw (.int k n)]
 |.bool,b=>[.raw (.bool b)]
 |.str,s=>[.raw (.string ⟨s.toArray⟩)]
 |.sl t,xs=>[.sl (List.flatMap (bS t) xs) (al xs)]
 |.st t,v=>bS t v
 |.pr a b,v=>bS a v.1++bS b v.2
 |.un,_=>[]
 |.ex,v=>wj v
 |.sm,v=>xM v
def gE:(T:Ty)->T.den->FV
 |.int k,n=>.raw (.int k n)
 |.bool,b=>.raw (.bool b)
 |.str,s=>.raw (.string ⟨s.toArray⟩)
 |.sl t,xs=>.sl (List.flatMap (bS t) xs) (al xs)
 |.st t,v=>.agg (bS t v)
 |.pr a b,v=>.agg (bS a v.1++bS b v.2)
 |.un,_=>.agg []
 |.ex,v=>.agg (wj v)
 |.sm,v=>.agg (xM v)
def OU:(T:Ty)->T.den->T.den->Bool
 |.int _,a,b=>decide ((a:Int)=b)
 |.bool,a,b=>(a:Bool)==b
 |.str,a,b=>decide ((a:List UInt8)=b)
 |.st t,a,b=>OU t a b
 |.pr x y,a,b=>OU x a.1 b.1&&OU y a.2 b.2
 |_,_,_=>ai
def wC {S:Ty} (T:Ty) (v:S.den):Option T.den:=if h:S=T then af (h▸v) else ah
def fI (j:Int) (n:Nat):Bool:=c5 0 j&&fO j n
def aJ {T:Ty} (xs:List T.den) (j:Int):T.den:=xs.getD j.toNat T.zero
def cO {α:Type} (xs:List α) (j:Int) (x:α):List α:=xs.set j.toNat x
def Sn {α:Type} (xs I:List α):List α:=I.take xs.length++xs.drop I.length
def ko (a b:Int):Int:=if fO a b then b else a
def Gh (a b:Int):Int:=if fO b a then b else a
def zY (s:List UInt8) (j:Int):Int:=aO (s.getD j.toNat 0).toNat
def bcase {R:Type} (b:Bool) (t f:Option R):Option R:=match b with|true=>t|false=>f
def chk {R:Type} (b:Bool) (k:b=ai->Option R):Option R:=match b,k with|true,k=>k rfl|false,_=>ah
open Classical in
def EJ {R:Type} (a b:Option R):Option R:=if a=b then a else ah
open Classical in
def same {α R:Type} (a b:α) (r:Option R):Option R:=if a=b then r else ah
def obind {α R:Type} (o:Option α) (k:α->Option R):Option R:=match o with|some x=>k x|none=>ah
def lt {α R:Type} (x:α) (k:α->Option R):Option R:=k x
def jn {α R:Type} (o:Option (R⊕α)) (k:α->Option R):Option R:=match o with|some (.inr x)=>k x|some (.inl r)=>af r|none=>ah
def iterN {σ R:Type} (step:σ->Option (σ⊕R)):Nat->σ->Option R
 |0,_=>ah
 |n+1,x=>match step x with
  |some (.inl y)=>iterN step n y
  |some (.inr r)=>af r
  |none=>ah
open Classical in
def iter {σ R:Type} (step:σ->Option (σ⊕R)) (x:σ):Option R:=
 if h:∃ n,(iterN step n x).isSome=ai then iterN step (Classical.choose h) x else ah
def gk {σ R:Type} (step:σ->Option (σ⊕R)) (x:σ):Option R:=iterN step 18446744073709551616 x
abbrev zw:Type 1:=∀ σ R:Type,(σ->Option (σ⊕R))->σ->Option R
def k9 {R:Type} (a b:Option R):Prop:=∀ y,a=af y->b=af y
theorem k9.rfl {R:Type} {a:Option R}:k9 a a:=λ_ h=>h
theorem k9.bcase {R:Type} {b:Bool} {t f t' f':Option R} (h1:k9 t t') (h2:k9 f f'):k9 (AI.bcase b t f) (AI.bcase b t' f'):=by cases b<;>assumption
theorem k9.chk {R:Type} {b:Bool} {k k':Option R} (h:k9 k k'):k9 (AI.chk b λ_=>k) (AI.chk b λ_=>k'):=by
 cases b with
 |true=>exact h
 |false=>exact λ_ h=>by cases h
theorem k9.obind {α R:Type} {o o':Option α} {k k':α->Option R} (h:k9 o o') (hk:∀ x,k9 (k x) (k' x)):k9 (AI.obind o k) (AI.obind o' k'):=by
 intro y I;cases o with
 |none=>cases I
 |some x=>rw[h x (by exact Eq.refl _)];exact hk x y I
theorem k9.lt {α R:Type} {x:α} {k k':α->Option R} (h:∀ y,k9 (k y) (k' y)):k9 (AI.lt x k) (AI.lt x k'):=h x
theorem k9.jn {α R:Type} {o o':Option (R⊕α)} {k k':α->Option R} (h:k9 o o') (hk:∀ x,k9 (k x) (k' x)):k9 (AI.jn o k) (AI.jn o' k'):=by
 intro y I;cases o with
 |none=>cases I
 |some x=>
  rw[h x (by exact Eq.refl _)];cases x with
  |inl r=>exact I
  |inr a=>exact hk a y I
theorem k9.iterN {σ R:Type} {f g:σ->Option (σ⊕R)} (h:∀ x,k9 (f x) (g x)):∀ (n:Nat) (x:σ),k9 (AI.iterN f n x) (AI.iterN g n x)
 |0,_=>λ_ h=>by cases h
 |n+1,x=>by
  intro y I;cases hf:f x with
  |none=>rw[AI.iterN,hf] at I;cases I
  |some s=>
   rw[AI.iterN,hf] at I;rw[AI.iterN,h x s hf];cases s with
   |inl z=>exact k9.iterN h n z y I
   |inr r=>exact I
theorem Ie {σ R:Type} {f:σ->Option (σ⊕R)}:∀ {n:Nat} {x:σ} {r:R},iterN f n x=af r->iterN f (n+1) x=af r
 |0,x,r,h=>by cases h
 |n+1,x,r,h=>by
  cases hf:f x with
  |none=>rw[iterN,hf] at h;cases h
  |some s=>
   cases s with
   |inl y=>rw[iterN,hf] at h;rw[iterN,hf];exact Ie h
   |inr q=>rw[iterN,hf] at h;rw[iterN,hf];exact h
theorem yH {σ R:Type} {f:σ->Option (σ⊕R)} {n m:Nat} {x:σ} {r:R} (h:iterN f n x=af r) (hle:n<=m):iterN f m x=af r:=by
 induction hle with
 |refl=>exact h
 |step _ I=>exact Ie I
theorem yF {σ R:Type} {f:σ->Option (σ⊕R)} {n:Nat} {x:σ} {r:R} (h:iterN f n x=af r):iter f x=af r:=by
 have J:∃ n,(iterN f n x).isSome=ai:=⟨n,by rw[h];exact Eq.refl _⟩
 unfold iter;rw[dif_pos J];have hc:=Classical.choose_spec J;obtain⟨M,I⟩:=iK.1 hc;rw[I];rcases Nat.le_total n (Classical.choose J) with hl|hl
 .rw[yH h hl] at I;exact I.symm
 .rw[yH I hl] at h;exact h
theorem k9.iter {σ R:Type} {f g:σ->Option (σ⊕R)} {x:σ} (h:∀ x,k9 (f x) (g x)):k9 (gk f x) (AI.iter g x):=λy I=>yF (k9.iterN h _ x y I)
def orE {R:Type} (a b:Option R):Option R:=match a with|some y=>af y|none=>b
def fuel:Nat:=Classical.choose (⟨100000,rfl⟩:∃ n:Nat,n=100000)
theorem jO:fuel=100000:=Classical.choose_spec (⟨100000,rfl⟩:∃ n:Nat,n=100000)
def F_ (a:Ty):Ty->Ty
 |.un=>a
 |.int k=>.pr a (.int k)
 |.bool=>.pr a .bool
 |.str=>.pr a .str
 |.sl t=>.pr a (.sl t)
 |.st t=>.pr a (.st t)
 |.pr x y=>.pr a (.pr x y)
 |.ex=>.pr a .ex
 |.sm=>.pr a .sm
def spr:Ty->Ty->Ty
 |.un,b=>b
 |.int k,b=>F_ (.int k) b
 |.bool,b=>F_ .bool b
 |.str,b=>F_ .str b
 |.sl t,b=>F_ (.sl t) b
 |.st t,b=>F_ (.st t) b
 |.pr x y,b=>F_ (.pr x y) b
 |.ex,b=>F_ .ex b
 |.sm,b=>F_ .sm b
def Py (a:Ty):(b:Ty)->a.den->b.den->(F_ a b).den
 |.un,x,_=>x
 |.int _,x,y=>(x,y)
 |.bool,x,y=>(x,y)
 |.str,x,y=>(x,y)
 |.sl _,x,y=>(x,y)
 |.st _,x,y=>(x,y)
 |.pr _ _,x,y=>(x,y)
 |.ex,x,y=>(x,y)
 |.sm,x,y=>(x,y)
def fsN (a:Ty):(b:Ty)->(F_ a b).den->a.den
 |.un,z=>z
 |.int _,z=>z.1
 |.bool,z=>z.1
 |.str,z=>z.1
 |.sl _,z=>z.1
 |.st _,z=>z.1
 |.pr _ _,z=>z.1
 |.ex,z=>z.1
 |.sm,z=>z.1
def snN (a:Ty):(b:Ty)->(F_ a b).den->b.den
 |.un,_=>()
 |.int _,z=>z.2
 |.bool,z=>z.2
 |.str,z=>z.2
 |.sl _,z=>z.2
 |.st _,z=>z.2
 |.pr _ _,z=>z.2
 |.ex,z=>z.2
 |.sm,z=>z.2
def Tb:(a b:Ty)->a.den->b.den->(spr a b).den
 |.un,_,_,y=>y
 |.int k,b,x,y=>Py (.int k) b x y
 |.bool,b,x,y=>Py .bool b x y
 |.str,b,x,y=>Py .str b x y
 |.sl t,b,x,y=>Py (.sl t) b x y
 |.st t,b,x,y=>Py (.st t) b x y
 |.pr u v,b,x,y=>Py (.pr u v) b x y
 |.ex,b,x,y=>Py .ex b x y
 |.sm,b,x,y=>Py .sm b x y
def NR:(a b:Ty)->(spr a b).den->a.den
 |.un,_,_=>()
 |.int k,b,z=>fsN (.int k) b z
 |.bool,b,z=>fsN .bool b z
 |.str,b,z=>fsN .str b z
 |.sl t,b,z=>fsN (.sl t) b z
 |.st t,b,z=>fsN (.st t) b z
 |.pr u v,b,z=>fsN (.pr u v) b z
 |.ex,b,z=>fsN .ex b z
 |.sm,b,z=>fsN .sm b z
def Kv:(a b:Ty)->(spr a b).den->b.den
 |.un,_,z=>z
 |.int k,b,z=>snN (.int k) b z
 |.bool,b,z=>snN .bool b z
 |.str,b,z=>snN .str b z
 |.sl t,b,z=>snN (.sl t) b z
 |.st t,b,z=>snN (.st t) b z
 |.pr u v,b,z=>snN (.pr u v) b z
 |.ex,b,z=>snN .ex b z
 |.sm,b,z=>snN .sm b z
theorem s_ (a b:Ty) (x:a.den) (y:b.den):NR a b (Tb a b x y)=x:=by cases a<;>cases b<;>rfl
theorem uJ (a b:Ty) (x:a.den) (y:b.den):Kv a b (Tb a b x y)=y:=by cases a<;>cases b<;>rfl
inductive TV where
 |f (T:Ty) (v:T.den)
 |fel (T:Ty) (xs:List T.den) (j:Int) (h:fI j xs.length=ai) (off:Nat)
 |pel (id sz:Nat) (j:Int) (off:Nat)
 |ptr (id off:Nat)
 |row (id:Nat)
 |csl (id sz n:Nat)
 |emp
 |nil
 |mp (id:Nat)
 |agg (l:List TV)
 |tup (l:List TV)
 |clo (g:FuncId) (l:List TV)
 |undef
 |np
 |anyb
 |rtl (id:Nat) (j:Int)
inductive ip where
 |rows (ty:TypeId) (p:Bool) (T:Ty) (xs:List T.den)
 |cells (ty:TypeId) (l:List TV)
 |dead (p:Bool) (sz n:Nat)
 |mp (K V:Ty) (es:List (K.den×V.den))
abbrev iN:=PT TV
abbrev bh:=PT ip
def cst:Value->Option TV
 |.int k n=>af (.f (.int k) n)
 |.bool b=>af (.f .bool b)
 |.string s=>af (.f .str s.data.toList)
 |.slice ah 0 0=>af .nil
 |.pointer ah=>af .np
 |_=>ah
def Jy:List Value->Option (List TV)
 |[]=>af []
 |v::r=>match cst v,Jy r with|some x,af l=>af (x::l)|_,_=>ah
def agq:Value->Option TV
 |.agg vs=>if JQ vs.toList then (match Jy vs.toList with|some l=>af (.agg l)|none=>ah) else ah
 |v=>cst v
def cellsOf:Nat->(T:Ty)->T.den->Option (List TV)
 |0,_,_=>ah
 |n+1,.st t,v=>cellsOf n t v
 |n+1,.pr a b,v=>match cellsOf n a v.1,cellsOf n b v.2 with|some x,af y=>af (x++y)|_,_=>ah
 |_+1,.un,_=>af []
 |n+1,.ex,v=>cellsOf n Mj (M0 v)
 |n+1,.sm,v=>cellsOf n LS (MZ v)
 |_+1,.int k,v=>af [.f (.int k) v]
 |_+1,.bool,v=>af [.f .bool v]
 |_+1,.str,v=>af [.f .str v]
 |_+1,.sl t,v=>af [.f (.sl t) v]
def TV.isC:TV->Bool
 |.f T _=>T.one
 |.fel _ _ _ _ _=>ai
 |.pel _ _ _ _=>ai
 |.ptr _ _=>ai
 |.row _=>ai
 |.csl _ _ _=>ai
 |.emp=>ai
 |.nil=>ai
 |.np=>ai
 |.mp _=>ai
 |.clo _ _=>ai
 |_=>aj
def kq:List TV->Bool
 |[]=>ai
 |x::r=>x.isC&&kq r
def TV.cs (v:TV):Option (List TV):=match v with
 |.agg l=>if kq l then af l else ah
 |.f T x=>cellsOf 40 T x
 |x=>if x.isC then af [x] else ah
def kK (i:Nat):Nat:=1<<<i
def iI (h:bh) (T:Ty):TV->Option (T.den×Nat)
 |.f _ v=>match wC T v with|some x=>af (x,0)|none=>ah
 |.emp=>(match T with|.sl _=>af ([],0)|_=>ah)
 |.nil=>(match T with|.sl _=>af ([],0)|_=>ah)
 |.row id=>match h.get id with
  |some (.rows _ _ S xs)=>(match wC (S:=.sl S) T xs with|some x=>af (x,kK id)|none=>ah)
  |_=>ah
 |_=>ah
def eT (h:bh):Nat->(T:Ty)->List TV->Option (T.den×Nat×List TV)
 |0,_,_=>ah
 |n+1,.st t,l=>eT h n t l
 |n+1,.pr a b,l=>match eT h n a l with
  |some (x,m,r)=>(match eT h n b r with|some (y,m',I)=>af ((x,y),m|||m',I)|none=>ah)
  |none=>ah
 |_+1,.un,l=>af ((),0,l)
 |n+1,.ex,l=>match eT h n Mj l with|some (x,m,r)=>af (dW x,m,r)|none=>ah
 |n+1,.sm,l=>match eT h n LS l with|some (x,m,r)=>af (nD x,m,r)|none=>ah
 |_+1,.int k,l=>match l with|c::r=>(match iI h (.int k) c with|some (x,m)=>af (x,m,r)|none=>ah)|[]=>ah
 |_+1,.bool,l=>match l with|c::r=>(match iI h .bool c with|some (x,m)=>af (x,m,r)|none=>ah)|[]=>ah
 |_+1,.str,l=>match l with|c::r=>(match iI h .str c with|some (x,m)=>af (x,m,r)|none=>ah)|[]=>ah
 |_+1,.sl t,l=>match l with|c::r=>(match iI h (.sl t) c with|some (x,m)=>af (x,m,r)|none=>ah)|[]=>ah
def Ds (h:bh) (T:Ty) (v:TV):Option (T.den×Nat):=match v with
 |.agg l=>if T.one then ah else (match eT h 40 T l with|some (x,m,[])=>af (x,m)|_=>ah)
 |x=>iI h T x
def nR:Nat->(T:Ty)->T.den->Nat->Nat->Bool->Option TV
 |0,_,_,_,_,_=>ah
 |n+1,.st t,v,off,sz,ag=>if aC off 0&&aC sz t.size&&ag then af (.f (.st t) v) else nR n t v off sz ag
 |n+1,.pr a b,v,off,sz,ag=>if gf off a.size then nR n a v.1 off sz ag else nR n b v.2 (off-a.size) sz ag
 |_+1,.un,_,_,_,_=>ah
 |n+1,.ex,v,off,sz,ag=>if aC off 0&&aC sz 4&&ag then af (.f .ex v) else nR n Mj (M0 v) off sz ag
 |n+1,.sm,v,off,sz,ag=>if aC off 0&&aC sz 11&&ag then af (.f .sm v) else nR n LS (MZ v) off sz ag
 |_+1,.int k,v,off,sz,ag=>if aC off 0&&aC sz 1&& !ag then af (.f (.int k) v) else ah
 |_+1,.bool,v,off,sz,ag=>if aC off 0&&aC sz 1&& !ag then af (.f .bool v) else ah
 |_+1,.str,v,off,sz,ag=>if aC off 0&&aC sz 1&& !ag then af (.f .str v) else ah
 |_+1,.sl t,v,off,sz,ag=>if aC off 0&&aC sz 1&& !ag then af (.f (.sl t) v) else ah
def gP (h:bh) (x:TV):Nat->(T:Ty)->T.den->Nat->Nat->Option (T.den×Nat)
 |0,_,_,_,_=>ah
 |n+1,.st t,v,off,sz=>match (if aC off 0&&aC sz t.size then Ds h (.st t) x else ah) with
  |some y=>af y
  |none=>gP h x n t v off sz
 |n+1,.pr a b,v,off,sz=>if gf off a.size then (match gP h x n a v.1 off sz with|some (y,m)=>af ((y,v.2),m)|none=>ah) else (match gP h x n b v.2 (off-a.size) sz with|some (y,m)=>af ((v.1,y),m)|none=>ah)
 |_+1,.un,_,_,_=>ah
 |n+1,.ex,v,off,sz=>match (if aC off 0&&aC sz 4 then Ds h .ex x else ah) with
  |some y=>af y
  |none=>(match gP h x n Mj (M0 v) off sz with|some (y,m)=>af (dW y,m)|none=>ah)
 |n+1,.sm,v,off,sz=>match (if aC off 0&&aC sz 11 then Ds h .sm x else ah) with
  |some y=>af y
  |none=>(match gP h x n LS (MZ v) off sz with|some (y,m)=>af (nD y,m)|none=>ah)
 |_+1,.int k,_,off,sz=>if aC off 0&&aC sz 1 then iI h (.int k) x else ah
 |_+1,.bool,_,off,sz=>if aC off 0&&aC sz 1 then iI h .bool x else ah
 |_+1,.str,_,off,sz=>if aC off 0&&aC sz 1 then iI h .str x else ah
 |_+1,.sl t,_,off,sz=>if aC off 0&&aC sz 1 then iI h (.sl t) x else ah
def yo (h:bh) (T:Ty):Nat->List TV->Option (List T.den×Nat)
 |0,[]=>af ([],0)
 |0,_::_=>ah
 |n+1,l=>match eT h 40 T l with
  |some (x,m,r)=>(match yo h T n r with|some (xs,m')=>af (x::xs,m|||m')|none=>ah)
  |none=>ah
def sN:Ty->List Value
 |.int k=>[.int k 0]
 |.bool=>[.bool aj]
 |.str=>[.string ⟨#[]⟩]
 |.sl _=>[.slice ah 0 0]
 |.st t=>sN t
 |.pr a b=>sN a++sN b
 |.un=>[]
 |.ex=>[.int .i64 0,.int .i64 0,.string ⟨#[]⟩,.slice ah 0 0]
 |.sm=>[.int .i64 0,.int .i64 0,.string ⟨#[]⟩,.string ⟨#[]⟩,.slice ah 0 0,.int .i64 0,.int .i64 0,.string ⟨#[]⟩,.slice ah 0 0,.slice ah 0 0,.slice ah 0 0]
def RD:List Value->List Value->Bool
 |[],[]=>ai
 |x::xs,y::I=>agx x y&&RD xs I
 |_,_=>aj
def Ty.flat:Ty->Bool
 |.int _=>ai
 |.bool=>ai
 |.str=>ai
 |.st t=>t.flat
 |.pr a b=>a.flat&&b.flat
 |.un=>ai
 |_=>aj
def qO:List TypeDesc->Option Ty
 |[]=>af .un
 |.int k::r=>match qO r with|some t=>af (.pr (.int k) t)|none=>ah
 |.bool::r=>match qO r with|some t=>af (.pr .bool t)|none=>ah
 |.string::r=>match qO r with|some t=>af (.pr .str t)|none=>ah
 |_=>ah
inductive PV where
 |d (T:Ty)
 |ptr (id off:Nat)
 |row (id:Nat)
 |csl (id sz n:Nat)
 |mp (id:Nat)
 |nil
 |emp
 |clo (q:FuncId) (id off:Nat)
 |agg (l:List PV)
inductive PB where
 |rows (ty:TypeId) (p:Bool) (T:Ty)
 |rowsP (ty:TypeId) (T:Ty)
 |cells (ty:TypeId) (l:List PV)
 |mp (K V:Ty)
 |gone
mutual
def PV.ty:PV->Ty
 |.d T=>T
 |.agg l=>PV.tyL l
 |.ptr _ _=>.un
 |.row _=>.un
 |.csl _ _ _=>.un
 |.clo _ _ _=>.un
 |.mp _=>.un
 |.nil=>.un
 |.emp=>.un
def PV.tyL:List PV->Ty
 |[]=>.un
 |p::r=>spr p.ty (PV.tyL r)
end
def PB.ty:PB->Ty
 |.rows _ _ T=>.sl T
 |.rowsP _ T=>.pr .bool (.sl T)
 |.cells _ l=>PV.tyL l
 |.mp K V=>.sl (.pr K V)
 |.gone=>.un
def PB.tyL:List PB->Ty
 |[]=>.un
 |p::r=>spr p.ty (PB.tyL r)
structure Tm where
 vs:List PV
 bs:List PB
def Tm.ty (t:Tm):Ty:=spr (PV.tyL t.vs) (PB.tyL t.bs)
mutual
def pl (g:Nat->Nat) (h:bh):(p:PV)->List TV->Option (p.ty.den×Nat×List TV)
 |.d T,l=>eT h 40 T l
 |.ptr i o,l=>match l with|.ptr i' o'::r=>if aC (g i) i'&&aC o o' then af ((),0,r) else ah|_=>ah
 |.row i,l=>match l with|.row i'::r=>if aC (g i) i' then af ((),0,r) else ah|_=>ah
 |.csl i s n,l=>match l with|.csl i' s' n'::r=>if aC (g i) i'&&aC s s'&&aC n n' then af ((),0,r) else ah|_=>ah
 |.clo q i o,l=>match l with|.clo q' [.ptr i' o']::r=>if aC q q'&&aC (g i) i'&&aC o o' then af ((),0,r) else ah|_=>ah
 |.mp i,l=>match l with|.mp i'::r=>if aC (g i) i' then af ((),0,r) else ah|_=>ah
 |.nil,l=>match l with|.nil::r=>af ((),0,r)|_=>ah
 |.emp,l=>match l with|.nil::r=>af ((),0,r)|.emp::r=>af ((),0,r)|_=>ah
 |.agg ps,l=>yN g h ps l
def yN (g:Nat->Nat) (h:bh):(ps:List PV)->List TV->Option ((PV.tyL ps).den×Nat×List TV)
 |[],l=>af ((),0,l)
 |p::r,l=>match pl g h p l with
  |some (x,m,l')=>(match yN g h r l' with|some (y,m',l'')=>af (Tb p.ty (PV.tyL r) x y,m|||m',l'')|none=>ah)
  |none=>ah
end
def xh (g:Nat->Nat) (h:bh):(p:PV)->TV->Option (p.ty.den×Nat)
 |.d T,v=>Ds h T v
 |.agg ps,v=>if v.isC then ah else (match v.cs with
  |some l=>(match yN g h ps l with|some (x,m,[])=>af (x,m)|_=>ah)
  |none=>ah)
 |.ptr i o,v=>match pl g h (.ptr i o) [v] with|some (x,m,_)=>af (x,m)|none=>ah
 |.row i,v=>match pl g h (.row i) [v] with|some (x,m,_)=>af (x,m)|none=>ah
 |.csl i s n,v=>match pl g h (.csl i s n) [v] with|some (x,m,_)=>af (x,m)|none=>ah
 |.clo q i o,v=>match pl g h (.clo q i o) [v] with|some (x,m,_)=>af (x,m)|none=>ah
 |.mp i,v=>match pl g h (.mp i) [v] with|some (x,m,_)=>af (x,m)|none=>ah
 |.nil,v=>match pl g h .nil [v] with|some (x,m,_)=>af (x,m)|none=>ah
 |.emp,v=>match pl g h .emp [v] with|some (x,m,_)=>af (x,m)|none=>ah
def xI (g:Nat->Nat) (h:bh):(ps:List PV)->List TV->Option ((PV.tyL ps).den×Nat)
 |[],[]=>af ((),0)
 |p::r,v::vs=>match xh g h p v with
  |some (x,m)=>(match xI g h r vs with|some (y,m')=>af (Tb p.ty (PV.tyL r) x y,m|||m')|none=>ah)
  |none=>ah
 |[],_::_=>ah
 |_::_,[]=>ah
def Ej (g:Nat->Nat) (h:bh) (i:Nat):(b:PB)->Option (b.ty.den×Nat)
 |.rows ty p T=>match h.get (g i) with
  |some (.rows ty' I S xs)=>if ty==ty'&&p==I then (match wC (S:=.sl S) (.sl T) xs with|some x=>af (x,0)|none=>ah) else ah
  |_=>ah
 |.rowsP ty T=>match h.get (g i) with
  |some (.rows ty' I S xs)=>if ty==ty' then (match wC (S:=.sl S) (.sl T) xs with|some x=>af ((I,x),0)|none=>ah) else ah
  |_=>ah
 |.cells ty ps=>match h.get (g i) with
  |some (.cells ty' l)=>if ty==ty' then (match yN g h ps l with|some (x,m,[])=>af (x,m)|_=>ah) else ah
  |_=>ah
 |.mp K V=>match h.get (g i) with
  |some (.mp K' V' es)=>(match wC (S:=.sl (.pr K' V')) (.sl (.pr K V)) es with|some x=>af (x,0)|none=>ah)
  |_=>ah
 |.gone=>af ((),0)
def Ar (g:Nat->Nat) (h:bh):Nat->(bs:List PB)->Option ((PB.tyL bs).den×Nat)
 |_,[]=>af ((),0)
 |i,b::r=>match Ej g h i b with
  |some (x,m)=>(match Ar g h (i+1) r with|some (y,m')=>af (Tb b.ty (PB.tyL r) x y,m|||m')|none=>ah)
  |none=>ah
mutual
def pJ (g:Nat->Nat):(p:PV)->p.ty.den->Option (List TV)
 |.d T,x=>cellsOf 40 T x
 |.ptr i o,_=>af [.ptr (g i) o]
 |.row i,_=>af [.row (g i)]
 |.csl i s n,_=>af [.csl (g i) s n]
 |.mp i,_=>af [.mp (g i)]
 |.clo q i o,_=>af [.clo q [.ptr (g i) o]]
 |.nil,_=>af [.nil]
 |.emp,_=>af [.emp]
 |.agg ps,x=>qM g ps x
def qM (g:Nat->Nat):(ps:List PV)->(PV.tyL ps).den->Option (List TV)
 |[],_=>af []
 |p::r,x=>match pJ g p (NR p.ty (PV.tyL r) x) with
  |some a=>(match qM g r (Kv p.ty (PV.tyL r) x) with|some b=>af (a++b)|none=>ah)
  |none=>ah
end
def sX (g:Nat->Nat):(p:PV)->p.ty.den->Option TV
 |.d T,x=>af (.f T x)
 |.ptr i o,_=>af (.ptr (g i) o)
 |.row i,_=>af (.row (g i))
 |.csl i s n,_=>af (.csl (g i) s n)
 |.mp i,_=>af (.mp (g i))
 |.clo q i o,_=>af (.clo q [.ptr (g i) o])
 |.nil,_=>af .nil
 |.emp,_=>af .emp
 |.agg ps,x=>match qM g ps x with|some l=>af (.agg l)|none=>ah
def pQ (g:Nat->Nat):(ps:List PV)->(PV.tyL ps).den->Option (List TV)
 |[],_=>af []
 |p::r,x=>match sX g p (NR p.ty (PV.tyL r) x) with
  |some a=>(match pQ g r (Kv p.ty (PV.tyL r) x) with|some b=>af (a::b)|none=>ah)
  |none=>ah
def Ci (g:Nat->Nat):(b:PB)->b.ty.den->Option (Option ip)
 |.rows ty p T,x=>af (af (.rows ty p T x))
 |.rowsP ty T,x=>af (af (.rows ty x.1 T x.2))
 |.cells ty ps,x=>match qM g ps x with|some l=>af (af (.cells ty l))|none=>ah
 |.mp K V,x=>af (af (.mp K V x))
 |.gone,_=>af ah
def uP:ip->ip
 |.rows _ p T xs=>.dead p T.size xs.length
 |.cells _ _=>.dead ai 0 0
 |.mp _ _ _=>.dead ai 0 0
 |.dead p sz n=>.dead p sz n
def kill (h:bh) (i:Nat):bh:=match h.get i with
 |some b=>h.set i (af (uP b))
 |none=>h
def oo (g:Nat->Nat):(bs:List PB)->(PB.tyL bs).den->Option (List (Option ip))
 |[],_=>af []
 |b::r,x=>match Ci g b (NR b.ty (PB.tyL r) x) with
  |some c=>(match oo g r (Kv b.ty (PB.tyL r) x) with|some l=>af (c::l)|none=>ah)
  |none=>ah
def Ad (g:Nat->Nat):Nat->List (Option ip)->bh->bh
 |_,[],h=>h
 |i,af c::r,h=>Ad g (i+1) r (h.set (g i) (af c))
 |i,ah::r,h=>Ad g (i+1) r (kill h (g i))
def LX (g:Nat->Nat) (bs:List PB) (x:(PB.tyL bs).den) (h:bh):Option bh:=match oo g bs x with
 |some l=>af (Ad g 0 l h)
 |none=>ah
def vS {K V:Ty} (k:K.den):List (K.den×V.den)->Option V.den
 |[]=>ah
 |(k',v)::r=>if OU K k k' then af v else vS k r
def DX {K V:Ty} (k:K.den) (v:V.den):List (K.den×V.den)->List (K.den×V.den)
 |[]=>[(k,v)]
 |(k',I)::r=>if OU K k k' then (k,v)::r else (k',I)::DX k v r
def agf {K V:Ty} (k:K.den) (es:List (K.den×V.den)):Bool:=match vS k es with|some _=>ai|none=>aj
def vR {K V:Ty} (k:K.den) (es:List (K.den×V.den)) (z:V.den):V.den:=match vS k es with|some v=>v|none=>z
def ajm (T:Ty):Nat->Ty
 |0=>.un
 |1=>T
 |n+2=>.pr T (ajm T (n+1))
def kwT:Ty:=.st (ajm .str 22)
def kwV:kwT.den:=([118,97,114],[118,111,108,97,116,105,108,101],[109,117,116,101,120],[114,119,108,111,99,107],[99,111,110,100],[102,117,116,117,114,101],[116,104,114,101,97,100],[105,102],[101,108,115,101],[119,104,105,108,101],[108,111,99,107],[114,101,97,100],[119,114,105,116,101],[116,114,97,110,115,97,99,116,105,111,110],[97,116,111,109,105,99],[119,97,105,116],[110,111,116,105,102,121],[110,111,116,105,102,121,97,108,108],[115,112,97,119,110],[106,111,105,110],[115,101,116],[103,101,116])
@[simp] theorem cX {R:Type} (t f:Option R):bcase ai t f=t:=Eq.trans rfl rfl
@[simp] theorem c4 {R:Type} (t f:Option R):bcase aj t f=f:=Eq.trans rfl rfl
@[simp] theorem chk_t {R:Type} (k:ai=ai->Option R):chk ai k=k rfl:=Eq.trans rfl rfl
theorem cE {R:Type} {b:Bool} (h:b=ai) (k:Option R):chk b (λ_=>k)=k:=by cases b with|true=>rfl|false=>cases h
@[simp] theorem cW {α R:Type} (x:α) (k:α->Option R):obind (af x) k=k x:=Eq.trans rfl rfl
@[simp] theorem ju {α R:Type} (x:α) (k:α->Option R):jn (af (.inr x)) k=k x:=Eq.trans rfl rfl
@[simp] theorem jn_l {α R:Type} (r:R) (k:α->Option R):jn (af (.inl r)) k=af r:=Eq.trans rfl rfl
theorem acj {σ R:Type} {f:σ->Option (σ⊕R)} {n:Nat} {x:σ} {r:R} (h:iterN f n x=af r) (hn:n<=18446744073709551616):gk f x=af r:=yH h hn
theorem yG {σ R:Type} {f:σ->Option (σ⊕R)} (n:Nat) (hn:n<18446744073709551616) (st:Nat->σ) {r:R} (h0:∀ i,i<n->f (st i)=af (.inl (st (i+1)))) (h1:f (st n)=af (.inr r)):gk f (st 0)=af r:=by
 have key:∀ k i,i+k=n->iterN f (k+1) (st i)=af r:=by
  intro k;induction k with
  |zero=>intro i hi;have:i=n:=by omega
         subst this;simp only[iterN,h1]
  |succ k I=>intro i hi;rw[iterN,h0 i (by omega)];exact I (i+1) (by omega)
 exact acj (key n 0 (by omega)) (by omega)
@[simp] theorem Zw {a b:Int}:c5 a b=ai↔a<=b:=by unfold c5;simp
@[simp] theorem Zv {a b:Int}:fO a b=ai↔a<b:=by unfold fO;simp
theorem qN {a b:Int} (h:a<=b):c5 a b=ai:=Zw.2 h
theorem v7 {a b:Int} (h:a<b):fO a b=ai:=Zv.2 h
theorem VN {a b:Int} (h:b<a):c5 a b=aj:=by unfold c5;simp;omega
theorem xD {a b:Int} (h:b<=a):fO a b=aj:=by unfold fO;simp;omega
theorem ajt {j:Int} {n:Nat} (h0:0<=j) (h1:j<n):fI j n=ai:=by unfold fI;rw[qN h0,v7 h1];rfl
theorem c9 {j n:Nat} (h1:j<n):fI (j:Int) n=ai:=ajt (by omega) (by omega)
theorem wQ {n b:Nat} (h0:n<=1099511627776) (h1:n*b<=1099511627776):bd n b=ai:=by
 unfold bd;rw[bC h0,bC h1];rfl
theorem aer {n:Int} (h0: -9223372036854775808<=n) (h1:n<=9223372036854775807):bm .i64 n=n:=by
 rw[G0];unfold LL;simp only[];rw[qN h0,qN h1];rfl
theorem qR {i n:Nat} (h:i<n) (hn:n<=1099511627776):bm .i64 ((i:Int)+1)=((i+1:Nat):Int):=by
 rw[aer (by omega) (by omega)];omega
theorem yI (a b:Nat):ko (aO a) (aO b)=((max a b:Nat):Int):=by
 unfold ko;by_cases h:a<b
 .rw[v7 (by simp;omega),aE rfl];simp;omega
 .rw[xD (by simp;omega)];simp;omega
theorem ue {T:Ty} (xs:List T.den) (i:Nat):aJ xs (i:Int)=xs.getD i T.zero:=by unfold aJ;simp
theorem rz (xs:List (List Int)) (i:Nat):aJ (T:=.sl (.int .i64)) xs (i:Int)=xs.getD i []:=ue (T:=.sl (.int .i64)) xs i
theorem agk (xs:List Int) (i:Nat):aJ (T:=.int .i64) xs (i:Int)=xs.getD i 0:=ue (T:=.int .i64) xs i
theorem fZ {α:Type} (xs:List α) (i:Nat) (x:α):cO xs (i:Int) x=xs.set i x:=by unfold cO;simp
structure ct where
 pre:Tm
 post:Tm
 m:pre.ty.den->Option post.ty.den
mutual
def afe:PV->List TV->PT Nat->PT Nat×List TV
 |.d T,l,σ=>(σ,l.drop T.size)
 |.ptr i _,l,σ=>match l with|.ptr a _::r=>(σ.set i (af a),r)|l=>(σ,l.drop 1)
 |.row i,l,σ=>match l with|.row a::r=>(σ.set i (af a),r)|l=>(σ,l.drop 1)
 |.csl i _ _,l,σ=>match l with|.csl a _ _::r=>(σ.set i (af a),r)|l=>(σ,l.drop 1)
 |.mp i,l,σ=>match l with|.mp a::r=>(σ.set i (af a),r)|l=>(σ,l.drop 1)
 |.clo _ i _,l,σ=>match l with|.clo _ [.ptr a _]::r=>(σ.set i (af a),r)|l=>(σ,l.drop 1)
 |.nil,l,σ=>(σ,l.drop 1)
 |.emp,l,σ=>(σ,l.drop 1)
 |.agg ps,l,σ=>UR ps l σ
def UR:List PV->List TV->PT Nat->PT Nat×List TV
 |[],l,σ=>(σ,l)
 |p::r,l,σ=>match afe p l σ with|(σ',l')=>UR r l' σ'
end
def akd (p:PV) (v:TV) (σ:PT Nat):PT Nat:=match p with
 |.d _=>σ
 |p=>match v.cs with|some l=>(afe p l σ).1|none=>σ
def aa4:List PV->List TV->PT Nat->PT Nat
 |p::r,v::vs,σ=>aa4 r vs (akd p v σ)
 |_,_,σ=>σ
def US (h:bh):Nat->List PB->PT Nat->PT Nat
 |_,[],σ=>σ
 |i,b::r,σ=>US h (i+1) r (match b with
  |.cells _ ps=>(match σ.get i with
   |some a=>(match h.get a with|some (.cells _ l)=>(UR ps l σ).1|_=>σ)
   |none=>σ)
  |_=>σ)
def ic (σ:PT Nat) (i:Nat):Nat:=match σ.get i with|some a=>a|none=>0
def YS (σ:PT Nat):Nat->Nat->Nat->Option Nat
 |0,_,acc=>af acc
 |n+1,i,acc=>match σ.get i with
  |some a=>if aM acc a then ah else YS σ n (i+1) (acc|||kK a)
  |none=>ah
def idn:Nat->PT Nat
 |0=>.leaf
 |n+1=>(idn n).set n (af n)
def VX (σ:PT Nat):Nat->Bool
 |0=>ai
 |n+1=>(match σ.get n with|some a=>aC a n|none=>aj)&&VX σ n
structure afr (t:Tm) where
 x:t.ty.den
 m:Nat
 σ:PT Nat
 sm:Nat
def DY (np:Nat) (t:Tm) (vs:List TV) (h:bh):Option (afr t):=
 Qo (US h 0 t.bs (US h 0 t.bs (aa4 t.vs vs (idn np)))) λσ=>
 match YS σ t.bs.length 0 0 with
 |some sm=>(match xI (ic σ) h t.vs vs with
  |some (x,m)=>(match Ar (ic σ) h 0 t.bs with
   |some (y,m')=>if Dd (m|||m') sm&&VX σ np then af ⟨Tb _ _ x y,m|||m',σ,sm⟩ else ah
   |none=>ah)
  |none=>ah)
 |none=>ah
def PT.updI {α:Type} (f:Nat->α->α):Nat->Nat->PT α->PT α
 |_,_,.leaf=>.leaf
 |a,b,.node v l r=>.node (match v with|some x=>af (f b x)|none=>ah) (PT.updI f (2*a) (a+b) l) (PT.updI f (2*a) (2*a+b) r)
def eo (m:Nat) (h:bh):bh:=if aC m 0 then h else PT.updI (λi b=>if aM m i then uP b else b) 1 0 h
def Ti:Operand->Bool
 |.const (.agg _)=>ai
 |_=>aj
def fE (e:iN):Operand->Option TV
 |.tmp t=>e.get t
 |.const v=>agq v
 |.func g=>af (.clo g [])
 |.global g=>match G g with|some _=>af (.fel kwT [kwV] 0 (Eq.refl ai) 0)|none=>ah
def E7 (e:iN):List Operand->Option (List TV)
 |[]=>af []
 |x::xs=>match fE e x with|some y=>(match E7 e xs with|some I=>af (y::I)|none=>ah)|none=>ah
def IL (cells:List TV) (e:iN):List (Nat×Nat×Operand)->Option (List TV)
 |[]=>af cells
 |(off,sz,x)::r=>match fE e x with
  |some v=>(match v.cs with
   |some cs=>if cs.length==sz&&eC (off+sz) cells.length then IL (splice cells off cs) e r else ah
   |none=>ah)
  |none=>ah
def Sw (l:List TV) (off sz:Nat):Bool->Option TV
 |false=>if aC sz 1 then l[off]? else ah
 |true=>if eC (off+sz) l.length then af (.agg ((l.drop off).take sz)) else ah
def em (h:bh) (id:Nat):Option (Bool×Nat×Nat):=match h.get id with
 |some (.rows _ p T xs)=>af (p,T.size,xs.length)
 |some (.dead p sz n)=>af (p,sz,n)
 |_=>ah
def lenOf (h:bh):TV->Option Nat
 |.f (.sl _) xs=>af (al xs)
 |.emp=>af 0
 |.nil=>af 0
 |.row id=>match em h id with|some (_,_,n)=>af n|none=>ah
 |.csl _ _ n=>af n
 |_=>ah
mutual
def KC (h:bh):TV->Bool
 |.row id=>(em h id).isSome
 |.rtl id _=>(em h id).isSome
 |.agg l=>kM h l
 |.tup l=>kM h l
 |.clo _ l=>kM h l
 |.f _ _=>ai
 |.fel _ _ _ _ _=>ai
 |.pel _ _ _ _=>ai
 |.ptr _ _=>ai
 |.csl _ _ _=>ai
 |.emp=>ai
 |.nil=>ai
 |.mp _=>ai
 |.undef=>ai
 |.np=>ai
 |.anyb=>ai
def kM (h:bh):List TV->Bool
 |[]=>ai
 |x::r=>KC h x&&kM h r
end
mutual
def KF (n:Nat):TV->Bool
 |.row id=>gf id n
 |.rtl id _=>gf id n
 |.pel id _ _ _=>gf id n
 |.ptr id _=>gf id n
 |.csl id _ _=>gf id n
 |.mp id=>gf id n
 |.agg l=>rn n l
 |.tup l=>rn n l
 |.clo _ l=>rn n l
 |.f _ _=>ai
 |.fel _ _ _ _ _=>ai
 |.emp=>ai
 |.nil=>ai
 |.undef=>ai
 |.np=>ai
 |.anyb=>ai
def rn (n:Nat):List TV->Bool
 |[]=>ai
 |x::r=>KF n x&&rn n r
end
def Cx (t:Tm) (x:t.ty.den):Option (List TV×bh):=
 match pQ (λi=>i) t.vs (NR _ _ x) with
 |some vs=>(match LX (λi=>i) t.bs (Kv _ _ x) PT.leaf with
  |some h=>if kM h vs&&rn t.bs.length vs&&PT.all (λ_ b=>match b with|.cells _ l=>kM h l&&rn t.bs.length l|_=>ai) 1 0 h then af (vs,h) else ah
  |none=>ah)
 |none=>ah
abbrev KO (R:Type):=TV->Nat->Nat->bh->Nat->Option R
def Pj:List TV->TV
 |[x]=>x
 |l=>.tup l
def Bm:List PB->Bool
 |[]=>ai
 |.gone::_=>aj
 |_::r=>Bm r
def Hm:List PB->Bool
 |[]=>ai
 |.rows _ _ _::r=>Hm r
 |_::_=>aj
def tK (h h2:bh) (g:Nat->Nat):Nat->Bool
 |0=>ai
 |n+1=>(match em h (g n) with
  |some (p,s,k)=>(match em h2 (g n) with|some (I,s',k')=>(p==I)&&aC s s'&&aC k k'|none=>aj)
  |none=>ai)&&tK h h2 g n
def Wf {R:Type} (con:FuncId->Option ct) (f:FuncId) (l:List TV) (h:bh) (nx:Nat) (K:KO R):Option R:=
 match con f with
 |some c=>(match DY 0 c.pre l h with
  |some ⟨x,m,σ,sm⟩=>(match Cx c.pre x with
   |some _=>obind (c.m x) λy=>(match Cx c.post y with
    |some _=>if eC c.pre.bs.length c.post.bs.length&&Bm c.pre.bs then
      let np:=c.pre.bs.length
      let I:=c.post.bs.length-np
      let g:=λi=>if gf i np then ic σ i else nx+(i-np)
      (match pQ g c.post.vs (NR _ _ y) with
      |some rs=>if !(aC m 0)&&aC c.post.bs.length 0&&(PV.tyL c.post.vs).flat then K (Pj rs) m 0 h nx else
       (match LX g c.post.bs (Kv _ _ y) (eo m h) with
       |some h2=>chk (tK h h2 g np) λ_=>K (Pj rs) (sm|||m) (sm|||m|||(((1<<<I)-1)<<<nx)) h2 (nx+I)
       |none=>ah)
      |none=>ah) else if aC c.post.bs.length 0&&Hm c.pre.bs then
      let np:=c.pre.bs.length
      let g:=λi=>if gf i np then ic σ i else nx+(i-np)
      (match pQ g c.post.vs (NR _ _ y) with
      |some rs=>(match LX g c.pre.bs (Kv _ _ x) (eo m h) with
       |some h2=>K (Pj rs) (sm|||m) m h2 nx
       |none=>ah)
      |none=>ah) else ah
    |none=>ah)
   |none=>ah)
  |none=>ah)
 |none=>ah
def agw {R:Type} (op:BinOp) (x y:TV) (q:TV->Option R):Option R:=
 match x,y with
 |.f (.int k) a,.f (.int k') b=>if k==k' then
   (match op with
   |.add=>q (.f (.int k) (bm k (a+b)))
   |.sub=>q (.f (.int k) (bm k (a-b)))
   |.mul=>q (.f (.int k) (bm k (a*b)))
   |.rem=>chk (!decide ((b:Int)=0)) λ_=>q (.f (.int k) (zG a b))
   |.quo=>chk (!decide ((b:Int)=0)) λ_=>q (.f (.int k) (bm k (Int.tdiv a b)))
   |.eql=>q (.f .bool (decide ((a:Int)=b)))
   |.neq=>q (.f .bool (!decide ((a:Int)=b)))
   |.lss=>q (.f .bool (fO a b))
   |.leq=>q (.f .bool (c5 a b))
   |.gtr=>q (.f .bool (fO b a))
   |.geq=>q (.f .bool (c5 b a))
   |_=>ah)
  else ah
 |.f .str a,.f .str b=>match op with
   |.eql=>q (.f .bool (decide ((a:List UInt8)=b)))
   |.neq=>q (.f .bool (!decide ((a:List UInt8)=b)))
   |_=>ah
 |_,_=>ah
def WU:Bool->Ty->Bool
 |false,.int _=>ai
 |true,.str=>ai
 |_,_=>aj
abbrev itK:Ty:=.st (.pr .str (.int .i64))
def isIt:Ty->Bool
 |.st (.pr .str (.int .i64))=>ai
 |_=>aj
def S_ (K:Ty):Bool:= !isIt K
def OT:List ((List UInt8×Int)×Unit)->List UInt8
 |[]=>[]
 |e::_=>e.1.1
def No:List ((List UInt8×Int)×Unit)->Nat
 |[]=>0
 |e::_=>aU e.1.2
def itE:(K V:Ty)->List (K.den×V.den)->Option (List UInt8×Nat)
 |.st (.pr .str (.int .i64)),.un,es=>af (OT es,No es)
 |_,_,_=>ah
def mpE:(K V:Ty)->List (K.den×V.den)->Bool
 |.un,.un,[]=>ai
 |_,_,_=>aj
def yf (T:Ty):List TV->Option (List T.den)
 |[]=>af []
 |.f S v::r=>match wC (S:=S) T v with
  |some x=>(match yf T r with|some l=>af (x::l)|none=>ah)
  |none=>ah
 |_::_=>ah
def aa8:List TV->Option ((T:Ty)×List T.den)
 |.f T v::r=>match yf T (.f T v::r) with|some l=>af ⟨T,l⟩|none=>ah
 |_=>ah
def ajv (n sz:Nat) (v:TV):Bool->Option ((T:Ty)×List T.den)
 |true=>ah
 |false=>if aC sz 1&& !v.isC then (match v.cs with|some l=>if aC l.length n then aa8 l else ah|none=>ah) else ah
def arrB (n sz off:Nat):Option ip->Option ((T:Ty)×List T.den)
 |some (.cells _ l)=>if aC sz 1&&aC off 0&&aC l.length n then aa8 l else ah
 |_=>ah
def af8:Ty->Nat
 |.pr .un t=>af8 t+1
 |_=>0
def Dk:Option Ty->Option Nat
 |some (.pr .un t)=>af (af8 t)
 |_=>ah
def afb {R:Type} (ty:TypeId) (sz bytes:Nat) (b y:TV) (h:bh) (nx:Nat) (K:KO R):Option R:=match y with
 |.csl id2 sz2 m=>(match h.get id2 with
  |some (.cells _ l2)=>if aC sz2 sz&&aC l2.length (m*sz)&& !(aC m 0) then (match b with
   |.csl id sz1 n=>(match h.get id with
    |some (.cells ty1 l)=>if aC sz1 sz&&ty1==ty&&aC l.length (n*sz)&& !(aC id id2) then
      chk (bd (n+m) bytes) λ_=>K (.csl nx sz (n+m)) (kK id|||kK id2) (kK id|||kK nx) ((h.set id (af (.dead ai 0 0))).set nx (af (.cells ty (l++l2)))) (nx+1) else ah
    |_=>ah)
   |.nil=>chk (bd m bytes) λ_=>K (.csl nx sz m) (kK id2) (0|||kK nx) ((eo 0 h).set nx (af (.cells ty l2))) (nx+1)
   |_=>ah) else ah
  |_=>ah)
 |_=>ah
def pkT (ok:Bool) (v b:TV):TV:=match ok with|true=>.tup [v,b]|false=>v
def dS {R:Type} (con:FuncId->Option ct) (b9:TypeId->Option Ty) (o:SI) (e:iN) (h:bh) (nx:Nat) (K:KO R):Option R:=
 match o with
 |.call f args=>match E7 e args with|some l=>Wf con f l h nx K|none=>ah
 |.callv x args=>match fE e x,E7 e args with
  |some (.clo f cap),af l=>Wf con f (l++cap) h nx K
  |_,_=>ah
 |.op s=>match s with
  |.mksl ty sz bytes z l c=>match Dk (b9 ty) with
   |some n=>(match Jy z,fE e l,fE e c with
    |some J,af (.f (.int _) a),af (.f (.int _) b)=>chk (c5 0 a&&c5 a b&&bd (aU b) bytes&&decide ((a:Int)=aO n)) λ_=>K (.csl nx sz n) 0 (0|||kK nx) ((eo 0 h).set nx (af (.cells ty (aG n J).flatten))) (nx+1)
    |_,_,_=>ah)
   |none=>match b9 ty,fE e l,fE e c with
   |some T,af (.f (.int _) a),af (.f (.int _) b)=>if aC sz T.size&&RD z (sN T) then
     chk (c5 0 a&&c5 a b&&bd (aU b) bytes) λ_=>K (.row nx) 0 (kK nx) (h.set nx (af (.rows ty aj T (aG (aU a) T.zero)))) (nx+1) else ah
   |_,_,_=>ah
  |.bsl ty sz len z parts=>match Dk (b9 ty) with
   |some _=>(match Jy z with
    |some J=>(match IL ((aG len J).flatten) e parts with
     |some cs=>if aC len 0 then ah else K (.csl nx sz len) 0 (0|||kK nx) ((eo 0 h).set nx (af (.cells ty cs))) (nx+1)
     |none=>ah)
    |none=>ah)
   |none=>match b9 ty,Jy z with
   |some T,af J=>if aC sz T.size then (match IL ((aG len J).flatten) e parts with
    |some cs=>(match yo h T len cs with
     |some (xs,m)=>K (.row nx) m (m|||kK nx) ((eo m h).set nx (af (.rows ty (aC len 0) T xs))) (nx+1)
     |none=>ah)
    |none=>ah) else ah
   |_,_=>ah
  |.app ty sz bytes s x=>match Dk (b9 ty) with
   |some _=>(match fE e s,fE e x with
    |some b,af y=>afb ty sz bytes b y h nx K
    |_,_=>ah)
   |none=>match b9 ty,fE e s,fE e x with
   |some T,af b,af y=>if aC sz T.size then (match Ds h (.sl T) y with
    |some (I,m)=>(match b with
     |.row id=>(match h.get id with
      |some (.rows ty' p S xs)=>(match wC (S:=.sl S) (.sl T) xs with
       |some xs=>if ty'==ty&& !(aM m id) then
         chk (bd (al xs+al I) bytes) λ_=>K (.row nx) (kK id|||m) (kK id|||kK nx) ((h.set id (af (.dead p sz (al xs)))).set nx (af (.rows ty p T (xs++I)))) (nx+1)
        else ah
       |none=>ah)
      |_=>ah)
     |.emp=>chk (bd (al I) bytes) λ_=>K (.row nx) m (kK nx) (h.set nx (af (.rows ty ai T I))) (nx+1)
     |.nil=>chk (bd (al I) bytes) λ_=>K (.row nx) m (kK nx) (h.set nx (af (.rows ty ai T I))) (nx+1)
     |_=>ah)
    |none=>ah) else ah
   |_,_,_=>ah
  |.copy sz d x=>match fE e d,fE e x with
   |some (.row id),af y=>(match h.get id with
    |some (.rows ty p T xs)=>if aC sz T.size then (match Ds h (.sl T) y with
     |some (I,m)=>if !(aM m id)&& !p then
       K (.f (.int .i64) (aO (iQ (al I) (al xs)))) (kK id|||m) (kK id) (h.set id (af (.rows ty p T (Sn xs I)))) nx else ah
     |none=>ah) else ah
    |_=>ah)
   |_,_=>ah
  |.clr sz z x=>match fE e x with
   |some (.rtl id j)=>(match h.get id with
    |some (.rows ty p T xs)=>if (aC sz T.size&&RD z (sN T))&&mr z then
      chk (c5 0 j&&fO j (al xs)) λ_=>K (.tup []) (kK id) (0|||kK id) ((eo 0 h).set id (af (.rows ty p T (dM (aU j) xs++aG (al xs-aU j) T.zero)))) nx
     else ah
    |_=>ah)
   |_=>ah
  |.mv x=>match fE e x with|some v=>K v 0 0 h nx|none=>ah
  |.pick c a b=>match fE e c with
   |some (.f .bool t)=>bcase t (match fE e a with|some v=>K v 0 0 h nx|none=>ah) (match fE e b with|some v=>K v 0 0 h nx|none=>ah)
   |_=>ah
  |.alloc ty z=>match Jy z with
   |some l=>K (.ptr nx 0) 0 (kK nx) (h.set nx (af (.cells ty l))) (nx+1)
   |none=>ah
  |.box ty x=>match fE e x with
   |some v=>(match v.cs with|some l=>K (.ptr nx 0) 0 (kK nx) (h.set nx (af (.cells ty l))) (nx+1)|none=>ah)
   |none=>ah
  |.build z parts=>match Jy z with
   |some l=>(match IL l e parts with|some cs=>K (.agg cs) 0 0 h nx|none=>ah)
   |none=>ah
  |.load sz ag x=>match fE e x with
   |some (.ptr id off)=>(match h.get id with
    |some (.cells _ l)=>(match Sw l off sz ag with|some v=>K v (kK id) 0 h nx|none=>ah)
    |_=>ah)
   |some (.pel id sz' j off)=>(match h.get id with
    |some (.rows _ _ T xs)=>if aC sz' T.size then chk (fI j xs.length) λ_=>(match nR 40 T (aJ xs j) off sz ag with|some v=>K v (kK id) 0 h nx|none=>ah) else ah
    |some (.cells _ l)=>(match ag with
     |true=>ah
     |false=>if aC sz 1&&aC sz' 1&&aC off 0 then (match aa8 l with
      |some ⟨T,xs⟩=>chk (fI j l.length) λ_=>K (.f T (aJ xs j)) (kK id) 0 h nx
      |none=>ah) else ah)
    |_=>ah)
   |some (.fel T xs j _ off)=>(match nR 40 T (aJ xs j) off sz ag with|some v=>K v 0 0 h nx|none=>ah)
   |_=>ah
  |.store sz x v=>match fE e x,fE e v with
   |some (.ptr id off),af y=>(match h.get id with
    |some (.cells ty l)=>(match y.cs with
     |some cs=>if cs.length==sz&&eC (off+sz) l.length then K .undef (kK id) (kK id) (h.set id (af (.cells ty (splice l off cs)))) nx else ah
     |none=>ah)
    |_=>ah)
   |some (.pel id sz' j off),af y=>(match h.get id with
    |some (.rows ty p T xs)=>if aC sz' T.size then chk (fI j xs.length) λ_=>(match gP h y 40 T (aJ xs j) off sz with
     |some (z,m)=>if aM m id then ah else K .undef (m|||kK id) (m|||kK id) ((eo m h).set id (af (.rows ty p T (cO xs j z)))) nx
     |none=>ah) else ah
    |some (.cells ty l)=>if aC sz 1&&(aC sz' 1&&aC off 0) then chk (fI j l.length) λ_=>(match y.cs with
     |some cs=>if aC cs.length 1 then K .undef (kK id) (kK id) (h.set id (af (.cells ty (splice l j.toNat cs)))) nx else ah
     |none=>ah) else ah
    |_=>ah)
   |_,_=>ah
  |.nilc x=>match fE e x with
   |some (.ptr id off)=>K (.ptr id off) 0 0 h nx
   |some (.pel id sz j off)=>K (.pel id sz j off) 0 0 h nx
   |some (.fel T xs j hj off)=>K (.fel T xs j hj off) 0 0 h nx
   |some (.clo g cap)=>K (.clo g cap) 0 0 h nx
   |_=>ah
  |.bin op x y=>match fE e x,fE e y with
   |some u,af v=>agw op u v λr=>K r 0 0 h nx
   |_,_=>ah
  |.eqs neg ds x y=>match qO ds,fE e x,fE e y with
   |some T,af u,af v=>if u.isC||v.isC||Ti x||Ti y then ah else (match u.cs,v.cs with
    |some lu,af lv=>(match eT PT.leaf 40 T lu,eT PT.leaf 40 T lv with
     |some (a,_,[]),af (b,_,[])=>K (.f .bool (OU T a b !=neg)) 0 0 h nx
     |_,_=>ah)
    |_,_=>ah)
   |_,_,_=>ah
  |.isnil neg x=>match fE e x with
   |some .nil=>K (.f .bool (!neg)) 0 0 h nx
   |some .emp=>K .anyb 0 0 h nx
   |some (.f (.sl _) xs)=>bcase (aC (al xs) 0) (K .anyb 0 0 h nx) (K (.f .bool neg) 0 0 h nx)
   |some (.row id)=>(match h.get id with
    |some (.rows _ aj _ _)=>K (.f .bool neg) 0 0 h nx
    |_=>ah)
   |_=>ah
  |.eqb neg x y=>match fE e x,fE e y with
   |some (.f .bool a),af (.f .bool b)=>K (.f .bool ((a==b) !=neg)) 0 0 h nx
   |_,_=>ah
  |.not x=>match fE e x with|some (.f .bool b)=>K (.f .bool (!b)) 0 0 h nx|_=>ah
  |.conv k x=>match fE e x with|some (.f (.int _) n)=>K (.f (.int k) (bm k n)) 0 0 h nx|_=>ah
  |.slc sz x lo hi mx=>match fE e x with
   |some v=>(match lo,hi,mx with
    |none,af (.const (.int _ 0)),af (.const (.int _ 0))=>if (lenOf h v).isSome then K .emp 0 0 h nx else ah
    |none,af b,ah=>(match v,fE e b with
     |.f (.sl T) xs,af (.f (.int _) j)=>if aC sz T.size then chk (c5 0 j&&c5 j (al xs)) λ_=>K (.f (.sl T) (dM (aU j) xs)) 0 0 h nx else ah
     |.row id,af (.f (.int _) j)=>(match h.get id with
      |some (.rows ty p T xs)=>if aC sz T.size then
        chk (c5 0 j&&fO j (al xs)) λ_=>K (.row nx) (kK id) (kK id|||kK nx) ((h.set id (af (.dead p sz (al xs)))).set nx (af (.rows ty aj T (dM (aU j) xs)))) (nx+1)
       else ah
      |_=>ah)
     |_,_=>ah)
    |some b,ah,ah=>(match v,fE e b with
     |.f (.sl T) xs,af (.f (.int _) j)=>if aC sz T.size then chk (c5 0 j&&c5 j (al xs)) λ_=>K (.f (.sl T) (List.drop (aU j) xs)) 0 0 h nx else ah
     |.row id,af (.f (.int _) j)=>(match h.get id with
      |some (.rows _ _ T xs)=>if aC sz T.size then chk (c5 0 j&&fO j (al xs)) λ_=>K (.rtl id j) 0 0 h nx else ah
      |_=>ah)
     |_,_=>ah)
    |_,_,_=>ah)
   |none=>ah
  |.fad off x=>match fE e x with
   |some (.ptr id o)=>K (.ptr id (o+off)) 0 0 h nx
   |some (.pel id sz j o)=>K (.pel id sz j (o+off)) 0 0 h nx
   |some (.fel T xs j hj o)=>K (.fel T xs j hj (o+off)) 0 0 h nx
   |_=>ah
  |.fld off sz ag x=>match fE e x with
   |some (.agg l)=>(match Sw l off sz ag with|some v=>K v 0 0 h nx|none=>ah)
   |some (.f T v)=>if T.one then ah else (match nR 40 T v off sz ag with|some v=>K v 0 0 h nx|none=>ah)
   |_=>ah
  |.iad sz x i=>match fE e x,fE e i with
   |some (.row id),af (.f (.int _) j)=>(match h.get id with
    |some (.rows _ _ T xs)=>if aC sz T.size then chk (fI j xs.length) λ_=>K (.pel id sz j 0) 0 0 h nx else ah
    |_=>ah)
   |some (.f (.sl T) xs),af (.f (.int _) j)=>if aC sz T.size then chk (fI j (al xs)) λhj=>K (.fel T xs j hj 0) 0 0 h nx else ah
   |some (.csl id sz' n),af (.f (.int _) j)=>if aC sz' sz then chk (c5 0 j&&fO j n) λ_=>K (.ptr id (aU j*sz)) 0 0 h nx else ah
   |_,_=>ah
  |.iada n sz x i=>match fE e x,fE e i with
   |some (.ptr id off),af (.f (.int _) j)=>(match arrB n sz off (h.get id) with
    |some _=>chk (c5 0 j&&fO j n) λ_=>K (.pel id sz j off) 0 0 h nx
    |none=>chk (c5 0 j&&fO j n) λ_=>K (.ptr id (off+aU j*sz)) 0 0 h nx)
   |_,_=>ah
  |.idx n sz ag x i=>match fE e x,fE e i with
   |some v,af (.f (.int _) j)=>(match ajv n sz v ag with
    |some ⟨T,xs⟩=>chk (c5 0 j&&fO j n) λ_=>K (.f T (aJ xs j)) 0 0 h nx
    |none=>(match v with
     |.agg l=>chk (c5 0 j&&fO j n) λ_=>(match Sw l (aU j*sz) sz ag with|some v=>K v 0 0 h nx|none=>ah)
     |.f T v=>if T.one then ah else chk (c5 0 j&&fO j n) λ_=>(match nR 40 T v (aU j*sz) sz ag with|some v=>K v 0 0 h nx|none=>ah)
     |_=>ah))
   |_,_=>ah
  |.ext x i=>match fE e x with|some (.tup l)=>(match l[i]? with|some v=>K v 0 0 h nx|none=>ah)|_=>ah
  |.len x=>match fE e x with
   |some v=>(match lenOf h v with|some n=>K (.f (.int .i64) (aO n)) 0 0 h nx|none=>ah)
   |none=>ah
  |.lens x=>match fE e x with
   |some (.f .str s)=>K (.f (.int .i64) (aO (al s))) 0 0 h nx
   |_=>ah
  |.max x y=>match fE e x,fE e y with
   |some (.f (.int k) a),af (.f (.int k') b)=>if k==k' then K (.f (.int k) (ko a b)) 0 0 h nx else ah
   |_,_=>ah
  |.min x y=>match fE e x,fE e y with
   |some (.f (.int k) a),af (.f (.int k') b)=>if k==k' then K (.f (.int k) (Gh a b)) 0 0 h nx else ah
   |_,_=>ah
  |.sidx x i=>match fE e x,fE e i with
   |some (.f .str s),af (.f (.int _) j)=>chk (fI j (al s)) λ_=>K (.f (.int .u8) (zY s j)) 0 0 h nx
   |_,_=>ah
  |.rng x=>match fE e x with
   |some (.f .str s)=>K (.ptr nx 0) 0 (0|||kK nx) ((eo 0 h).set nx (af (.mp itK .un [((s,0),())]))) (nx+1)
   |_=>ah
  |.nxt x=>match fE e x with
   |some (.ptr id 0)=>(match h.get id with
    |some (.mp K' V es)=>(match itE K' V es with
     |some (s,p)=>bcase (gf p (al s)) (chk (fO (zY s (aO p)) 128) λ_=>K (.tup [.f .bool ai,.f (.int .i64) (aO p),.f (.int .i32) (zY s (aO p))]) (kK id) (0|||kK id) ((eo 0 h).set id (af (.mp itK .un [((s,aO (p+1)),())]))) nx)
       (K (.tup [.f .bool aj]) (kK id) (0|||kK id) ((eo 0 h).set id (af (.mp itK .un [((s,aO p),())]))) nx)
     |none=>ah)
    |_=>ah)
   |_=>ah
  |.mkm=>K (.mp nx) 0 (0|||kK nx) ((eo 0 h).set nx (af (.mp .un .un []))) (nx+1)
  |.lku str ok z x k=>match fE e x,fE e k with
   |some (.mp id),af (.f KT M)=>(match h.get id with
    |some (.mp K' V es)=>if WU str KT&&S_ K' then (match mpE K' V es with
     |true=>(match cst z with|some v=>K (pkT ok v (.f .bool aj)) (kK id) 0 h nx|none=>ah)
     |false=>(match wC (S:=KT) K' M,cst z with
      |some kv',af (.f Z Y)=>(match wC (S:=Z) V Y with
       |some zv'=>K (pkT ok (.f V (vR kv' es zv')) (.f .bool (agf kv' es))) (kK id) 0 h nx
       |none=>ah)
      |_,_=>ah)) else ah
    |_=>ah)
   |_,_=>ah
  |.mup str x k v=>match fE e x,fE e k,fE e v with
   |some (.mp id),af (.f KT M),af (.f VT U)=>(match h.get id with
    |some (.mp K' V es)=>if (WU str KT&&VT.one)&&S_ K' then (match mpE K' V es with
     |true=>K .undef (kK id) (0|||kK id) ((eo 0 h).set id (af (.mp KT VT [(M,U)]))) nx
     |false=>(match wC (S:=KT) K' M,wC (S:=VT) V U with
      |some kv',af vv'=>K .undef (kK id) (0|||kK id) ((eo 0 h).set id (af (.mp K' V (DX kv' vv' es)))) nx
      |_,_=>ah)) else ah
    |_=>ah)
   |_,_,_=>ah
  |.lenm x=>match fE e x with
   |some (.mp id)=>(match h.get id with
    |some (.mp K' _ es)=>if S_ K' then K (.f (.int .i64) (aO es.length)) (kK id) 0 h nx else ah
    |_=>ah)
   |_=>ah
  |.mkf f caps=>match E7 e caps with|some l=>K (.clo f l) 0 0 h nx|none=>ah
  |_=>ah
def YE {R:Type} (e:iN) (g:Option (Nat×Bool)) (K:Bool->iN->Option R):Option R:=match g with
 |none=>K ai e
 |some (t,want)=>match e.get t with
  |some (.f .bool b)=>(match want with
   |true=>bcase b (K ai (e.set t (af (.f .bool ai)))) (K aj (e.set t (af (.f .bool aj))))
   |false=>bcase b (K aj (e.set t (af (.f .bool ai)))) (K ai (e.set t (af (.f .bool aj)))))
  |some .undef=>K aj e
  |_=>ah
def DO (e:iN) (d:Option Nat) (v:TV):iN:=match d with
 |none=>e
 |some d=>e.set d (af v)
structure TS where
 e:iN
 h:bh
 nx:Nat
def Kz {R:Type} (con:FuncId->Option ct) (b9:TypeId->Option Ty):List su->TS->List FPm->(TS->List FPm->Option R)->Option R
 |[],s,fs,K=>K s fs.reverse
 |o::r,s,fs,K=>YE s.e o.guard λrun e=>match run with
  |true=>dS con b9 o.op e s.h s.nx λv rd wr h nx=>if KC h v then Kz con b9 r ⟨DO e o.dst v,h,nx⟩ (⟨rd,wr⟩::fs) K else ah
  |false=>Kz con b9 r ⟨DO e o.dst .undef,s.h,s.nx⟩ (⟨0,0⟩::fs) K
inductive Adj where
 |nil (k:Nat) (ty:TypeId) (T:Ty)
 |cel (k:Nat) (off:Nat) (ty:TypeId) (T:Ty)
 |mpt (k:Nat) (K V:Ty)
 |pk (k:Nat) (off:Nat) (T:Ty)
 |ren (k:Nat) (off:Nat)
mutual
def Ku (id sz n:Nat):TV->TV
 |.csl i s m=>if aC i id&&aC s sz&&aC m n then .row id else .csl i s m
 |.agg l=>.agg (B6 id sz n l)
 |.tup l=>.tup (B6 id sz n l)
 |.clo g l=>.clo g (B6 id sz n l)
 |.f T v=>.f T v
 |.fel T xs j h off=>.fel T xs j h off
 |.pel a b c d=>.pel a b c d
 |.ptr a b=>.ptr a b
 |.row a=>.row a
 |.rtl a j=>.rtl a j
 |.emp=>.emp
 |.nil=>.nil
 |.mp a=>.mp a
 |.undef=>.undef
 |.np=>.np
 |.anyb=>.anyb
def B6 (id sz n:Nat):List TV->List TV
 |[]=>[]
 |x::r=>Ku id sz n x::B6 id sz n r
end
def WA (id sz n:Nat):ip->ip
 |.cells ty l=>.cells ty (B6 id sz n l)
 |.rows ty p T xs=>.rows ty p T xs
 |.dead p s m=>.dead p s m
 |.mp K V es=>.mp K V es
def akc (s:TS) (k off:Nat):Option (Nat×Nat×Nat):=match s.e.get k with
 |some (.csl id sz n)=>af (id,sz,n)
 |some (.agg l)=>(match l[off]? with|some (.csl id sz n)=>af (id,sz,n)|_=>ah)
 |some (.ptr a o)=>(match s.h.get a with
  |some (.cells _ l)=>(match l[o+off]? with|some (.csl id sz n)=>af (id,sz,n)|_=>ah)
  |_=>ah)
 |_=>ah
def pkS (s:TS) (T:Ty) (id sz n:Nat):Option TS:=match s.h.get id with
 |some (.cells ty l)=>if aC sz T.size then (match yo s.h T n l with
  |some (xs,m)=>if aM m id then ah else af ⟨PT.updI (λ_ v=>Ku id sz n v) 1 0 s.e,(PT.updI (λ_ b=>WA id sz n b) 1 0 (eo m s.h)).set id (af (.rows ty aj T xs)),s.nx⟩
  |none=>ah) else ah
 |_=>ah
def ack:TV->Bool
 |.nil=>ai
 |.emp=>ai
 |_=>aj
def ajl:Option TV->Option (Nat×Nat)
 |some (.ptr id o)=>af (id,o)
 |some (.csl id _ _)=>af (id,0)
 |_=>ah
def OC (s:TS):Adj->Option TS
 |.nil k ty T=>match s.e.get k with
  |some v=>if ack v then af ⟨s.e.set k (af (.row s.nx)),s.h.set s.nx (af (.rows ty ai T [])),s.nx+1⟩ else af s
  |none=>ah
 |.cel k off ty T=>match ajl (s.e.get k) with
  |some (id,o)=>(match s.h.get id with
   |some (.cells cty l)=>(match l[o+off]? with
    |some v=>if ack v then af ⟨s.e,(s.h.set s.nx (af (.rows ty ai T []))).set id (af (.cells cty (splice l (o+off) [.row s.nx]))),s.nx+1⟩ else af s
    |none=>ah)
   |_=>ah)
  |_=>ah
 |.mpt k K V=>match s.e.get k with
  |some (.mp id)=>(match s.h.get id with
   |some (.mp K' V' es)=>(match mpE K' V' es&&S_ K with
    |true=>af ⟨s.e,s.h.set id (af (.mp K V [])),s.nx⟩
    |false=>af s)
   |_=>ah)
  |_=>ah
 |.pk k off T=>match akc s k off with
  |some (id,sz,n)=>pkS s T id sz n
  |none=>ah
 |.ren k off=>match s.e.get k with
  |some (.ptr b o)=>(match s.h.get b with
   |some (.cells cty l)=>(match l[o+off]? with
    |some (.row id)=>(match s.h.get id with
     |some (.rows ty p T xs)=>af ⟨s.e,((s.h.set id (af (.dead p T.size xs.length))).set s.nx (af (.rows ty p T xs))).set b (af (.cells cty (splice l (o+off) [.row s.nx]))),s.nx+1⟩
     |_=>ah)
    |_=>ah)
   |_=>ah)
  |some (.row id)=>(match s.h.get id with
   |some (.rows ty p T xs)=>af ⟨s.e.set k (af (.row s.nx)),(s.h.set id (af (.dead p T.size xs.length))).set s.nx (af (.rows ty p T xs)),s.nx+1⟩
   |_=>ah)
  |_=>ah
def XS (s:TS):List Adj->Option TS
 |[]=>af s
 |a::r=>match OC s a with|some s'=>XS s' r|none=>ah
structure Yy where
 keep:List Nat
 ks:List Nat
 t:Tm
 pre:List Adj
abbrev Yy.D (A:Yy):Type:=A.t.ty.den
mutual
def t7:TV->Bool
 |.f _ _=>ai
 |.fel _ _ _ _ _=>ai
 |.emp=>ai
 |.nil=>ai
 |.undef=>ai
 |.np=>ai
 |.anyb=>ai
 |.agg l=>qj l
 |.tup l=>qj l
 |.pel _ _ _ _=>aj
 |.ptr _ _=>aj
 |.csl _ _ _=>aj
 |.row _=>aj
 |.rtl _ _=>aj
 |.mp _=>aj
 |.clo _ _=>aj
def qj:List TV->Bool
 |[]=>ai
 |x::r=>t7 x&&qj r
end
def Cw (am:Nat) (e:iN):List Nat->iN
 |[]=>PT.leaf
 |k::r=>match e.get k with|some v=>if t7 v&& !(aM am k) then (Cw am e r).set k (af v) else Cw am e r|none=>Cw am e r
def nL (e:iN):List Nat->Option (List TV)
 |[]=>af []
 |k::r=>match e.get k with|some v=>(match nL e r with|some l=>af (v::l)|none=>ah)|none=>ah
def WD (e:iN):List Nat->List TV->iN
 |k::r,v::l=>(WD e r l).set k (af v)
 |_,_=>e
def G_ (am:Nat) (e0 e:iN):List Nat->Bool
 |[]=>ai
 |k::r=>(match e0.get k with
  |some v=> !(t7 v)||aM am k||(match e.get k with|some _=>ai|none=>aj)
  |none=>ai)&&G_ am e0 e r
def Lb (np:Nat) (A:Yy) (am:Nat) (I s:TS):Option A.D:=if eC np A.t.bs.length&&G_ am I.e s.e A.keep then (match XS s A.pre with
 |some s=>(match nL s.e A.ks with
  |some vs=>(match DY np A.t vs s.h with
   |some ⟨x,_,_,_⟩=>af x
   |none=>ah)
  |none=>ah)
 |none=>ah) else ah
def F' (A:Yy) (am:Nat) (s:TS) (x:A.D):Option TS:=match Cx A.t x with
 |some (vs,h)=>if aC vs.length A.ks.length then af ⟨WD (Cw am s.e A.keep) A.ks vs,h,A.t.bs.length⟩ else ah
 |none=>ah
inductive TC where
 |skip
 |reg (ops:List su) (prs:List (Nat×Nat))
 |seq (a b:TC)
 |jseq (A:Yy) (a b:TC)
 |cond (c:Nat) (a b:TC)
 |block (id:Nat) (b:TC)
 |jblock (A:Yy) (id:Nat) (b:TC)
 |loop (A:Yy) (b:TC)
 |exit (id:Nat)
 |ret
 |defer (f:FuncId) (caps:List Operand) (t:Nat)
 |adj (l:List Adj) (c:TC)
 |split (k off lo n:Nat) (c:TC)
 |unl (n:Nat) (b:TC)
 |bad
def Ox:List su->Nat->Nat
 |[],acc=>acc
 |o::r,acc=>Ox r (match o.dst with|some d=>acc|||kK d|none=>acc)
def KH:List Nat->Nat->Nat
 |[],acc=>acc
 |k::r,acc=>KH r (acc|||kK k)
def oc:List Adj->Nat->Nat
 |[],acc=>acc
 |.nil k _ _::r,acc=>oc r (acc|||kK k)
 |.cel _ _ _ _::r,acc=>oc r acc
 |.mpt _ _ _::r,acc=>oc r acc
 |.pk _ _ _::r,acc=>oc r acc
 |.ren k _::r,acc=>oc r (acc|||kK k)
def TC.asg:TC->Nat->Nat
 |.reg ops _,acc=>Ox ops acc
 |.seq a b,acc=>b.asg (a.asg acc)
 |.jseq A a b,acc=>b.asg (a.asg (KH A.ks acc))
 |.cond _ a b,acc=>b.asg (a.asg acc)
 |.block _ b,acc=>b.asg acc
 |.jblock A _ b,acc=>b.asg (KH A.ks acc)
 |.loop A b,acc=>b.asg (KH A.ks acc)
 |.defer _ _ t,acc=>acc|||kK t
 |.adj l c,acc=>c.asg (oc l acc)
 |.split _ _ _ _ c,acc=>c.asg acc
 |.unl _ b,acc=>b.asg acc
 |.skip,acc=>acc
 |.exit _,acc=>acc
 |.ret,acc=>acc
 |.bad,acc=>acc
inductive ab4 where
 |j (A:Yy)
 |a (l:List Adj)
 |s (k off lo n:Nat)
 |u (n:Nat)
def Hs (H:PT ab4) (n:Nat) (c:TC):TC:=match H.get n with|some (.a l)=>.adj l c|some (.s k off lo m)=>.split k off lo m c|_=>c
def Dg (H:PT ab4):SC->Nat->TC×Nat
 |.skip,n=>(Hs H n .skip,n+1)
 |.reg o p,n=>(Hs H n (.reg o p),n+1)
 |.seq a b,n=>match Dg H a (n+1) with
  |(a',k)=>(match Dg H b k with|(b',k')=>((match H.get n with|some (.j A)=>.jseq A a' b'|_=>.seq a' b'),k'))
 |.cond c a b,n=>match Dg H a (n+1) with
  |(a',k)=>(match Dg H b k with|(b',k')=>(Hs H n (.cond c a' b'),k'))
 |.block id b,n=>match Dg H b (n+1) with|(b',k)=>((match H.get n with|some (.j A)=>.jblock A id b'|_=>.block id b'),k)
 |.loop b,n=>match Dg H b (n+1) with|(b',k)=>((match H.get n with|some (.j A)=>.loop A b'|some (.u m)=>.unl m b'|_=>.bad),k)
 |.exit id,n=>(Hs H n (.exit id),n+1)
 |.ret,n=>(Hs H n .ret,n+1)
 |.defer f c t,n=>(.defer f c t,n+1)
 |.bad,n=>(.bad,n+1)
def Zr (s:TS) (k off:Nat):Option (IntKind×Int):=match s.e.get k with
 |some (.f (.int kd) v)=>af (kd,v)
 |some (.ptr a o)=>(match s.h.get a with
  |some (.cells _ l)=>(match l[o+off]? with|some (.f (.int kd) v)=>af (kd,v)|_=>ah)
  |_=>ah)
 |_=>ah
def SD (s:TS) (k off:Nat) (kd:IntKind) (v:Int):Option TS:=match s.e.get k with
 |some (.f (.int _) _)=>af ⟨s.e.set k (af (.f (.int kd) v)),s.h,s.nx⟩
 |some (.ptr a o)=>(match s.h.get a with
  |some (.cells ty l)=>af ⟨s.e,s.h.set a (af (.cells ty (splice l (o+off) [.f (.int kd) v]))),s.nx⟩
  |_=>ah)
 |_=>ah
def spl {R:Type} (v:Int) (f:Nat->Option R):Nat->Nat->Option R
 |_,0=>ah
 |i,m+1=>bcase (decide ((v:Int)=aO i)) (f i) (spl v f (i+1) m)
def abs {R:Type} (f:TS->(Ex->TS->Option R)->Option R):Nat->TS->(Ex->TS->Option R)->Option R
 |0,_,_=>ah
 |m+1,s,K=>f s λex s'=>match ex with
  |.normal=>abs f m s' K
  |ex=>K ex s'
def oX {R:Type} (np:Nat) (con:FuncId->Option ct) (b9:TypeId->Option Ty) (inert:FuncId->Bool):TC->TS->(Ex->TS->Option R)->Option R
 |.skip,s,K=>K .normal s
 |.reg ops prs,s,K=>Kz con b9 ops s [] λs' fs=>if E6 fs prs then K .normal s' else ah
 |.seq a b,s,K=>oX np con b9 inert a s λex s'=>match ex with|.normal=>oX np con b9 inert b s' K|ex=>K ex s'
 |.jseq A a b,s,K=>jn (oX np con b9 inert a s λex s'=>match ex with
   |.normal=>obind (Lb np A (a.asg 0) s s') λx=>af (.inr x)
   |ex=>obind (K ex s') λr=>af (.inl r)) λx=>(match F' A (a.asg 0) s x with|some s'=>oX np con b9 inert b s' K|none=>ah)
 |.cond c a b,s,K=>match s.e.get c with
  |some (.f .bool t)=>bcase t (oX np con b9 inert a s K) (oX np con b9 inert b s K)
  |some .anyb=>EJ (oX np con b9 inert a s K) (oX np con b9 inert b s K)
  |_=>ah
 |.block id b,s,K=>oX np con b9 inert b s λex s'=>match ex with
  |.exit i=>if aC i id then K .normal s' else K (.exit i) s'
  |ex=>K ex s'
 |.jblock A id b,s,K=>jn (oX np con b9 inert b s λex s'=>match ex with
   |.normal=>obind (Lb np A (b.asg 0) s s') λx=>af (.inr x)
   |.exit i=>if aC i id then obind (Lb np A (b.asg 0) s s') λx=>af (.inr x) else obind (K (.exit i) s') λr=>af (.inl r)
   |.ret=>obind (K .ret s') λr=>af (.inl r)) λx=>(match F' A (b.asg 0) s x with|some s'=>K .normal s'|none=>ah)
 |.loop A b,s,K=>obind (Lb np A (b.asg 0) s s) λx=>iter (λx=>match F' A (b.asg 0) s x with
   |some s'=>oX np con b9 inert b s' λex s'=>(match ex with
    |.normal=>obind (Lb np A (b.asg 0) s s') λy=>af (.inl y)
    |ex=>obind (K ex s') λr=>af (.inr r))
   |none=>ah) x
 |.exit id,s,K=>K (.exit id) s
 |.ret,s,K=>K .ret s
 |.defer f caps t,s,K=>match E7 s.e caps with
  |some l=>if inert f then K .normal ⟨s.e.set t (af (.clo f l)),s.h,s.nx⟩ else ah
  |none=>ah
 |.adj l c,s,K=>match XS s l with|some s'=>oX np con b9 inert c s' K|none=>ah
 |.split k off lo n c,s,K=>match Zr s k off with
  |some (kd,v)=>spl v (λi=>match SD s k off kd (aO i) with|some s'=>oX np con b9 inert c s' K|none=>ah) lo n
  |none=>ah
 |.unl n b,s,K=>abs (λs K=>oX np con b9 inert b s K) n s K
 |.bad,_,_=>ah
def J0:Nat->List TV->iN
 |_,[]=>PT.leaf
 |k,x::r=>(J0 (k+1) r).set k (af x)
def rvT (s:TS):RV->Option TV
 |.tmp t=>s.e.get t
 |.cell a sz ag=>match s.e.get a with
  |some (.ptr id off)=>(match s.h.get id with|some (.cells _ l)=>Sw l off sz ag|_=>ah)
  |_=>ah
def SH (s:TS):List RV->Option (List TV)
 |[]=>af []
 |x::r=>match rvT s x with|some v=>(match SH s r with|some l=>af (v::l)|none=>ah)|none=>ah
structure FT where
 pre:Tm
 post:Tm
 hints:PT ab4
def YM (con:FuncId->Option ct) (b9:TypeId->Option Ty) (inert:FuncId->Bool) (F:Option SF) (D:FT) (x:D.pre.ty.den):Option D.post.ty.den:=
 match F with
 |some I=>(match Cx D.pre x with
  |some (args,h)=>if eC args.length I.nt&&eC D.pre.bs.length D.post.bs.length then
    oX D.pre.bs.length con b9 inert (Dg D.hints I.code 0).1 ⟨J0 0 args,h,D.pre.bs.length⟩ λex s=>(match ex with
    |.exit _=>ah
    |_=>(match SH s I.res with
     |some l=>(match DY D.pre.bs.length D.post l s.h with
      |some ⟨y,_,_,_⟩=>(match Cx D.post y with|some _=>af y|none=>ah)
      |none=>ah)
     |none=>ah)) else ah
  |none=>ah)
 |none=>ah
abbrev aN:Ty:=(.int .i64)
abbrev kx:Ty:=(.st (.pr .str (.pr aN (.pr aN (.pr .bool aN)))))
abbrev qD:Ty:=(.st (.pr .str .bool))
abbrev k_:Ty:=(.st (.pr .str aN))
abbrev oe:Ty:=(.st (.pr aN (.pr aN aN)))
abbrev m7:Ty:=(.st (.pr (.sl kx) (.pr (.sl qD) (.pr (.sl k_) (.pr (.sl .str) (.pr (.sl .str) (.sl oe)))))))
abbrev vz:Ty:=(.sl (.sl aN))
abbrev eP:Ty:=(.st (.pr aN (.pr (.sl aN) (.pr vz aN))))
abbrev qJ:Ty:=(.st (.pr aN (.pr aN (.pr aN (.pr aN (.pr aN aN))))))
abbrev dV:Ty:=(.st (.pr aN (.sl aN)))
abbrev pM:Ty:=(.sl .bool)
abbrev h_:Ty:=(.st (.pr aN (.pr aN .bool)))
abbrev GP:Ty:=(.st (.pr (.sl dV) (.pr aN (.pr pM (.sl h_)))))
abbrev iL:Ty:=(.st (.pr aN (.pr aN (.pr aN (.pr aN (.pr aN (.pr (.sl aN) (.sl aN))))))))
abbrev F6:Ty:=(.st (.pr aN (.pr aN (.pr .str (.pr aN (.pr aN .str))))))
abbrev sL:Ty:=(.st (.pr .str (.pr aN (.pr (.sl .str) (.sl .sm)))))
abbrev MO:Ty:=(.st (.pr (.sl F6) (.sl sL)))
abbrev wH:Ty:=(.st (.pr aN (.sl qJ)))
abbrev uo:Ty:=(.st (.pr m7 (.sl wH)))
abbrev vA:Ty:=(.st (.pr GP (.pr (.sl aN) (.pr (.sl aN) (.sl eP)))))
abbrev iO:Ty:=(.st (.pr GP (.pr (.sl aN) (.pr (.sl aN) (.sl aN)))))
abbrev Dy:Ty:=(.sl (.int .u8))
abbrev yg:Ty:=(.st (.pr Dy aN))
abbrev iE:Ty:=(.st (.pr aN aN))
abbrev od:Ty:=(.st (.pr m7 (.sl iL)))
abbrev RK:=((List UInt8)×Int×Int×Bool×Int)
abbrev gI:=(List RK)
abbrev gq:=(List ((List UInt8)×Bool))
abbrev fe:=((List UInt8)×Int)
abbrev b_:=(List (List UInt8))
abbrev dJ:=(gI×gq×(List fe)×b_×b_×List (Int×Int×Int))
abbrev rE:=(gI×gq×(List fe)×b_×b_×(List (Int×Int×Int))×b_×Int×Int)
abbrev gA:=(List (Int×List Int))
abbrev du:=(Int×Int×Bool)
abbrev oW:=(gA×Int×(List Bool)×List du)
abbrev tI:=(Int×(List Int)×(List (List Int))×Int)
abbrev jP:=(Int×Int×Int×Int×Int×Int)
abbrev gH:=(Int×Int×Int×Int×Int×(List Int)×List Int)
abbrev aae:=(Int×Int×(List UInt8)×Int×Int×List UInt8)
abbrev rW:=(List aae)
abbrev rV:=((List UInt8)×Int×b_×List Sx)
abbrev yh:=(Int×Int×Bool×Bool×Bool×Bool)
abbrev zq:=(dJ×List (Int×List jP))
abbrev vw:=(Int×Int×Int×Int×Int)
abbrev eA:=(oW×(List Int)×(List Int)×List Int)
abbrev fH:=((List Int)×Int)
abbrev wG:=(oW×(List Int)×(List Int)×List tI)
abbrev GG:=(Int×Int×(List UInt8)×(List UInt8)×Int×Int×List UInt8)
abbrev qK:=(rW×(List rV)×Int)
abbrev RL:=(Bool×List (List UInt8))
abbrev Ya23:=(Int×Int×tI×tI×Int×(List Int)×(List (List Int))×Int)
abbrev Ya24:=(tI×Int×Int×tI×Int×(List Int)×(List (List Int))×Int)
abbrev Ya25:=(tI×tI×Int×Int×Int×(List Int)×(List (List Int))×Int)
abbrev aag:=((List Sx)×yh×fH×Bool×List (List UInt8))
abbrev Ya27:=(Int×Int×tI×Int×(List Int)×(List (List Int))×Int)
abbrev Ya28:=(tI×Int×Int×Int×(List Int)×(List (List Int))×Int)
abbrev Ya29:=(Int×Int×Int×(List Int)×(List (List Int))×Int)
abbrev XV:=(Int×yh×fH×Bool×List (List UInt8))
abbrev aaf:=(Sx×yh×fH×Bool×List (List UInt8))
abbrev adw:=((Int×Int)×qK×(Bool×List Sx)×b_×List (List UInt8))
abbrev LB:=(Sx×rE×List jP)
abbrev Dv:=(wG×gH×Bool)
abbrev aad:=((Sx×Int×Int×Int)×rE×List jP)
abbrev adv:=((Int×Int)×yh×fH×Bool×List (List UInt8))
abbrev adu:=(fe×yh×fH×Bool×List (List UInt8))
abbrev XU:=(yh×fH×RL×List Sx)
abbrev adt:=(Xp×yh×fH×Bool×List (List UInt8))
abbrev Ya42:=(tI×tI×tI×Int×Int)
abbrev aac:=((List Sx)×rE×List jP)
abbrev aZ {α:Type} (l:List α):Int:=aO (al l)
abbrev cF (n:Int):Int:=bm .i64 (n+1)
abbrev aF {R α:Type} (x:α):Option (R⊕α):=af (bW x)
abbrev cP {R α:Type} (x:R):Option (R⊕α):=af (nh x)
abbrev bK {R:Type} (T:Ty) (l:List T.den) (j:Int) (k:T.den->Option R):Option R:=chk (fI j (al l)) λ_=>lt (aJ (T:=T) l j) k
abbrev kZ {R:Type} (T:Ty) (l:List T.den) (j:Int) (k:T.den->Option R):Option R:=chk (fI j (al l)) λ_=>chk (fI j (al l)) λ_=>lt (aJ (T:=T) l j) k
abbrev vI {R α:Type} (j:Int) (l:List α) (k:Option R):Option R:=chk (fI j (al l)) λ_=>k
abbrev bF {R:Type} (b:Bool) (k:Option R):Option R:=chk b λ_=>k
abbrev bf {R:Type} (a b:Int) (t f:Option R):Option R:=bcase (decide (a=b)) t f
abbrev iT {R:Type} (a b:Int) (t f:Option R):Option R:=bcase (!decide (a=b)) t f
abbrev bz {R:Type} (a b:Int) (t f:Option R):Option R:=bcase (fO a b) t f
abbrev jz {R:Type} (a b:Int) (t f:Option R):Option R:=bcase (c5 a b) t f
def ck {R:Type} (b:Bool) (k:Option R):Option R:=chk b λ_=>chk b λ_=>k
def dZ (s:Sx):Sx:=nD (Sx.op s,Sx.line s,Sx.name s,Sx.arg s,Sx.index s,dW (Xp.op (Sx.expr s),Xp.n (Sx.expr s),Xp.name (Sx.expr s),Xp.l (Sx.expr s)),Sx.body s,Sx.els s)
def kl (x:Unit):Option b_:=
 (af ([[118,97,114],[118,111,108,97,116,105,108,101],[109,117,116,101,120],[114,119,108,111,99,107],[99,111,110,100],[102,117,116,117,114,101],[116,104,114,101,97,100],[105,102],[101,108,115,101],[119,104,105,108,101],[108,111,99,107],[114,101,97,100],[119,114,105,116,101],[116,114,97,110,115,97,99,116,105,111,110],[97,116,111,109,105,99],[119,97,105,116],[110,111,116,105,102,121],[110,111,116,105,102,121,97,108,108],[115,112,97,119,110],[106,111,105,110],[115,101,116],[103,101,116]]))
def jE (x:List UInt8):Option (Bool):=
 (obind (kl ()) λJ=>(iter (σ:=Int) (λI=>(bz I (aZ J) (bK (.str) J I λM=>(bcase (decide ((M:List UInt8)=x)) (aF ai) (cP (cF I)))) (aF aj))) 0))
def lj (x:Int):Option (Bool):=
 (jn (α:=Bool) (jz 97 x (jz x 122 (aF ai) (jz 65 x (aF (c5 x 90)) (aF aj))) (jz 65 x (aF (c5 x 90)) (aF aj))) λI=>(af I))
def rh (x:Int):Option (Bool):=
 (jn (α:=Bool) (jz 48 x (aF (c5 x 57)) (aF aj)) λI=>(af I))
def pf (x:Int):Option (Bool):=
 (jn (α:=Bool) (obind (lj x) λJ=>(bcase J (aF ai) (obind (rh x) λI=>(bcase I (aF ai) (aF (decide ((x:Int)=95))))))) λM=>(af M))
def eZ (x:List UInt8):Option (Bool):=
 (jn (α:=Bool) (bz (aZ x) 1 (aF ai) (bz 12 (aZ x) (aF ai) (vI 0 x (obind (lj (zY x 0)) λU=>(bcase (!U) (aF ai) (obind (jE x) λM=>(aF M))))))) λY=>(bcase Y (af aj) (iter (σ:=Int) (λI=>(bz I (aZ x) (vI I x (obind (pf (zY x I)) λJ=>(bcase (!J) (aF aj) (cP (cF I))))) (aF ai))) 0)))
def fP (x:Bool):Option (Int):=
 (bcase x (af 1) (af 0))
def tV (x:Int×Int):Option (Int×Bool):=
 (bf x.1 4 (af ((bm .i64 (0-x.2)),ai)) (bf x.1 5 (obind (fP (decide ((x.2:Int)=0))) λI=>(af (I,ai))) (af (0,aj))))
def r7 (x:Int×Int×Int):Option (Int×Bool):=
 (bf x.1 6 (af ((bm .i64 (x.2.1+x.2.2)),ai)) (bf x.1 7 (af ((bm .i64 (x.2.1-x.2.2)),ai)) (bf x.1 8 (af ((bm .i64 (x.2.1*x.2.2)),ai)) (bf x.1 9 (bf x.2.2 0 (af (0,ai)) (bF (!decide ((x.2.2:Int)=0)) (af ((bm .i64 (Int.tdiv x.2.1 x.2.2)),ai)))) (bf x.1 10 (bf x.2.2 0 (af (0,ai)) (bF (!decide ((x.2.2:Int)=0)) (af ((zG x.2.1 x.2.2),ai)))) (bf x.1 11 (obind (fP (decide ((x.2.1:Int)=x.2.2))) λy1=>(af (y1,ai))) (bf x.1 12 (obind (fP (!decide ((x.2.1:Int)=x.2.2))) λy2=>(af (y2,ai))) (bf x.1 13 (obind (fP (fO x.2.1 x.2.2)) λy3=>(af (y3,ai))) (bf x.1 14 (obind (fP (c5 x.2.1 x.2.2)) λy4=>(af (y4,ai))) (bf x.1 15 (obind (fP (fO x.2.2 x.2.1)) λy5=>(af (y5,ai))) (bf x.1 16 (obind (fP (c5 x.2.2 x.2.1)) λZ=>(af (Z,ai))) (bf x.1 17 (jn (α:=Int×Bool) (iT x.2.1 0 (obind (fP (!decide ((x.2.2:Int)=0))) λY=>(aF (Y,ai))) (obind (fP aj) λU=>(aF (U,ai)))) λx7=>(af x7)) (bf x.1 18 (jn (α:=Int×Bool) (iT x.2.1 0 (obind (fP ai) λJ=>(aF (J,ai))) (obind (fP (!decide ((x.2.2:Int)=0))) λI=>(aF (I,ai)))) λM=>(af M)) (af (0,aj)))))))))))))))
def re (x:Int×Int):Option (Int):=
 (bz x.2 1 (af 0) (bF (!decide ((x.2:Int)=0)) (jn (α:=Int) (bz (zG x.1 x.2) 0 (aF (bm .i64 ((zG x.1 x.2)+x.2))) (aF (zG x.1 x.2))) λI=>(af I))))
def md (x:Int):Option (Int):=
 (jn (α:=Bool) (bf x 1 (aF ai) (aF (decide ((x:Int)=2)))) λM=>(bcase M (af 0) (jn (α:=Bool) (jz 3 x (aF (c5 x 5)) (aF aj)) λJ=>(bcase J (af 1) (jn (α:=Bool) (jz 6 x (aF (c5 x 18)) (aF aj)) λI=>(bcase I (af 2) (af (-1))))))))
def lX (rr02_ShapedExpr:Xp->Option (Bool)) (x:Xp):Option (Bool):=
 (jn (α:=Bool×Xp) (bf (Xp.op x) 2 (aF (ai,dW ((Xp.op x),(Xp.n x),(Xp.name x),(Xp.l x)))) (aF ((decide (((Xp.op x):Int)=3)),dW ((Xp.op x),(Xp.n x),(Xp.name x),(Xp.l x))))) λI=>(jn (α:=Bool×Xp) (obind (md (Xp.op I.2)) λy3=>(iT y3 (aO (al (Xp.l I.2))) (aF (ai,dW ((Xp.op I.2),(Xp.n I.2),(Xp.name I.2),(Xp.l I.2)))) (bcase ((I.1==(!decide (((Xp.name I.2):List UInt8)=([])))) !=ai) (aF (ai,dW ((Xp.op I.2),(Xp.n I.2),(Xp.name I.2),(Xp.l I.2)))) (bcase I.1 (obind (eZ (Xp.name I.2)) λZ=>(bcase (!Z) (aF (ai,dW ((Xp.op I.2),(Xp.n I.2),(Xp.name I.2),(Xp.l I.2)))) (bz (Xp.n I.2) 0 (aF (ai,dW ((Xp.op I.2),(Xp.n I.2),(Xp.name I.2),(Xp.l I.2)))) (iT (Xp.op I.2) 1 (aF ((!decide (((Xp.n I.2):Int)=0)),dW ((Xp.op I.2),(Xp.n I.2),(Xp.name I.2),(Xp.l I.2)))) (aF (aj,dW ((Xp.op I.2),(Xp.n I.2),(Xp.name I.2),(Xp.l I.2)))))))) (bz (Xp.n I.2) 0 (aF (ai,dW ((Xp.op I.2),(Xp.n I.2),(Xp.name I.2),(Xp.l I.2)))) (iT (Xp.op I.2) 1 (aF ((!decide (((Xp.n I.2):Int)=0)),dW ((Xp.op I.2),(Xp.n I.2),(Xp.name I.2),(Xp.l I.2)))) (aF (aj,dW ((Xp.op I.2),(Xp.n I.2),(Xp.name I.2),(Xp.l I.2)))))))))) λM=>(bcase M.1 (af aj) (iter (σ:=Int×Xp) (λJ=>(bz J.1 (aO (al (Xp.l J.2))) (bK (.ex) (Xp.l J.2) J.1 λU=>(obind (rr02_ShapedExpr U) λY=>(bcase (!Y) (aF aj) (cP ((cF J.1),dW ((Xp.op J.2),(Xp.n J.2),(Xp.name J.2),(Xp.l J.2))))))) (aF ai))) (0,dW ((Xp.op M.2),(Xp.n M.2),(Xp.name M.2),(Xp.l M.2)))))))
def hY:Nat->Xp->Option (Bool)
 |0,_=>ah
 |n+1,x=>lX (hY n) x
theorem sg (n:Nat) (x:Xp):hY (n+1) x=lX (hY n) x:=rfl
def iZ (x:Xp):Option (Bool):=hY fuel x
def pe (x:Xp):Option (Bool):=
 (jn (α:=Bool) (bf (Xp.op x) 0 (bf (Xp.n x) 0 (bcase (decide (((Xp.name x):List UInt8)=([]))) (aF (decide (((aO (al (Xp.l x))):Int)=0))) (aF aj)) (aF aj)) (aF aj)) λI=>(af I))
def j6 (rr02_ShapedStmt:Sx->Option (Bool)) (rr02_ShapedStmts:(List Sx)->Option (Bool)) (x:Sx):Option (Bool):=
 (jn (α:=Bool×Sx) (bz (Sx.op x) 1 (aF (ai,dZ x)) (aF ((fO 15 (Sx.op x)),dZ x))) λx1=>(bcase x1.1 (af aj) (jn (α:=Bool×Sx) (bf (Sx.op x1.2) 2 (aF (ai,dZ x1.2)) (bf (Sx.op x1.2) 3 (aF (ai,dZ x1.2)) (bf (Sx.op x1.2) 7 (aF (ai,dZ x1.2)) (aF ((decide (((Sx.op x1.2):Int)=8)),dZ x1.2))))) λY=>(jn (α:=Bool×Sx) (bcase Y.1 (bcase (!decide (((Sx.name Y.2):List UInt8)=([]))) (aF (ai,dZ Y.2)) (bcase (!Y.1) (obind (eZ (Sx.name Y.2)) λy4=>(aF ((!y4),dZ Y.2))) (aF (aj,dZ Y.2)))) (bcase (!Y.1) (obind (eZ (Sx.name Y.2)) λy5=>(aF ((!y5),dZ Y.2))) (aF (aj,dZ Y.2)))) λU=>(bcase U.1 (af aj) (jn (α:=Bool×Sx) (bf (Sx.op U.2) 15 (obind (eZ (Sx.arg U.2)) λy7=>(bcase (!y7) (aF (ai,dZ U.2)) (iT (Sx.op U.2) 15 (aF ((!decide (((Sx.arg U.2):List UInt8)=([]))),dZ U.2)) (aF (aj,dZ U.2))))) (iT (Sx.op U.2) 15 (aF ((!decide (((Sx.arg U.2):List UInt8)=([]))),dZ U.2)) (aF (aj,dZ U.2)))) λM=>(bcase M.1 (af aj) (jn (α:=Bool×Sx) (bz 1 (aO (al (Sx.index M.2))) (aF (ai,dZ M.2)) (iT (Sx.op M.2) 1 (bz 0 (aO (al (Sx.index M.2))) (aF (ai,dZ M.2)) (bf (aO (al (Sx.index M.2))) 1 (bK (.ex) (Sx.index M.2) 0 λz9=>(obind (iZ z9) λy10=>(aF ((!y10),dZ M.2)))) (aF (aj,dZ M.2)))) (bf (aO (al (Sx.index M.2))) 1 (bK (.ex) (Sx.index M.2) 0 λz11=>(obind (iZ z11) λy12=>(aF ((!y12),dZ M.2)))) (aF (aj,dZ M.2))))) λx8=>(bcase x8.1 (af aj) (jn (α:=Bool×Sx) (bf (Sx.op x8.2) 1 (aF (ai,dZ x8.2)) (bf (Sx.op x8.2) 2 (aF (ai,dZ x8.2)) (bf (Sx.op x8.2) 3 (aF (ai,dZ x8.2)) (aF ((decide (((Sx.op x8.2):Int)=14)),dZ x8.2))))) λI=>(jn (α:=Bool×Sx) (bcase I.1 (obind (iZ (dW ((Xp.op (Sx.expr I.2)),(Xp.n (Sx.expr I.2)),(Xp.name (Sx.expr I.2)),(Xp.l (Sx.expr I.2))))) λy15=>(bcase (!y15) (aF (ai,dZ I.2)) (bcase (!I.1) (obind (pe (dW ((Xp.op (Sx.expr I.2)),(Xp.n (Sx.expr I.2)),(Xp.name (Sx.expr I.2)),(Xp.l (Sx.expr I.2))))) λy16=>(aF ((!y16),dZ I.2))) (aF (aj,dZ I.2))))) (bcase (!I.1) (obind (pe (dW ((Xp.op (Sx.expr I.2)),(Xp.n (Sx.expr I.2)),(Xp.name (Sx.expr I.2)),(Xp.l (Sx.expr I.2))))) λy17=>(aF ((!y17),dZ I.2))) (aF (aj,dZ I.2)))) λZ=>(bcase Z.1 (af aj) (jn (α:=Bool×Sx) (jz 2 (Sx.op Z.2) (aF ((c5 (Sx.op Z.2) 8),dZ Z.2)) (aF (aj,dZ Z.2))) λJ=>(jn (α:=Bool×Sx) (bcase (!J.1) (bz 0 (aO (al (Sx.body J.2))) (aF (ai,dZ J.2)) (iT (Sx.op J.2) 2 (aF ((fO 0 (aO (al (Sx.els J.2)))),dZ J.2)) (aF (aj,dZ J.2)))) (iT (Sx.op J.2) 2 (aF ((fO 0 (aO (al (Sx.els J.2)))),dZ J.2)) (aF (aj,dZ J.2)))) λx19=>(bcase x19.1 (af aj) (jn (α:=Bool) (obind (rr02_ShapedStmts (Sx.body x19.2)) λy21=>(bcase y21 (obind (rr02_ShapedStmts (Sx.els x19.2)) λy22=>(aF y22)) (aF aj))) λx20=>(af x20)))))))))))))))))
def jv (rr02_ShapedStmt:Sx->Option (Bool)) (rr02_ShapedStmts:(List Sx)->Option (Bool)) (x:List Sx):Option (Bool):=
 (iter (σ:=Int) (λI=>(bz I (aZ x) (vI I x (obind (rr02_ShapedStmt (aJ (T:=.sm) x I)) λJ=>(bcase (!J) (aF aj) (cP (cF I))))) (aF ai))) 0)
mutual
def eh:Nat->Sx->Option (Bool)
 |0,_=>ah
 |n+1,x=>j6 (eh n) (dD n) x
def dD:Nat->(List Sx)->Option (Bool)
 |0,_=>ah
 |n+1,x=>jv (eh n) (dD n) x
end
theorem yP (n:Nat) (x:Sx):eh (n+1) x=j6 (eh n) (dD n) x:=rfl
theorem yc (n:Nat) (x:List Sx):dD (n+1) x=jv (eh n) (dD n) x:=rfl
def nB (x:List Sx):Option (Bool):=dD fuel x
def jY (x:Int×Int×(List UInt8)×Int×Int×List UInt8):Option (Bool):=
 (jn (α:=Bool×Int×Int×(List UInt8)×Int×Int×List UInt8) (bz x.1 1 (aF (ai,x)) (bz 6 x.1 (aF (ai,x)) (obind (eZ x.p2) λU=>(bcase (!U) (aF (ai,x)) (bz x.p3 0 (aF (ai,x)) (iT x.1 1 (aF ((!decide ((x.p3:Int)=0)),x)) (aF (aj,x)))))))) λI=>(bcase I.1 (af aj) (jn (α:=Bool×Int×Int×(List UInt8)×Int×Int×List UInt8) (bf I.2.1 5 (obind (eZ I.q6) λM=>(bcase (!M) (aF (ai,I.2)) (iT I.2.1 5 (aF ((!decide ((I.q6:List UInt8)=([]))),I.2)) (aF (aj,I.2))))) (iT I.2.1 5 (aF ((!decide ((I.q6:List UInt8)=([]))),I.2)) (aF (aj,I.2)))) λJ=>(bcase J.1 (af aj) (jn (α:=Bool) (bz (-9223372036854775808) J.p5 (bf J.p5 0 (aF ai) (bf J.2.1 1 (aF ai) (aF (decide ((J.2.1:Int)=2))))) (aF aj)) λY=>(af Y))))))
def pA (x:rW×List rV):Option (Bool):=
 (iter (σ:=Int×rW×List rV) (λM=>(bz M.1 (aZ M.2.1) (bK F6 M.2.1 M.1 λz2=>(obind (jY z2) λy3=>(bcase (!y3) (aF aj) (cP ((cF M.1),M.2))))) (obind (iter (σ:=Int×rW×List rV) (λJ=>(bz J.1 (aZ J.2.2) (bK sL J.2.2 J.1 λz5=>(iter (σ:=Int×(rW×List rV)×(List UInt8)×Int×b_×List Sx) (λI=>(bz I.1 (aZ I.p4) (bK (.str) I.p4 I.1 λz7=>(obind (eZ z7) λy8=>(bcase (!y8) (aF (bW aj)) (cP ((cF I.1),I.2))))) (obind (jn (α:=Bool×rW×List rV) (obind (eZ I.p2) λY=>(bcase (!Y) (aF (ai,I.2.1)) (obind (nB I.q5) λU=>(aF ((!U),I.2.1))))) λZ=>(bcase Z.1 (aF aj) (cP ((cF J.1),Z.2)))) λr=>af (bW r)))) (0,J.2,z5))) (aF (fO 0 (aZ J.2.2))))) (0,M.2)) λr=>af (bW r)))) (0,x))
def iW (x:b_×List UInt8):Option (Int):=
 (iter (σ:=Int) (λI=>(bz I (aZ x.1) (bK (.str) x.1 I λJ=>(bcase (decide ((J:List UInt8)=x.2)) (aF I) (cP (cF I)))) (aF (-1)))) 0)
def hX (x:rW×List UInt8):Option (Int):=
 (iter (σ:=Int) (λI=>(bz I (aZ x.1) (bK F6 x.1 I λJ=>(bcase (decide ((J.2.2.1:List UInt8)=x.2)) (aF I) (cP (cF I)))) (aF (-1)))) 0)
def gM (x:(List rV)×List UInt8):Option (Int):=
 (iter (σ:=Int) (λI=>(bz I (aZ x.1) (bK sL x.1 I λJ=>(bcase (decide ((J.1:List UInt8)=x.2)) (aF I) (cP (cF I)))) (aF (-1)))) 0)
def py (x:(rW×List rV)×Int×List UInt8):Option (Int):=
 (jn (α:=Bool×rW×List rV) (jz 0 x.2.1 (bz x.2.1 (aZ x.1.2) (bK sL x.1.2 x.2.1 λz2=>(obind (iW (z2.2.2.1,x.2.2)) λy3=>(aF ((c5 0 y3),x.1)))) (aF (aj,x.1))) (aF (aj,x.1))) λI=>(bcase I.1 (af 8) (obind (hX (I.2.1,x.2.2)) λM=>(bz M 0 (obind (gM (I.2.2,x.2.2)) λy5=>(jz 0 y5 (af 7) (af 0))) (vI M I.2.1 (lt ((aJ (T:=F6) I.2.1 M).1) λJ=>(bf J 1 (bK F6 I.2.1 M λZ=>(iT Z.2.2.2.1 0 (af 2) (af 1))) (bf J 2 (af 1) (jn (α:=Bool×rW×List rV) (bf J 3 (aF ((decide ((J:Int)=3)),I.2)) (bf J 4 (aF ((decide ((J:Int)=4)),I.2)) (bf J 5 (aF ((decide ((J:Int)=5)),I.2)) (aF ((decide ((J:Int)=6)),I.2))))) λU=>(bcase U.1 (bK F6 U.2.1 M λY=>(af Y.1)) (af 9)))))))))))
def gy (x:(rW×List rV)×Int×(List UInt8)×Int×Int):Option (Int):=
 (obind (py (x.1,x.2.1,x.p2)) λI=>(bf I 0 (af 5) (jn (α:=Bool) (iT I x.p3 (aF (!decide ((I:Int)=x.q4))) (aF aj)) λJ=>(bcase J (af 6) (af 0)))))
def uc (rr04_Nodes:Xp->Option (Int×Int)) (x:Xp):Option (Int×Int):=
 (iter (σ:=(Int×Int×Int)×Xp) (λI=>(bz I.1.2.2 (aO (al (Xp.l I.2))) (bK (.ex) (Xp.l I.2) I.1.2.2 λM=>(obind (rr04_Nodes M) λJ=>(cP (((bm .i64 (I.1.1+J.1)),(ko I.1.2.1 J.2),(cF I.1.2.2)),dW ((Xp.op I.2),(Xp.n I.2),(Xp.name I.2),(Xp.l I.2)))))) (aF (I.1.1,(cF I.1.2.1))))) ((1,0,0),dW ((Xp.op x),(Xp.n x),(Xp.name x),(Xp.l x))))
def mV:Nat->Xp->Option (Int×Int)
 |0,_=>ah
 |n+1,x=>uc (mV n) x
theorem xK (n:Nat) (x:Xp):mV (n+1) x=uc (mV n) x:=rfl
def Bs (x:Xp):Option (Int×Int):=mV fuel x
def ub (rr04_names:((rW×List rV)×Int×Xp)->Option (Int)) (x:(rW×List rV)×Int×Xp):Option (Int):=
 (jn (α:=Int×(rW×List rV)×Xp) (bf (Xp.op x.2.2) 2 (obind (gy (x.1,x.2.1,(Xp.name x.2.2),8,1)) λy2=>(aF (y2,x.1,dW ((Xp.op x.2.2),(Xp.n x.2.2),(Xp.name x.2.2),(Xp.l x.2.2))))) (bf (Xp.op x.2.2) 3 (obind (gy (x.1,x.2.1,(Xp.name x.2.2),2,2)) λZ=>(aF (Z,x.1,dW ((Xp.op x.2.2),(Xp.n x.2.2),(Xp.name x.2.2),(Xp.l x.2.2))))) (aF (0,x.1,dW ((Xp.op x.2.2),(Xp.n x.2.2),(Xp.name x.2.2),(Xp.l x.2.2)))))) λM=>(iter (σ:=(Int×Int)×(rW×List rV)×Xp) (λI=>(jn (α:=Bool×(rW×List rV)×Xp) (bz I.1.2 (aO (al (Xp.l I.2.2))) (aF ((decide ((I.1.1:Int)=0)),I.2.1,dW ((Xp.op I.2.2),(Xp.n I.2.2),(Xp.name I.2.2),(Xp.l I.2.2)))) (aF (aj,I.2.1,dW ((Xp.op I.2.2),(Xp.n I.2.2),(Xp.name I.2.2),(Xp.l I.2.2))))) λJ=>(bcase J.1 (bK (.ex) (Xp.l J.2.2) I.1.2 λU=>(obind (rr04_names (J.2.1,x.2.1,U)) λY=>(cP ((Y,(cF I.1.2)),J.2.1,dW ((Xp.op J.2.2),(Xp.n J.2.2),(Xp.name J.2.2),(Xp.l J.2.2)))))) (aF I.1.1)))) ((M.1,0),M.2.1,dW ((Xp.op M.2.2),(Xp.n M.2.2),(Xp.name M.2.2),(Xp.l M.2.2)))))
def mU:Nat->((rW×List rV)×Int×Xp)->Option (Int)
 |0,_=>ah
 |n+1,x=>ub (mU n) x
theorem xJ (n:Nat) (x:(rW×List rV)×Int×Xp):mU (n+1) x=ub (mU n) x:=rfl
def Br (x:(rW×List rV)×Int×Xp):Option (Int):=mU fuel x
def mc (x:(rW×List rV)×Int×Xp):Option (Int):=
 (obind (iZ (dW ((Xp.op x.2.2),(Xp.n x.2.2),(Xp.name x.2.2),(Xp.l x.2.2)))) λU=>(bcase (!U) (af 3) (obind (Bs (dW ((Xp.op x.2.2),(Xp.n x.2.2),(Xp.name x.2.2),(Xp.l x.2.2)))) λJ=>(jn (α:=Bool×(rW×List rV)×Xp) (bz 24 J.1 (aF (ai,x.1,dW ((Xp.op x.2.2),(Xp.n x.2.2),(Xp.name x.2.2),(Xp.l x.2.2)))) (aF ((fO 6 J.2),x.1,dW ((Xp.op x.2.2),(Xp.n x.2.2),(Xp.name x.2.2),(Xp.l x.2.2))))) λI=>(bcase I.1 (af 2) (obind (Br (I.2.1,x.2.1,dW ((Xp.op I.2.2),(Xp.n I.2.2),(Xp.name I.2.2),(Xp.l I.2.2)))) λM=>(af M)))))))
def c6 (x:Bool):Option (Int):=
 (bcase x (af 7) (af 0))
def iV (x:Int×Int):Option (Int):=
 (iT x.1 0 (af x.1) (af x.2))
def dR (x:(Int×Int×List UInt8)×qK×(Bool×List Sx)×b_×List (List UInt8)):Option (Bool×qK×(Bool×List Sx)×b_×List (List UInt8)):=
 (iter (σ:=Int×qK×(Bool×List Sx)×b_×List (List UInt8)) (λI=>(bz I.1 (aZ I.p2.2) (kZ (.sm) I.p2.2 I.1 λJ=>(jn (α:=Bool×qK×(Bool×List Sx)×b_×List (List UInt8)) (bf (Sx.op J) x.1.1 (bcase (decide ((x.1.2.2:List UInt8)=([]))) (aF (ai,I.2)) (aF ((decide (((Sx.name J):List UInt8)=x.1.2.2)),I.2))) (bf (Sx.op J) x.1.2.1 (bcase (decide ((x.1.2.2:List UInt8)=([]))) (aF (ai,I.2)) (aF ((decide (((Sx.name J):List UInt8)=x.1.2.2)),I.2))) (aF (aj,I.2)))) λM=>(bcase M.1 (aF (ai,M.2)) (cP ((cF I.1),M.2))))) (aF (aj,I.2)))) (0,x.2))
def mb (x:Sx×qK×(Bool×List Sx)×b_×List (List UInt8)):Option (Int×qK×(Bool×List Sx)×b_×List (List UInt8)):=
 (obind (dR ((7,7,[]),x.2)) λy1=>(bF (aC (al x.q4) (al y1.q4)&&(aC (al x.p3) (al y1.p3)&&(((x.p2.1==y1.p2.1)&&ai)&&aC (al x.p2.2) (al y1.p2.2)&&ai))) (obind (dR ((8,8,[]),y1.2)) λy2=>(bF (aC (al y1.q4) (al y2.q4)&&(aC (al y1.p3) (al y2.p3)&&(((y1.p2.1==y2.p2.1)&&ai)&&aC (al y1.p2.2) (al y2.p2.2)&&ai))) (obind (dR ((3,3,[]),y2.2)) λy3=>(bF (aC (al y2.q4) (al y3.q4)&&(aC (al y2.p3) (al y3.p3)&&(((y2.p2.1==y3.p2.1)&&ai)&&aC (al y2.p2.2) (al y3.p2.2)&&ai))) (bf (Sx.op x.1) 1 (bf (aO (al (Sx.index x.1))) 0 (obind (gy ((x.2.1.1,x.2.1.2.1),x.2.1.2.2,(Sx.name x.1),8,1)) λy4=>(obind (mc ((x.2.1.1,x.2.1.2.1),x.2.1.2.2,dW ((Xp.op (Sx.expr x.1)),(Xp.n (Sx.expr x.1)),(Xp.name (Sx.expr x.1)),(Xp.l (Sx.expr x.1))))) λy5=>(obind (iV (y4,y5)) λy6=>(af (y6,y3.2))))) (obind (gy ((x.2.1.1,x.2.1.2.1),x.2.1.2.2,(Sx.name x.1),2,2)) λy7=>(bK (.ex) (Sx.index x.1) 0 λz8=>(obind (mc ((x.2.1.1,x.2.1.2.1),x.2.1.2.2,z8)) λy9=>(obind (mc ((x.2.1.1,x.2.1.2.1),x.2.1.2.2,dW ((Xp.op (Sx.expr x.1)),(Xp.n (Sx.expr x.1)),(Xp.name (Sx.expr x.1)),(Xp.l (Sx.expr x.1))))) λy10=>(obind (iV (y9,y10)) λy11=>(obind (iV (y7,y11)) λy12=>(af (y12,y3.2))))))))) (jn (α:=Bool×qK×(Bool×List Sx)×Sx×(rW×List rV)×b_×List (List UInt8)) (bf (Sx.op x.1) 2 (aF ((decide (((Sx.op x.1):Int)=2)),y3.2.1,y3.p2,dZ x.1,(x.2.1.1,x.2.1.2.1),y3.q3)) (aF ((decide (((Sx.op x.1):Int)=3)),y3.2.1,y3.p2,dZ x.1,(x.2.1.1,x.2.1.2.1),y3.q3))) λM=>(bcase M.1 (obind (mc (M.p4,x.2.1.2.2,dW ((Xp.op (Sx.expr M.p3)),(Xp.n (Sx.expr M.p3)),(Xp.name (Sx.expr M.p3)),(Xp.l (Sx.expr M.p3))))) λy14=>(af (y14,M.2.1,M.p2,M.q5))) (bf (Sx.op x.1) 4 (jn (α:=Int×qK×(Bool×List Sx)×b_×List (List UInt8)) (obind (gy (M.p4,x.2.1.2.2,(Sx.name M.p3),3,3)) λy16=>(bcase y1.1 (obind (c6 ai) λy17=>(obind (iV (y16,y17)) λy18=>(aF (y18,M.2.1,M.p2,M.q5)))) (obind (dR ((4,4,(Sx.name M.p3)),M.2.1,M.p2,M.q5)) λy19=>(bF (aC (al M.q6) (al y19.q4)&&(aC (al M.p5) (al y19.p3)&&(((M.p2.1==y19.p2.1)&&ai)&&aC (al M.p2.2) (al y19.p2.2)&&ai))) (obind (c6 y19.1) λy20=>(obind (iV (y16,y20)) λy21=>(aF (y21,y19.2)))))))) λx15=>(af x15)) (jn (α:=Bool×qK×(Bool×List Sx)×Sx×(rW×List rV)×b_×List (List UInt8)) (bf (Sx.op x.1) 5 (aF ((decide (((Sx.op x.1):Int)=5)),M.2.1,M.p2,dZ M.p3,M.q4)) (aF ((decide (((Sx.op x.1):Int)=6)),M.2.1,M.p2,dZ M.p3,M.q4))) λJ=>(bcase J.1 (jn (α:=Int×qK×(Bool×List Sx)×b_×List (List UInt8)) (obind (gy (J.p4,x.2.1.2.2,(Sx.name J.p3),4,4)) λy24=>(bcase y1.1 (obind (c6 ai) λy25=>(obind (iV (y24,y25)) λy26=>(aF (y26,J.2.1,J.p2,J.q5)))) (obind (dR ((5,6,(Sx.name J.p3)),J.2.1,J.p2,J.q5)) λy27=>(bF (aC (al J.q6) (al y27.q4)&&(aC (al J.p5) (al y27.p3)&&(((J.p2.1==y27.p2.1)&&ai)&&aC (al J.p2.2) (al y27.p2.2)&&ai))) (obind (c6 y27.1) λy28=>(obind (iV (y24,y28)) λy29=>(aF (y29,y27.2)))))))) λx23=>(af x23)) (bf (Sx.op x.1) 7 (obind (c6 y1.1) λy30=>(af (y30,J.2.1,J.p2,J.q5))) (bf (Sx.op x.1) 8 (jn (α:=Int×qK×(Bool×List Sx)×b_×List (List UInt8)) (bcase y1.1 (obind (c6 ai) λy32=>(aF (y32,J.2.1,J.p2,J.q5))) (obind (c6 y2.1) λy33=>(aF (y33,J.2.1,J.p2,J.q5)))) λx31=>(af x31)) (jn (α:=Bool×qK×(Bool×List Sx)×Sx×(rW×List rV)×b_×List (List UInt8)) (bf (Sx.op x.1) 9 (aF ((decide (((Sx.op x.1):Int)=9)),J.2.1,J.p2,dZ J.p3,J.q4)) (bf (Sx.op x.1) 10 (aF ((decide (((Sx.op x.1):Int)=10)),J.2.1,J.p2,dZ J.p3,J.q4)) (aF ((decide (((Sx.op x.1):Int)=11)),J.2.1,J.p2,dZ J.p3,J.q4)))) λI=>(bcase I.1 (obind (gy (I.p4,x.2.1.2.2,(Sx.name I.p3),5,5)) λy35=>(iT y35 0 (af (y35,I.2.1,I.p2,I.q5)) (obind (hX (I.p4.1,(Sx.name I.p3))) λy36=>(bK F6 I.p4.1 y36 λz37=>(obind (dR ((4,4,z37.2.2.2.2.2),I.2.1,I.p2,I.q5)) λy38=>(bF (aC (al I.q6) (al y38.q4)&&(aC (al I.p5) (al y38.p3)&&(((I.p2.1==y38.p2.1)&&ai)&&aC (al I.p2.2) (al y38.p2.2)&&ai))) (jn (α:=Int×qK×(Bool×List Sx)×b_×List (List UInt8)) (bcase y1.1 (obind (c6 ai) λy40=>(aF (y40,y38.2))) (bcase (!y38.1) (obind (c6 ai) λy41=>(aF (y41,y38.2))) (bf (Sx.op I.p3) 9 (obind (c6 y2.1) λy42=>(aF (y42,y38.2))) (obind (c6 aj) λy43=>(aF (y43,y38.2)))))) λx39=>(af x39)))))))) (bf (Sx.op x.1) 12 (obind (gy (I.p4,x.2.1.2.2,(Sx.name I.p3),7,7)) λy44=>(iT y44 0 (af (y44,I.2.1,I.p2,I.q5)) (obind (gM (I.p4.2,(Sx.name I.p3))) λy45=>(jn (α:=Bool×qK×(Bool×List Sx)×Sx×b_×List (List UInt8)) (bcase y1.1 (aF (ai,I.2.1,I.p2,dZ I.p3,I.q5)) (bcase y2.1 (aF (ai,I.2.1,I.p2,dZ I.p3,I.q5)) (bcase y3.1 (aF (ai,I.2.1,I.p2,dZ I.p3,I.q5)) (bf y45 x.2.1.2.2 (aF (ai,I.2.1,I.p2,dZ I.p3,I.q5)) (aF ((decide ((y45:Int)=0)),I.2.1,I.p2,dZ I.p3,I.q5)))))) λU=>(bcase U.1 (af (7,U.2.1,U.p2,U.q4)) (obind (iW (U.p4,(Sx.name U.p3))) λy47=>(jz 0 y47 (af (8,U.2.1,U.p2,U.q4)) (bF (bd (al U.p4+al ([(Sx.name U.p3)])) 16) (af (0,U.2.1,U.p2,(U.p4++([(Sx.name U.p3)])),U.q5)))))))))) (bf (Sx.op x.1) 13 (jn (α:=Int×qK×(Bool×List Sx)×b_×List (List UInt8)) (obind (gy (I.p4,x.2.1.2.2,(Sx.name I.p3),7,7)) λy49=>(bcase y1.1 (obind (c6 ai) λy50=>(obind (iV (y49,y50)) λy51=>(aF (y51,I.2.1,I.p2,I.q5)))) (bcase y2.1 (obind (c6 ai) λy52=>(obind (iV (y49,y52)) λy53=>(aF (y53,I.2.1,I.p2,I.q5)))) (obind (gM (I.p4.2,(Sx.name I.p3))) λy54=>(obind (c6 (decide ((y54:Int)=x.2.1.2.2))) λy55=>(obind (iV (y49,y55)) λy56=>(aF (y56,I.2.1,I.p2,I.q5)))))))) λx48=>(af x48)) (bf (Sx.op x.1) 14 (jn (α:=Int×qK×(Bool×List Sx)×Sx×(rW×List rV)×b_×List (List UInt8)) (obind (gy (I.p4,x.2.1.2.2,(Sx.name I.p3),6,6)) λy58=>(bcase y1.1 (obind (c6 ai) λy59=>(obind (iV (y58,y59)) λy60=>(aF (y60,I.2.1,I.p2,dZ I.p3,I.q4)))) (obind (c6 y3.1) λy61=>(obind (iV (y58,y61)) λy62=>(aF (y62,I.2.1,I.p2,dZ I.p3,I.q4)))))) λZ=>(jn (α:=Int×qK×(Bool×List Sx)×Sx×(rW×List rV)×b_×List (List UInt8)) (jn (α:=Bool×qK×(Bool×List Sx)×Sx×(rW×List rV)×b_×List (List UInt8)) (bf Z.1 0 (obind (iW (Z.q6,(Sx.name Z.p3))) λy65=>(aF ((c5 0 y65),Z.2.1,Z.p2,dZ Z.p3,Z.q4))) (aF (aj,Z.2.1,Z.p2,dZ Z.p3,Z.q4))) λx64=>(bcase x64.1 (aF (8,x64.2.1,x64.p2,dZ x64.p3,x64.q4)) (aF (Z.1,x64.2.1,x64.p2,dZ x64.p3,x64.q4)))) λY=>(bF (bd (al Y.q6+al ([(Sx.name Y.p3)])) 16) (obind (mc (Y.p4,x.2.1.2.2,dW ((Xp.op (Sx.expr Y.p3)),(Xp.n (Sx.expr Y.p3)),(Xp.name (Sx.expr Y.p3)),(Xp.l (Sx.expr Y.p3))))) λy66=>(obind (iV (Y.1,y66)) λy67=>(af (y67,Y.2.1,Y.p2,Y.p5,(Y.q6++([(Sx.name Y.p3)]))))))))) (obind (gy (I.p4,x.2.1.2.2,(Sx.name I.p3),8,8)) λy68=>(obind (gy (I.p4,x.2.1.2.2,(Sx.arg I.p3),6,6)) λy69=>(obind (c6 y1.1) λy70=>(obind (iV (y69,y70)) λy71=>(obind (iV (y68,y71)) λy72=>(af (y72,I.2.1,I.p2,I.q5))))))))))))))))))))))))))
def mg (rr04_walk_all:((List Sx)×qK×(Bool×List Sx)×b_×List (List UInt8))->Option adw) (x:(List Sx)×qK×(Bool×List Sx)×b_×List (List UInt8)):Option adw:=
 (iter (σ:=Int×qK×(Bool×List Sx)×b_×List (List UInt8)) (λU=>(bz U.1 (aZ x.1) (bK (.sm) x.1 U.1 λZ=>(obind (mb (dZ Z,U.2)) λY=>(bF (aC (al U.q4) (al U.q4)&&(aC (al U.p3) (al U.p3)&&(((U.p2.1==Y.p2.1)&&ai)&&aC (al U.p2.2) (al Y.p2.2)&&ai))) (jn (α:=Int×qK×Sx×(Bool×List Sx)×b_×List (List UInt8)) (bz 6 (bm .i64 ((aZ Y.p2.2)+1)) (aF (2,Y.2.1,dZ Z,Y.2.2)) (aF (Y.1,Y.2.1,dZ Z,Y.2.2))) λI=>(iT I.1 0 (aF ((I.1,(Sx.line I.p2)),I.2.1,I.q3)) (bF (bd (al I.p3.2+al ([nD (0,0,[],[],([]:List Xp),dW (0,0,[],([]:List Xp)),([]:List Sx),([]:List Sx))])) 176) (ck (fI (aZ I.p3.2) (al (I.p3.2++([nD (0,0,[],[],([]:List Xp),dW (0,0,[],([]:List Xp)),([]:List Sx),([]:List Sx))])))) (obind (rr04_walk_all ((Sx.body I.p2),I.2.1,(I.p3.1,(cO (I.p3.2++([nD (0,0,[],[],([]:List Xp),dW (0,0,[],([]:List Xp)),([]:List Sx),([]:List Sx))])) (aZ I.p3.2) (dZ I.p2))),I.q4)) λM=>(bF (aC (al I.q5) (al I.q5)&&(aC (al I.p4) (al I.p4)&&(((I.p3.1==I.p3.1)&&ai)&&aC (al (cO (I.p3.2++([nD (0,0,[],[],([]:List Xp),dW (0,0,[],([]:List Xp)),([]:List Sx),([]:List Sx))])) (aZ I.p3.2) (dZ I.p2))) (al (cO (I.p3.2++([nD (0,0,[],[],([]:List Xp),dW (0,0,[],([]:List Xp)),([]:List Sx),([]:List Sx))])) (aZ I.p3.2) (dZ I.p2)))&&ai))) (jn (α:=(Int×Int)×qK×(Bool×List Sx)×b_×List (List UInt8)) (bf M.1.1 0 (obind (rr04_walk_all ((Sx.els I.p2),M.2)) λy7=>(bF (aC (al M.q4) (al M.q4)&&(aC (al M.p3) (al M.p3)&&(((M.p2.1==M.p2.1)&&ai)&&aC (al M.p2.2) (al M.p2.2)&&ai))) (aF y7))) (aF M)) λJ=>(bF (c5 0 (bm .i64 ((aZ J.p2.2)-1))&&fO (bm .i64 ((aZ J.p2.2)-1)) (al J.p2.2)) (iT J.1.1 0 (aF (J.1,J.2.1,(aj,(dM (aU (bm .i64 ((aZ J.p2.2)-1))) J.p2.2)),J.q3)) (cP ((cF U.1),J.2.1,(aj,(dM (aU (bm .i64 ((aZ J.p2.2)-1))) J.p2.2)),J.q3)))))))))))))) (aF ((0,0),U.2)))) (0,x.2))
def iC:Nat->((List Sx)×qK×(Bool×List Sx)×b_×List (List UInt8))->Option adw
 |0,_=>ah
 |n+1,x=>mg (iC n) x
theorem BG (n:Nat) (x:(List Sx)×qK×(Bool×List Sx)×b_×List (List UInt8)):iC (n+1) x=mg (iC n) x:=rfl
def vm (x:(List Sx)×qK×(Bool×List Sx)×b_×List (List UInt8)):Option adw:=iC fuel x
def ud (rr04_Count:(List Sx)->Option (Int)) (x:List Sx):Option (Int):=
 (iter (σ:=Int×Int) (λI=>(bz I.2 (aZ x) (vI I.2 x (lt (Sx.body (aJ (T:=.sm) x I.2)) λM=>(obind (rr04_Count M) λY=>(vI I.2 x (lt (Sx.els (aJ (T:=.sm) x I.2)) λJ=>(obind (rr04_Count J) λU=>(cP ((bm .i64 ((bm .i64 (I.1+Y))+U)),(cF I.2))))))))) (aF I.1))) ((aZ x),0))
def mW:Nat->(List Sx)->Option (Int)
 |0,_=>ah
 |n+1,x=>ud (mW n) x
theorem xL (n:Nat) (x:List Sx):mW (n+1) x=ud (mW n) x:=rfl
def Bt (x:List Sx):Option (Int):=mW fuel x
def rf (x:List aae):Option (Int×Int):=
 (iter (σ:=Int×Int×Int×Int×Int) (λI=>(bz I.q4 (aZ x) (jn (α:=Int×Int×Int×Int) (bK F6 x I.q4 λJ=>(bF (c5 0 I.q4&&c5 I.q4 (al x)) (obind (hX ((dM (aU I.q4) x),J.p2)) λy4=>(jz 0 y4 (cP (bW (4,J.2.1))) (bz 4 J.p3 (cP (bW (2,J.2.1))) (jn (α:=(Int×Int×Int×Int)×Int×Int×(List UInt8)×Int×Int×List UInt8) (jn (α:=Bool×Int×Int×(List UInt8)×Int×Int×List UInt8) (bf J.1 1 (aF ((decide ((J.1:Int)=1)),J)) (aF ((decide ((J.1:Int)=2)),J))) λY=>(bcase Y.1 (aF (((bm .i64 (I.1+(ko Y.p4 1))),I.2.1,I.p2,I.p3),Y.2)) (jn (α:=Bool×Int×Int×(List UInt8)×Int×Int×List UInt8) (bf J.1 3 (aF ((decide ((J.1:Int)=3)),Y.2)) (aF ((decide ((J.1:Int)=4)),Y.2))) λZ=>(bcase Z.1 (aF ((I.1,(cF I.2.1),I.p2,I.p3),Z.2)) (bf J.1 5 (aF ((I.1,I.2.1,(cF I.p2),I.p3),Z.2)) (aF ((I.1,I.2.1,I.p2,(cF I.p3)),Z.2))))))) λM=>(jn (α:=Bool×Int×Int×(List UInt8)×Int×Int×List UInt8) (bz 12 M.1.1 (aF (ai,M.2)) (bz 4 M.1.2.1 (aF (ai,M.2)) (bz 2 M.1.p2 (aF (ai,M.2)) (aF ((fO 2 M.1.q3),M.2))))) λU=>(bcase U.1 (cP (bW (2,U.p2))) (bf U.2.1 5 (bF (c5 0 I.q4&&c5 I.q4 (al x)) (obind (hX ((dM (aU I.q4) x),U.q6)) λy9=>(bz y9 0 (cP (bW (5,U.p2))) (bK F6 x y9 λz10=>(iT z10.1 3 (cP (bW (6,U.p2))) (aF M.1)))))) (aF M.1)))))))))) λx2=>(cP (x2.1,x2.2.1,x2.p2,x2.q3,(cF I.q4)))) (aF (0,0)))) (0,0,0,0,0))
def nA (x:rW×List rV):Option (Int×Int):=
 (iter (σ:=Int×rW×List rV) (λJ=>(bz J.1 (aZ J.2.2) (bK sL J.2.2 J.1 λY=>(jn (α:=Bool×(rW×List rV)×(List UInt8)×Int×b_×List Sx) (obind (hX (J.2.1,Y.1)) λy4=>(jz 0 y4 (aF (ai,J.2,Y)) (bF (c5 0 J.1&&c5 J.1 (al J.2.2)) (obind (gM ((dM (aU J.1) J.2.2),Y.1)) λy5=>(aF ((c5 0 y5),J.2,Y)))))) λx3=>(bcase x3.1 (aF (4,x3.p3)) (cP ((cF J.1),x3.2.1))))) (obind (iter (σ:=Int×rW×List rV) (λU=>(bz U.1 (aZ U.2.2) (bK sL U.2.2 U.1 λz7=>(bz 4 (aZ z7.p2) (aF (2,z7.2.1)) (iter (σ:=Int×(rW×List rV)×(List UInt8)×Int×b_×List Sx) (λI=>(bz I.1 (aZ I.p4) (bK (.str) I.p4 I.1 λZ=>(jn (α:=Bool×(rW×List rV)×(List UInt8)×Int×b_×List Sx) (obind (hX (I.2.1.1,Z)) λy11=>(jz 0 y11 (aF (ai,I.2)) (obind (gM (I.2.1.2,Z)) λy12=>(jz 0 y12 (aF (ai,I.2)) (bF (c5 0 I.1&&c5 I.1 (al I.p4)) (obind (iW ((dM (aU I.1) I.p4),Z)) λy13=>(aF ((c5 0 y13),I.2)))))))) λM=>(bcase M.1 (aF (bW (4,M.p3))) (cP ((cF I.1),M.2))))) (aF (nh ((cF U.1),I.2.1))))) (0,U.2,z7)))) (aF (0,0)))) (0,J.2)) λr=>af (bW r)))) (0,x))
def fd (x:rW×List rV):Option (Int×Int):=
 (obind (pA x) λy1=>(bcase (!y1) (af (3,0)) (obind (rf x.1) λY=>(iT Y.1 0 (af Y) (bz 4 (aZ x.2) (af (2,0)) (obind (nA x) λU=>(iT U.1 0 (af U) (iter (σ:=(Int×Int)×rW×List rV) (λJ=>(bz J.1.2 (aZ J.2.2) (bK sL J.2.2 J.1.2 λz5=>(obind (Bt z5.2.2.2) λy6=>(cP (((bm .i64 (J.1.1+y6)),(cF J.1.2)),J.2)))) (obind (bz 60 J.1.1 (af (2,0)) (iter (σ:=Int×(rW×List rV)×qK×(Bool×List Sx)×b_×List (List UInt8)) (λI=>(bz I.1 (aZ I.2.1.2) (bK sL I.2.1.2 I.1 λZ=>(obind (vm (Z.2.2.2,(I.p2.1,I.p2.2.1,I.1),I.q3)) λM=>(bF (aC (al I.q5) (al I.q5)&&(aC (al I.p4) (al I.p4)&&(((I.p3.1==I.p3.1)&&ai)&&aC (al I.p3.2) (al I.p3.2)&&ai))) (iT M.1.1 0 (aF M.1) (cP ((cF I.1),I.2.1,M.2)))))) (aF (0,0)))) (0,J.2,(J.2.1,J.2.2,0),(ai,([]:List Sx)),([]:List (List UInt8)),([]:List (List UInt8))))) λr=>af (bW r)))) ((0,0),x)))))))))
def xc (rr06_sites:((Int×Int×List Sx)×List (Int×Int×Int))->Option (Int×List (Int×Int×Int))) (x:(Int×Int×List Sx)×List (Int×Int×Int)):Option (Int×List (Int×Int×Int)):=
 (iter (σ:=(Int×Int)×List (Int×Int×Int)) (λI=>(bz I.1.2 (aZ x.1.2.2) (vI I.1.2 x.1.2.2 (lt (Sx.line (aJ (T:=.sm) x.1.2.2 I.1.2)) λJ=>(bF (bd (al I.2+al ([(x.1.1,I.1.1,J)])) 24) (vI I.1.2 x.1.2.2 (lt (Sx.body (aJ (T:=.sm) x.1.2.2 I.1.2)) λZ=>(obind (rr06_sites ((x.1.1,(cF I.1.1),Z),(I.2++([(x.1.1,I.1.1,J)])))) λM=>(bF (aC (al (I.2++([(x.1.1,I.1.1,J)]))) (al (I.2++([(x.1.1,I.1.1,J)])))&&ai) (vI I.1.2 x.1.2.2 (lt (Sx.els (aJ (T:=.sm) x.1.2.2 I.1.2)) λY=>(obind (rr06_sites ((x.1.1,M.1,Y),M.2)) λU=>(bF (aC (al M.2) (al M.2)&&ai) (cP ((U.1,(cF I.1.2)),U.2))))))))))))) (aF (I.1.1,I.2)))) ((x.1.2.1,0),x.2))
def pm:Nat->((Int×Int×List Sx)×List (Int×Int×Int))->Option (Int×List (Int×Int×Int))
 |0,_=>ah
 |n+1,x=>xc (pm n) x
theorem Gq (n:Nat) (x:(Int×Int×List Sx)×List (Int×Int×Int)):pm (n+1) x=xc (pm n) x:=rfl
def HZ (x:(Int×Int×List Sx)×List (Int×Int×Int)):Option (Int×List (Int×Int×Int)):=pm fuel x
def j_ (x:gq×List UInt8):Option (Int):=
 (iter (σ:=Int) (λI=>(bz I (aZ x.1) (bK qD x.1 I λJ=>(bcase (decide ((J.1:List UInt8)=x.2)) (aF I) (cP (cF I)))) (aF (-1)))) 0)
def li (x:dJ×List UInt8):Option (Int):=
 (iter (σ:=Int×gI×gq×(List fe)×b_×b_×List (Int×Int×Int)) (λI=>(bz I.1 (aZ I.2.1) (bK kx I.2.1 I.1 λJ=>(bcase (decide ((J.1:List UInt8)=x.2)) (aF I.1) (cP ((cF I.1),I.2)))) (aF (-1)))) (0,x.1))
def tU (x:rW×List rV):Option dJ:=
 (obind (fd x) λy1=>(iT y1.1 0 (af (([]:List RK),([]:List ((List UInt8)×Bool)),([]:List fe),([]:List (List UInt8)),([]:List (List UInt8)),([]:List (Int×Int×Int)))) (iter (σ:=Int×(rW×List rV)×gI×gq×(List fe)×List (List UInt8)) (λU=>(bz U.1 (aZ U.2.1.1) (bK F6 U.2.1.1 U.1 λY=>(jn (α:=(rW×List rV)×gI×gq×(List fe)×List (List UInt8)) (jn (α:=Bool×(rW×List rV)×aae×gI×gq×(List fe)×List (List UInt8)) (bf Y.1 1 (aF ((decide ((Y.1:Int)=1)),U.2.1,Y,U.2.2)) (aF ((decide ((Y.1:Int)=2)),U.2.1,Y,U.2.2))) λx5=>(bcase x5.1 (iter (σ:=Int×(rW×List rV)×aae×gI×gq×(List fe)×List (List UInt8)) (λJ=>(bz J.1 (ko J.p2.p3 1) (bF (bd (al J.p3+al ([(J.p2.p2,J.1,J.p2.p3,(decide ((J.p2.1:Int)=2)),J.p2.p4)])) 48) (cP ((cF J.1),J.2.1,J.p2,(J.p3++([(J.p2.p2,J.1,J.p2.p3,(decide ((J.p2.1:Int)=2)),J.p2.p4)])),J.q4))) (aF (bW (J.2.1,J.q3))))) (0,x5.2)) (jn (α:=Bool×(rW×List rV)×aae×gI×gq×(List fe)×List (List UInt8)) (bf Y.1 3 (aF ((decide ((Y.1:Int)=3)),x5.2)) (aF ((decide ((Y.1:Int)=4)),x5.2))) λI=>(bcase I.1 (bF (bd (al I.p4+al ([(I.p2.p2,(decide ((I.p2.1:Int)=4)))])) 24) (aF (I.2.1,I.p3,(I.p4++([(I.p2.p2,(decide ((I.p2.1:Int)=4)))])),I.q5))) (bf Y.1 5 (obind (j_ (I.p4,I.p2.q5)) λy8=>(bF (bd (al I.p5+al ([(I.p2.p2,y8)])) 24) (aF (I.2.1,I.p3,I.p4,(I.p5++([(I.p2.p2,y8)])),I.q6)))) (bF (bd (al I.q6+al ([I.p2.p2])) 16) (aF (I.2.1,I.p3,I.p4,I.p5,(I.q6++([I.p2.p2])))))))))) λx4=>(cP ((cF U.1),x4)))) (obind (iter (σ:=Int×(rW×List rV)×gI×gq×(List fe)×b_×b_×List (Int×Int×Int)) (λM=>(bz M.1 (aZ M.2.1.2) (bK sL M.2.1.2 M.1 λZ=>(bF (bd (al M.p6+al ([Z.1])) 16) (bK sL M.2.1.2 M.1 λz11=>(obind (HZ ((M.1,0,z11.2.2.2),M.q7)) λy12=>(bF (aC (al M.q7) (al M.q7)&&ai) (cP ((cF M.1),M.2.1,M.p2,M.p3,M.p4,M.p5,(M.p6++([Z.1])),y12.2))))))) (aF M.2.2))) (0,U.2.1,U.p2,U.p3,U.p4,U.q5,([]:List (List UInt8)),([]:List (Int×Int×Int)))) λr=>af (bW r)))) (0,x,([]:List RK),([]:List ((List UInt8)×Bool)),([]:List fe),([]:List (List UInt8))))))
def pa (x:gI×gq×(List fe)×b_×b_×List (Int×Int×Int)):Option (b_×Bool):=
 (iter (σ:=Int×dJ×List (List UInt8)) (λJ=>(bz J.1 (aZ J.2.1.1) (jn (α:=Int×dJ×List (List UInt8)) (bK kx J.2.1.1 J.1 λU=>(bF (bd (al J.2.2+al ([U.1])) 16) (bf U.p2 0 (iT U.2.1 0 (cP (bW (([]:List (List UInt8)),aj))) (aF ((cF J.1),J.2.1,(J.2.2++([U.1]))))) (jn (α:=Bool×dJ×b_×(List UInt8)×Int×Int×Bool×Int) (bz U.p2 1 (aF (ai,J.2.1,(J.2.2++([U.1])),U)) (bz 4 U.p2 (aF (ai,J.2.1,(J.2.2++([U.1])),U)) (aF ((fO (bm .i64 ((aZ J.2.1.1)-J.1)) U.p2),J.2.1,(J.2.2++([U.1])),U)))) λx4=>(bcase x4.1 (cP (bW (([]:List (List UInt8)),aj))) (iter (σ:=Int×dJ×b_×(List UInt8)×Int×Int×Bool×Int) (λM=>(bz M.1 M.p5 (bK kx M.2.1.1 (bm .i64 (J.1+M.1)) λZ=>(jn (α:=Bool×dJ×b_×(List UInt8)×Int×Int×Bool×Int) (iT Z.2.1 M.1 (aF (ai,M.2)) (bcase (!decide ((Z.1:List UInt8)=M.p3)) (aF (ai,M.2)) (iT Z.p2 M.p5 (aF (ai,M.2)) (iT Z.q4 M.q7 (aF (ai,M.2)) (aF (Z.p3,M.2)))))) λx7=>(bcase x7.1 (aF (nh (bW (([]:List (List UInt8)),aj)))) (cP ((cF M.1),x7.2))))) (aF (bW ((bm .i64 (J.1+M.p5)),M.2.1,M.p2))))) (0,x4.2))))))) λx2=>(cP x2)) (obind (iter (σ:=Int×dJ×List (List UInt8)) (λY=>(bz Y.1 (aZ Y.2.1.2.1) (bK qD Y.2.1.2.1 Y.1 λz9=>(bF (bd (al Y.2.2+al ([z9.1])) 16) (cP ((cF Y.1),Y.2.1,(Y.2.2++([z9.1])))))) (obind (iter (σ:=Int×dJ×List (List UInt8)) (λI=>(bz I.1 (aZ I.2.1.p2) (bK k_ I.2.1.p2 I.1 λz11=>(bF (bd (al I.2.2+al ([z11.1])) 16) (cP ((cF I.1),I.2.1,(I.2.2++([z11.1])))))) (obind (bF (bd (al I.2.2+al I.2.1.p3) 16) (bF (bd (al (I.2.2++I.2.1.p3)+al I.2.1.p4) 16) (af (((I.2.2++I.2.1.p3)++I.2.1.p4),ai)))) λr=>af (bW r)))) (0,Y.2)) λr=>af (bW r)))) (0,J.2)) λr=>af (bW r)))) (0,x,([]:List (List UInt8))))
def hP (x:gI×gq×(List fe)×b_×b_×List (Int×Int×Int)):Option (Bool):=
 (jn (α:=Bool×gI×gq×(List fe)×b_×b_×List (Int×Int×Int)) (bz 12 (aZ x.1) (aF (ai,x)) (bz 4 (aZ x.2.1) (aF (ai,x)) (bz 2 (aZ x.p2) (aF (ai,x)) (bz 2 (aZ x.p3) (aF (ai,x)) (bz (aZ x.p4) 1 (aF (ai,x)) (bz 4 (aZ x.p4) (aF (ai,x)) (aF ((fO 60 (aZ x.q5)),x)))))))) λx1=>(bcase x1.1 (af aj) (obind (pa x1.2) λy2=>(bcase (!y2.2) (af aj) (iter (σ:=Int×gI×gq×(List fe)×b_×b_×List (Int×Int×Int)) (λY=>(bz Y.1 (aZ y2.1) (jn (α:=Bool×gI×gq×(List fe)×b_×b_×List (Int×Int×Int)) (bK (.str) y2.1 Y.1 λz5=>(obind (eZ z5) λy6=>(bcase (!y6) (aF (ai,Y.2)) (bF (c5 0 Y.1&&c5 Y.1 (al y2.1)) (bK (.str) y2.1 Y.1 λz7=>(obind (iW ((dM (aU Y.1) y2.1),z7)) λy8=>(aF ((c5 0 y8),Y.2)))))))) λx4=>(bcase x4.1 (aF aj) (cP ((cF Y.1),x4.2)))) (obind (iter (σ:=Int×gI×gq×(List fe)×b_×b_×List (Int×Int×Int)) (λM=>(bz M.1 (aZ M.p3) (bK k_ M.p3 M.1 λz10=>(jn (α:=Bool×gI×gq×(List fe)×b_×b_×List (Int×Int×Int)) (bz z10.2 0 (aF (ai,M.2)) (jz (aZ M.p2) z10.2 (aF (ai,M.2)) (bK qD M.p2 z10.2 λz12=>(aF (z12.2,M.2))))) λx11=>(bcase x11.1 (aF aj) (cP ((cF M.1),x11.2))))) (obind (iter (σ:=Int×gI×gq×(List fe)×b_×b_×List (Int×Int×Int)) (λI=>(bz I.1 (aZ I.q6) (jn (α:=gI×gq×(List fe)×b_×b_×List (Int×Int×Int)) (bK oe I.q6 I.1 λZ=>(jn (α:=Bool×dJ×Int×Int×Int) (bz Z.1 0 (aF (ai,I.2,Z)) (aF ((c5 (aZ I.p5) Z.1),I.2,Z))) λU=>(bcase U.1 (cP (bW aj)) (jn (α:=Bool×dJ×Int×Int×Int) (bf I.1 0 (aF (ai,U.2)) (bK oe U.2.1.q5 (bm .i64 (I.1-1)) λz18=>(aF ((!decide ((z18.1:Int)=U.p2)),U.2)))) λJ=>(bcase J.1 (jn (α:=Bool×gI×gq×(List fe)×b_×b_×List (Int×Int×Int)) (iT J.p3 0 (aF (ai,J.2.1)) (bz 0 I.1 (bK oe J.2.1.q5 (bm .i64 (I.1-1)) λz20=>(aF ((fO J.p2 z20.1),J.2.1))) (aF (aj,J.2.1)))) λx19=>(bcase x19.1 (cP (bW aj)) (aF x19.2))) (bK oe J.2.1.q5 (bm .i64 (I.1-1)) λz21=>(iT J.p3 (cF z21.2.1) (cP (bW aj)) (aF J.2.1)))))))) λx14=>(cP ((cF I.1),x14))) (aF ai))) (0,M.2)) λr=>af (bW r)))) (0,Y.2)) λr=>af (bW r)))) (0,x1.2))))))
def jD (x:Int×Int×Int×Int×Int×Int):Option (List Int):=
 (jn (α:=Bool×Int×Int×Int×Int×Int×Int) (bf x.1 1 (aF ((decide ((x.1:Int)=1)),x)) (bf x.1 6 (aF ((decide ((x.1:Int)=6)),x)) (bf x.1 10 (aF ((decide ((x.1:Int)=10)),x)) (aF ((decide ((x.1:Int)=27)),x))))) λM=>(bcase M.1 (af ([M.p2])) (jn (α:=Bool×Int×Int×Int×Int×Int×Int) (bf x.1 2 (aF ((decide ((x.1:Int)=2)),M.2)) (aF ((decide ((x.1:Int)=3)),M.2))) λI=>(bcase I.1 (af ([I.p2,I.p3])) (bf x.1 4 (af ([I.p2,I.p3,I.p4])) (bf x.1 7 (af ([I.p2,I.p4])) (jn (α:=Bool×Int×Int×Int×Int×Int×Int) (bf x.1 8 (aF ((decide ((x.1:Int)=8)),I.2)) (aF ((decide ((x.1:Int)=26)),I.2))) λJ=>(bcase J.1 (af ([J.p3])) (bf x.1 9 (af ([J.p3,J.p4])) (af ([]:List Int)))))))))))
def px (x:Int):Option (Bool):=
 (jn (α:=Bool) (jz 1 x (aF (c5 x 5)) (aF aj)) λI=>(af I))
def pd (x:(List jP)×Int):Option (Bool):=
 (iter (σ:=Int×Int) (λI=>(jz I.2 (aZ x.1) (jn (α:=Int) (jn (α:=Bool) (bz I.1 0 (aF ai) (aF (c5 (aZ x.1) I.1))) λZ=>(bcase Z (cP (bW aj)) (bK qJ x.1 I.1 λU=>(obind (px U.1) λY=>(bcase (!Y) (cP (bW ai)) (bK qJ x.1 I.1 λM=>(bf M.1 5 (bK qJ x.1 I.1 λJ=>(aF J.2.1)) (aF (cF I.1))))))))) λx2=>(cP (x2,(cF I.2)))) (aF aj))) (x.2,0))
def jh (x:Int×Int):Option (Bool):=
 (jn (α:=Bool) (jz 0 x.1 (aF (fO x.1 x.2)) (aF aj)) λI=>(af I))
def mR (x:dJ×Int×Int):Option (Bool):=
 (jn (α:=Bool) (obind (jh (x.2.1,(aZ x.1.1))) λU=>(bcase U (bK kx x.1.1 x.2.1 λM=>(bf M.2.1 0 (bK kx x.1.1 x.2.1 λJ=>(iT J.2.2.1 0 (bK kx x.1.1 x.2.1 λI=>(aF (decide ((I.2.2.1:Int)=x.2.2)))) (aF aj))) (aF aj))) (aF aj))) λY=>(af Y))
def lA (x:dJ×Int×Int×Int×Int×Int×Int):Option (Bool):=
 (bf x.2.1 6 (jn (α:=Bool) (obind (jh (x.p3,(aZ x.1.1))) λy2=>(bcase y2 (bK kx x.1.1 x.p3 λz3=>(aF (decide ((z3.2.2.1:Int)=0)))) (aF aj))) λx1=>(af x1)) (bf x.2.1 8 (jn (α:=Bool) (obind (jh (x.p2,(aZ x.1.1))) λy5=>(bcase y5 (bK kx x.1.1 x.p2 λz6=>(aF (decide ((z6.2.2.1:Int)=0)))) (aF aj))) λx4=>(af x4)) (bf x.2.1 7 (obind (mR (x.1,x.p3,x.p5)) λy7=>(af y7)) (bf x.2.1 9 (obind (mR (x.1,x.p2,x.p5)) λy8=>(af y8)) (jn (α:=Bool×dJ×Int×Int×Int×Int×Int×Int) (bf x.2.1 11 (aF ((decide ((x.2.1:Int)=11)),x)) (aF ((decide ((x.2.1:Int)=12)),x))) λU=>(bcase U.1 (jn (α:=Bool) (obind (jh (U.p3,(aZ U.2.1.2.1))) λy11=>(bcase y11 (bK qD U.2.1.2.1 U.p3 λZ=>(aF (!Z.2))) (aF aj))) λx10=>(af x10)) (jn (α:=Bool×dJ×Int×Int×Int×Int×Int×Int) (bf x.2.1 13 (aF ((decide ((x.2.1:Int)=13)),U.2)) (bf x.2.1 14 (aF ((decide ((x.2.1:Int)=14)),U.2)) (bf x.2.1 15 (aF ((decide ((x.2.1:Int)=15)),U.2)) (aF ((decide ((x.2.1:Int)=16)),U.2))))) λJ=>(bcase J.1 (jn (α:=Bool) (obind (jh (J.p3,(aZ J.2.1.2.1))) λy15=>(bcase y15 (bK qD J.2.1.2.1 J.p3 λY=>(aF Y.2)) (aF aj))) λx14=>(af x14)) (jn (α:=Bool×dJ×Int×Int×Int×Int×Int×Int) (bf x.2.1 21 (aF ((decide ((x.2.1:Int)=21)),J.2)) (bf x.2.1 22 (aF ((decide ((x.2.1:Int)=22)),J.2)) (aF ((decide ((x.2.1:Int)=23)),J.2)))) λM=>(bcase M.1 (obind (jh (M.p3,(aZ M.2.1.p2))) λy18=>(af y18)) (jn (α:=Bool×dJ×Int×Int×Int×Int×Int×Int) (bf x.2.1 24 (aF ((decide ((x.2.1:Int)=24)),M.2)) (aF ((decide ((x.2.1:Int)=25)),M.2))) λI=>(bcase I.1 (obind (jh (I.p3,(aZ I.2.1.p4))) λy20=>(af y20)) (bf x.2.1 26 (obind (jh (I.p3,(aZ I.2.1.p3))) λy21=>(af y21)) (bf x.2.1 27 (obind (jh (I.p4,(aZ I.2.1.p3))) λy22=>(af y22)) (bf x.2.1 3 (jn (α:=Bool) (bf I.p6 4 (aF ai) (aF (decide ((I.p6:Int)=5)))) λx23=>(af x23)) (bf x.2.1 4 (jn (α:=Bool) (jz 6 I.p6 (aF (c5 I.p6 18)) (aF aj)) λx24=>(af x24)) (af ai)))))))))))))))))
def ik (x:dJ×Int×Int×List jP):Option (Bool):=
 (jn (α:=Bool×dJ×Int×List jP) (bz x.p2 0 (aF (ai,x.1,x.2.2)) (bz 32 x.p2 (aF (ai,x.1,x.2.2)) (aF ((decide (((aZ x.q3):Int)=0)),x.1,x.2.2)))) λx1=>(bcase x1.1 (af aj) (iter (σ:=Int×dJ×Int×List jP) (λJ=>(bz J.1 (aZ x.q3) (bK qJ J.q3 J.1 λY=>(jn (α:=Bool×dJ×(Int×List jP)×Int×Int×Int×Int×Int×Int) (bz Y.1 1 (aF (ai,J.2.1,J.2.2,Y)) (bz 28 Y.1 (aF (ai,J.2.1,J.2.2,Y)) (bcase (((decide ((Y.1:Int)=28))==(decide ((J.1:Int)=(bm .i64 ((aZ x.q3)-1))))) !=ai) (aF (ai,J.2.1,J.2.2,Y)) (obind (lA (J.2.1,Y)) λy5=>(bcase (!y5) (aF (ai,J.2.1,J.2.2,Y)) (obind (pd (J.q3,J.1)) λy6=>(aF ((!y6),J.2.1,J.2.2,Y)))))))) λI=>(bcase I.1 (aF aj) (jn (α:=Bool×dJ×(Int×List jP)×Int×Int×Int×Int×Int×Int) (bf I.p3 28 (iT I.q8 (-1) (aF (ai,I.2)) (iT I.p3 28 (obind (jh (I.q8,(aZ I.2.1.q5))) λy8=>(bcase (!y8) (aF (ai,I.2)) (bK oe I.2.1.q5 I.q8 λz9=>(aF ((!decide ((z9.1:Int)=x.2.1)),I.2))))) (aF (aj,I.2)))) (iT I.p3 28 (obind (jh (I.q8,(aZ I.2.1.q5))) λy10=>(bcase (!y10) (aF (ai,I.2)) (bK oe I.2.1.q5 I.q8 λz11=>(aF ((!decide ((z11.1:Int)=x.2.1)),I.2))))) (aF (aj,I.2)))) λU=>(bcase U.1 (aF aj) (jn (α:=Bool×dJ×(Int×List jP)×Int×Int×Int×Int×Int×Int) (bf U.p3 5 (obind (jh (U.p4,(aZ x.q3))) λy13=>(bcase (!y13) (aF (ai,U.2)) (bf U.p3 10 (obind (jh (U.p5,(aZ x.q3))) λy14=>(aF ((!y14),U.2))) (aF (aj,U.2))))) (bf U.p3 10 (obind (jh (U.p5,(aZ x.q3))) λy15=>(aF ((!y15),U.2))) (aF (aj,U.2)))) λZ=>(bcase Z.1 (aF aj) (obind (jD Z.q3) λy16=>(iter (σ:=Int×dJ×Int×List jP) (λM=>(bz M.1 (aZ y16) (bK aN y16 M.1 λz18=>(obind (jh (z18,M.p2)) λy19=>(bcase (!y19) (aF (bW aj)) (cP ((cF M.1),M.2))))) (aF (nh ((cF J.1),M.2))))) (0,Z.2.1,Z.p2)))))))))) (aF ai))) (0,x1.2))))
def jC (x:dJ×List (Int×List jP)):Option (Bool):=
 (jn (α:=Bool×dJ×List (Int×List jP)) (obind (hP x.1) λY=>(bcase (!Y) (aF (ai,x)) (aF ((!decide (((aZ x.2):Int)=(aZ x.1.p4))),x)))) λJ=>(bcase J.1 (af aj) (iter (σ:=Int×dJ×List (Int×List jP)) (λI=>(bz I.1 (aZ I.2.2) (bK wH I.2.2 I.1 λM=>(obind (ik (I.2.1,I.1,M)) λU=>(bcase (!U) (aF aj) (cP ((cF I.1),I.2))))) (aF ai))) (0,J.2))))
def cB (x:jP×rE×List jP):Option (rE×List jP):=
 (bF (bd (al x.2.2+al ([(x.1.1,x.1.2.1,x.1.p2,x.1.p3,x.1.p4,x.2.1.p7)])) 48) (af (x.2.1,(x.2.2++([(x.1.1,x.1.2.1,x.1.p2,x.1.p3,x.1.p4,x.2.1.p7)])))))
def qm (rr06_gen_value:((Xp×Int)×rE×List jP)->Option (rE×List jP)) (x:(Xp×Int)×rE×List jP):Option (rE×List jP):=
 (jn (α:=rE×List jP) (bf (Xp.op x.1.1) 1 (obind (cB ((1,x.1.2,0,0,(Xp.n x.1.1),0),x.2)) λy2=>(bF (aC (al x.2.2) (al x.2.2)&&ai) (aF y2))) (bf (Xp.op x.1.1) 2 (obind (iW (x.2.1.p6,(Xp.name x.1.1))) λy3=>(jz 0 y3 (obind (cB ((2,x.1.2,y3,0,0,0),x.2)) λy4=>(bF (aC (al x.2.2) (al x.2.2)&&ai) (aF y4))) (obind (li ((x.2.1.1,x.2.1.2.1,x.2.1.p2,x.2.1.p3,x.2.1.p4,x.2.1.p5),(Xp.name x.1.1))) λy5=>(obind (cB ((6,x.1.2,y5,0,0,0),x.2)) λy6=>(bF (aC (al x.2.2) (al x.2.2)&&ai) (aF y6)))))) (bf (Xp.op x.1.1) 3 (bK (.ex) (Xp.l x.1.1) 0 λz7=>(obind (rr06_gen_value ((z7,x.1.2),x.2)) λI=>(bF (aC (al x.2.2) (al x.2.2)&&ai) (obind (li ((I.1.1,I.1.2.1,I.1.p2,I.1.p3,I.1.p4,I.1.p5),(Xp.name x.1.1))) λy9=>(bK kx I.1.1 y9 λz10=>(obind (cB ((7,x.1.2,y9,x.1.2,z10.2.2.1,0),I)) λy11=>(bF (aC (al I.2) (al I.2)&&ai) (aF y11)))))))) (bf (aO (al (Xp.l x.1.1))) 1 (bK (.ex) (Xp.l x.1.1) 0 λz12=>(obind (rr06_gen_value ((z12,x.1.2),x.2)) λU=>(bF (aC (al x.2.2) (al x.2.2)&&ai) (obind (cB ((3,x.1.2,x.1.2,0,(Xp.op x.1.1),0),U)) λy14=>(bF (aC (al U.2) (al U.2)&&ai) (aF y14)))))) (bK (.ex) (Xp.l x.1.1) 0 λZ=>(obind (rr06_gen_value ((Z,x.1.2),x.2)) λM=>(bF (aC (al x.2.2) (al x.2.2)&&ai) (bK (.ex) (Xp.l x.1.1) 1 λY=>(obind (rr06_gen_value ((Y,(cF x.1.2)),M)) λJ=>(bF (aC (al M.2) (al M.2)&&ai) (obind (cB ((4,x.1.2,x.1.2,(cF x.1.2),(Xp.op x.1.1),0),J)) λy19=>(bF (aC (al J.2) (al J.2)&&ai) (aF y19))))))))))))) λx1=>(af x1))
def iH:Nat->((Xp×Int)×rE×List jP)->Option (rE×List jP)
 |0,_=>ah
 |n+1,x=>qm (iH n) x
theorem Ai (n:Nat) (x:(Xp×Int)×rE×List jP):iH (n+1) x=qm (iH n) x:=rfl
def iG (x:(Xp×Int)×rE×List jP):Option (rE×List jP):=iH fuel x
def lQ (x:Sx×rE×List jP):Option (rE×List jP):=
 (bz 0 (aO (al (Sx.index x.1))) (bK (.ex) (Sx.index x.1) 0 λz1=>(obind (iG ((z1,(aZ x.2.1.p6)),x.2)) λM=>(bF (aC (al x.2.2) (al x.2.2)&&ai) (obind (iG ((dW ((Xp.op (Sx.expr x.1)),(Xp.n (Sx.expr x.1)),(Xp.name (Sx.expr x.1)),(Xp.l (Sx.expr x.1))),(bm .i64 ((aZ x.2.1.p6)+1))),M)) λJ=>(bF (aC (al M.2) (al M.2)&&ai) (obind (li ((J.1.1,J.1.2.1,J.1.p2,J.1.p3,J.1.p4,J.1.p5),(Sx.name x.1))) λy4=>(bK kx J.1.1 y4 λz5=>(obind (cB ((9,y4,(bm .i64 ((aZ x.2.1.p6)+1)),(aZ x.2.1.p6),z5.2.2.1,0),J)) λy6=>(bF (aC (al J.2) (al J.2)&&ai) (af y6)))))))))) (obind (iG ((dW ((Xp.op (Sx.expr x.1)),(Xp.n (Sx.expr x.1)),(Xp.name (Sx.expr x.1)),(Xp.l (Sx.expr x.1))),(aZ x.2.1.p6)),x.2)) λI=>(bF (aC (al x.2.2) (al x.2.2)&&ai) (obind (iW (I.1.p6,(Sx.name x.1))) λZ=>(jz 0 Z (obind (cB ((2,Z,(aZ x.2.1.p6),0,0,0),I)) λy9=>(bF (aC (al I.2) (al I.2)&&ai) (af y9))) (obind (li ((I.1.1,I.1.2.1,I.1.p2,I.1.p3,I.1.p4,I.1.p5),(Sx.name x.1))) λY=>(obind (cB ((8,Y,(aZ x.2.1.p6),0,0,0),I)) λU=>(bF (aC (al I.2) (al I.2)&&ai) (af U)))))))))
def jq (x:(List UInt8)×rE×List jP):Option (Int×rE×List jP):=
 (iter (σ:=Int×rE×List jP) (λI=>(bz I.1 (aZ I.2.1.p2) (bK k_ I.2.1.p2 I.1 λJ=>(bcase (decide ((J.1:List UInt8)=x.1)) (aF I) (cP ((cF I.1),I.2)))) (aF ((-1),I.2)))) (0,x.2))
def qn (rr06_gen_stmts:aac->Option (rE×List jP)) (rr06_gen_stmt:LB->Option (rE×List jP)) (rr06_gen_branches:LB->Option (rE×List jP)) (rr06_gen_around:aad->Option (rE×List jP)) (x:(List Sx)×rE×List jP):Option (rE×List jP):=
 (iter (σ:=Int×rE×List jP) (λI=>(bz I.1 (aZ x.1) (bK (.sm) x.1 I.1 λJ=>(obind (rr06_gen_stmt (J,I.2)) λM=>(bF (aC (al I.2.2) (al I.2.2)&&ai) (cP ((cF I.1),M))))) (aF I.2))) (0,x.2))
def rP (rr06_gen_stmts:aac->Option (rE×List jP)) (rr06_gen_stmt:LB->Option (rE×List jP)) (rr06_gen_branches:LB->Option (rE×List jP)) (rr06_gen_around:aad->Option (rE×List jP)) (x:Sx×rE×List jP):Option (rE×List jP):=
 (jn (α:=rE×List jP) (bf (Sx.op x.1) 1 (obind (lQ (dZ x.1,(x.2.1.1,x.2.1.2.1,x.2.1.p2,x.2.1.p3,x.2.1.p4,x.2.1.p5,x.2.1.p6,x.2.1.q8,(cF x.2.1.q8)),x.2.2)) λy2=>(bF (aC (al x.2.2) (al x.2.2)&&ai) (aF y2))) (jn (α:=Bool×rE×Sx×List jP) (bf (Sx.op x.1) 2 (aF ((decide (((Sx.op x.1):Int)=2)),(x.2.1.1,x.2.1.2.1,x.2.1.p2,x.2.1.p3,x.2.1.p4,x.2.1.p5,x.2.1.p6,x.2.1.q8,(cF x.2.1.q8)),dZ x.1,x.2.2)) (aF ((decide (((Sx.op x.1):Int)=3)),(x.2.1.1,x.2.1.2.1,x.2.1.p2,x.2.1.p3,x.2.1.p4,x.2.1.p5,x.2.1.p6,x.2.1.q8,(cF x.2.1.q8)),dZ x.1,x.2.2))) λI=>(bcase I.1 (obind (rr06_gen_branches (dZ I.p2,I.2.1,I.q3)) λy4=>(bF (aC (al I.q3) (al I.q3)&&ai) (aF y4))) (bf (Sx.op x.1) 4 (obind (j_ (I.2.1.2.1,(Sx.name I.p2))) λy5=>(obind (rr06_gen_around ((dZ I.p2,11,12,y5),I.2.1,I.q3)) λy6=>(bF (aC (al I.q3) (al I.q3)&&ai) (aF y6)))) (bf (Sx.op x.1) 5 (obind (j_ (I.2.1.2.1,(Sx.name I.p2))) λy7=>(obind (rr06_gen_around ((dZ I.p2,13,14,y7),I.2.1,I.q3)) λy8=>(bF (aC (al I.q3) (al I.q3)&&ai) (aF y8)))) (bf (Sx.op x.1) 6 (obind (j_ (I.2.1.2.1,(Sx.name I.p2))) λy9=>(obind (rr06_gen_around ((dZ I.p2,15,16,y9),I.2.1,I.q3)) λy10=>(bF (aC (al I.q3) (al I.q3)&&ai) (aF y10)))) (bf (Sx.op x.1) 7 (obind (rr06_gen_around ((dZ I.p2,17,18,0),I.2.1,I.q3)) λy11=>(bF (aC (al I.q3) (al I.q3)&&ai) (aF y11))) (bf (Sx.op x.1) 8 (obind (rr06_gen_around ((dZ I.p2,19,20,0),I.2.1,I.q3)) λy12=>(bF (aC (al I.q3) (al I.q3)&&ai) (aF y12))) (bf (Sx.op x.1) 9 (obind (jq ((Sx.name I.p2),I.2.1,I.q3)) λU=>(bF (aC (al I.q3) (al U.2.2)&&ai) (obind (cB ((21,U.1,0,0,0,0),U.2)) λy14=>(bF (aC (al U.2.2) (al U.2.2)&&ai) (aF y14))))) (bf (Sx.op x.1) 10 (obind (jq ((Sx.name I.p2),I.2.1,I.q3)) λM=>(bF (aC (al I.q3) (al M.2.2)&&ai) (obind (cB ((22,M.1,0,0,0,0),M.2)) λy16=>(bF (aC (al M.2.2) (al M.2.2)&&ai) (aF y16))))) (bf (Sx.op x.1) 11 (obind (jq ((Sx.name I.p2),I.2.1,I.q3)) λJ=>(bF (aC (al I.q3) (al J.2.2)&&ai) (obind (cB ((23,J.1,0,0,0,0),J.2)) λy18=>(bF (aC (al J.2.2) (al J.2.2)&&ai) (aF y18))))) (bf (Sx.op x.1) 12 (obind (iW (I.2.1.p4,(Sx.name I.p2))) λy19=>(obind (cB ((24,y19,0,0,0,0),I.2.1,I.q3)) λy20=>(bF (aC (al I.q3) (al I.q3)&&ai) (aF y20)))) (bf (Sx.op x.1) 13 (obind (iW (I.2.1.p4,(Sx.name I.p2))) λy21=>(obind (cB ((25,y21,0,0,0,0),I.2.1,I.q3)) λy22=>(bF (aC (al I.q3) (al I.q3)&&ai) (aF y22)))) (bf (Sx.op x.1) 14 (obind (iG ((dW ((Xp.op (Sx.expr I.p2)),(Xp.n (Sx.expr I.p2)),(Xp.name (Sx.expr I.p2)),(Xp.l (Sx.expr I.p2))),(aZ x.2.1.p6)),I.2.1,I.q3)) λY=>(bF (aC (al I.q3) (al I.q3)&&ai) (obind (iW (Y.1.p3,(Sx.name I.p2))) λy24=>(obind (cB ((26,y24,(aZ x.2.1.p6),0,0,0),Y)) λy25=>(bF (aC (al Y.2) (al Y.2)&&ai) (aF y25)))))) (bf (Sx.op x.1) 15 (obind (iW (I.2.1.p6,(Sx.name I.p2))) λy26=>(obind (iW (I.2.1.p3,(Sx.arg I.p2))) λy27=>(obind (cB ((27,y26,y27,0,0,0),I.2.1,I.q3)) λZ=>(bF (aC (al I.q3) (al I.q3)&&ai) (aF Z))))) (aF (I.2.1,I.q3))))))))))))))))) λx1=>(af x1))
def ml (rr06_gen_stmts:aac->Option (rE×List jP)) (rr06_gen_stmt:LB->Option (rE×List jP)) (rr06_gen_branches:LB->Option (rE×List jP)) (rr06_gen_around:aad->Option (rE×List jP)) (x:Sx×rE×List jP):Option (rE×List jP):=
 (obind (iG ((dW ((Xp.op (Sx.expr x.1)),(Xp.n (Sx.expr x.1)),(Xp.name (Sx.expr x.1)),(Xp.l (Sx.expr x.1))),(aZ x.2.1.p6)),x.2)) λJ=>(bF (aC (al x.2.2) (al x.2.2)&&ai) (obind (cB ((10,(aZ J.1.p6),0,0,0,0),J)) λZ=>(bF (aC (al J.2) (al J.2)&&ai) (obind (rr06_gen_stmts ((Sx.body x.1),Z)) λI=>(bF (aC (al Z.2) (al Z.2)&&ai) (bf (Sx.op x.1) 3 (obind (cB ((5,(aZ x.2.2),0,0,0,0),(I.1.1,I.1.2.1,I.1.p2,I.1.p3,I.1.p4,I.1.p5,I.1.p6,x.2.1.p7,I.1.q8),I.2)) λU=>(bF (aC (al I.2) (al I.2)&&ai) (ck (fI (aZ J.2) (al U.2)) (af (U.1,(cO U.2 (aZ J.2) ((aJ (T:=qJ) U.2 (aZ J.2)).1,((aJ (T:=qJ) U.2 (aZ J.2)).2).1,(aZ U.2),(((aJ (T:=qJ) U.2 (aZ J.2)).2).2).2))))))) (bf (aO (al (Sx.els x.1))) 0 (ck (fI (aZ J.2) (al I.2)) (af ((I.1.1,I.1.2.1,I.1.p2,I.1.p3,I.1.p4,I.1.p5,I.1.p6,x.2.1.p7,I.1.q8),(cO I.2 (aZ J.2) ((aJ (T:=qJ) I.2 (aZ J.2)).1,((aJ (T:=qJ) I.2 (aZ J.2)).2).1,(aZ I.2),(((aJ (T:=qJ) I.2 (aZ J.2)).2).2).2))))) (obind (cB ((5,0,0,0,0,0),(I.1.1,I.1.2.1,I.1.p2,I.1.p3,I.1.p4,I.1.p5,I.1.p6,x.2.1.p7,I.1.q8),I.2)) λM=>(bF (aC (al I.2) (al I.2)&&ai) (ck (fI (aZ J.2) (al M.2)) (obind (rr06_gen_stmts ((Sx.els x.1),M.1,(cO M.2 (aZ J.2) ((aJ (T:=qJ) M.2 (aZ J.2)).1,((aJ (T:=qJ) M.2 (aZ J.2)).2).1,(aZ M.2),(((aJ (T:=qJ) M.2 (aZ J.2)).2).2).2)))) λY=>(bF (aC (al (cO M.2 (aZ J.2) ((aJ (T:=qJ) M.2 (aZ J.2)).1,((aJ (T:=qJ) M.2 (aZ J.2)).2).1,(aZ M.2),(((aJ (T:=qJ) M.2 (aZ J.2)).2).2).2))) (al (cO M.2 (aZ J.2) ((aJ (T:=qJ) M.2 (aZ J.2)).1,((aJ (T:=qJ) M.2 (aZ J.2)).2).1,(aZ M.2),(((aJ (T:=qJ) M.2 (aZ J.2)).2).2).2)))&&ai) (ck (fI (aZ I.2) (al Y.2)) (af (Y.1,(cO Y.2 (aZ I.2) ((aJ (T:=qJ) Y.2 (aZ I.2)).1,(aZ Y.2),((aJ (T:=qJ) Y.2 (aZ I.2)).2).2))))))))))))))))))
def oR (rr06_gen_stmts:aac->Option (rE×List jP)) (rr06_gen_stmt:LB->Option (rE×List jP)) (rr06_gen_branches:LB->Option (rE×List jP)) (rr06_gen_around:aad->Option (rE×List jP)) (x:(Sx×Int×Int×Int)×rE×List jP):Option (rE×List jP):=
 (obind (cB ((x.1.2.1,x.1.q3,0,0,0,0),x.2)) λJ=>(bF (aC (al x.2.2) (al x.2.2)&&ai) (obind (rr06_gen_stmts ((Sx.body x.1.1),J)) λI=>(bF (aC (al J.2) (al J.2)&&ai) (obind (cB ((x.1.p2,x.1.q3,0,0,0,0),(I.1.1,I.1.2.1,I.1.p2,I.1.p3,I.1.p4,I.1.p5,I.1.p6,x.2.1.p7,I.1.q8),I.2)) λM=>(bF (aC (al I.2) (al I.2)&&ai) (af M)))))))
mutual
def dI:Nat->aac->Option (rE×List jP)
 |0,_=>ah
 |n+1,x=>qn (dI n) (eK n) (c_ n) (dE n) x
def eK:Nat->LB->Option (rE×List jP)
 |0,_=>ah
 |n+1,x=>rP (dI n) (eK n) (c_ n) (dE n) x
def c_:Nat->LB->Option (rE×List jP)
 |0,_=>ah
 |n+1,x=>ml (dI n) (eK n) (c_ n) (dE n) x
def dE:Nat->aad->Option (rE×List jP)
 |0,_=>ah
 |n+1,x=>oR (dI n) (eK n) (c_ n) (dE n) x
end
def tS (x:(List Sx)×rE×List jP):Option (rE×List jP):=dI fuel x
def qf (x:rW×List rV):Option (zq×Int×Int):=
 (obind (fd x) λy1=>(iT y1.1 0 (af (((([]:List RK),([]:List ((List UInt8)×Bool)),([]:List fe),([]:List (List UInt8)),([]:List (List UInt8)),([]:List (Int×Int×Int))),([]:List (Int×List jP))),y1)) (obind (tU x) λy2=>(iter (σ:=(Int×Int)×(rW×List rV)×dJ×List (Int×List jP)) (λJ=>(bz J.1.2 (aZ J.2.1.2) (bK sL J.2.1.2 J.1.2 λz4=>(bK sL J.2.1.2 J.1.2 λz5=>(obind (tS (z5.2.2.2,(J.p2.1,J.p2.2.1,J.p2.p2,J.p2.p3,J.p2.p4,J.p2.q5,z4.2.2.1,0,J.1.1),([]:List jP))) λU=>(bF (aC (al ([]:List jP)) (al ([]:List jP))&&ai) (obind (cB ((28,0,0,0,0,0),(U.1.1,U.1.2.1,U.1.p2,U.1.p3,U.1.p4,U.1.p5,U.1.p6,(-1),U.1.q8),U.2)) λy7=>(bF (aC (al U.2) (al U.2)&&ai) (iter (σ:=Int×(rW×List rV)×dJ×rE×Int×(List (Int×List jP))×List jP) (λM=>(bz M.1 (aZ M.q6) (kZ qJ M.q6 M.1 λz9=>(obind (jD z9) λY=>(iter (σ:=Int×(rW×List rV)×dJ×rE×Int×(List (Int×List jP))×List jP) (λI=>(bz I.1 (aZ Y) (bK aN Y I.1 λZ=>(cP ((cF I.1),I.2.1,I.p2,I.p3,(ko I.p4 (cF Z)),I.q5))) (aF (nh ((cF M.1),I.2))))) (0,M.2)))) (obind (bF (bd (al M.p5+al ([(M.p4,M.q6)])) 32) (cP ((U.1.q8,(cF J.1.2)),M.2.1,M.p2,(M.p5++([(M.p4,M.q6)]))))) λr=>af (bW r)))) (0,J.2.1,J.p2,y7.1,(aZ y7.1.p6),J.q3,y7.2)))))))) (aF (J.2.2,0,0)))) ((0,0),x,y2,([]:List (Int×List jP)))))))
def qe (x:(List Int)×Int):Option (Bool):=
 (iter (σ:=Int) (λI=>(bz I (aZ x.1) (bK aN x.1 I λJ=>(bf J x.2 (aF ai) (cP (cF I)))) (aF aj))) 0)
def vP (x:(List Int)×Int):Option (List Int):=
 (iter (σ:=Int) (λI=>(jn (α:=Bool) (bz I (aZ x.1) (bK aN x.1 I λM=>(aF (fO M x.2))) (aF aj)) λY=>(bcase Y (cP (cF I)) (obind (jn (α:=Bool) (bz I (aZ x.1) (bK aN x.1 I λJ=>(aF (decide ((J:Int)=x.2)))) (aF aj)) λU=>(bcase U (af x.1) (bF (c5 0 I&&c5 I (al x.1)) (bF (bd (al ([]:List Int)+al (dM (aU I) x.1)) 8) (bF (bd (al (([]:List Int)++(dM (aU I) x.1))+al ([x.2])) 8) (bF (c5 0 I&&c5 I (al x.1)) (bF (bd (al ((([]:List Int)++(dM (aU I) x.1))++([x.2]))+al (List.drop (aU I) x.1)) 8) (af (((([]:List Int)++(dM (aU I) x.1))++([x.2]))++(List.drop (aU I) x.1)))))))))) λr=>af (bW r))))) 0)
def rc (x:(List Int)×List Int):Option (List Int):=
 (iter (σ:=(List Int)×Int) (λJ=>(bz J.2 (aZ x.1) (bK aN x.1 J.2 λU=>(obind (vP (J.1,U)) λZ=>(cP (Z,(cF J.2))))) (obind (iter (σ:=(List Int)×Int) (λI=>(bz I.2 (aZ x.2) (bK aN x.2 I.2 λM=>(obind (vP (I.1,M)) λY=>(cP (Y,(cF I.2))))) (aF I.1))) (J.1,0)) λr=>af (bW r)))) (([]:List Int),0))
def ma (x:Int):Option (Int):=
 (jn (α:=Bool) (bz x 1 (aF ai) (aF (fO 100 x))) λI=>(bcase I (af 0) (af x)))
def ch (x:Int×(List Int)×(List (List Int))×Int):Option ((Int×Int)×(List Int)×List (List Int)):=
 (bF (bd (al ([]:List Int)+al x.2.1) 8) (iter (σ:=Int×tI×(Int×Int)×(Int×Int)×(List Int)×List (List Int)) (λI=>(bz I.1 (aZ I.2.1.p2) (bK (.sl aN) I.2.1.p2 I.1 λJ=>(bF (bd (al ([]:List Int)+al J) 8) (bF (bd (al I.q5+al ([(([]:List Int)++J)])) 24) (cP ((cF I.1),I.2.1,I.p2,I.p3,I.p4,(I.q5++([(([]:List Int)++J)]))))))) (aF I.q3))) (0,x,(0,0),(x.1,x.q3),(([]:List Int)++x.2.1),([]:List (List Int)))))
def vO (x:(jP×Int×Int)×(List Int)×List (List Int)):Option (((Int×Int)×Bool)×(List Int)×List (List Int)):=
 (obind (jD x.1.1) λy1=>(iter (σ:=Int×(List Int)×(List (List Int))×jP×(Int×Int)×Int×Int) (λI=>(bz I.1 (aZ y1) (jn (α:=Bool×(List Int)×(List (List Int))×jP×(Int×Int)×Int×Int) (bK aN y1 I.1 λz4=>(bz z4 0 (aF (ai,I.2)) (bK aN y1 I.1 λz5=>(aF ((c5 (aZ I.2.1) z5),I.2))))) λx3=>(bcase x3.1 ah (cP ((cF I.1),x3.2)))) (obind (jn (α:=(Int×Bool×List Int)×(List Int)×(List (List Int))×jP×(Int×Int)×Int×Int) (bf I.p3.1 5 (cP (((I.p3.2.1,I.p4.2),ai),I.2.1,I.p2)) (bf I.p3.1 1 (aF ((I.p3.p4,ai,([]:List Int)),I.2)) (bf I.p3.1 2 (kZ aN I.2.1 I.p3.p2 λz7=>(kZ (.sl aN) I.p2 I.p3.p2 λz8=>(aF ((z7,ai,z8),I.2)))) (bf I.p3.1 3 (obind (ma I.p3.p4) λy9=>(kZ aN I.2.1 I.p3.p2 λz10=>(obind (tV (y9,z10)) λU=>(kZ (.sl aN) I.p2 I.p3.p2 λz12=>(aF ((U.1,U.2,z12),I.2)))))) (obind (ma I.p3.p4) λy13=>(kZ aN I.2.1 I.p3.p2 λz14=>(kZ aN I.2.1 I.p3.p3 λz15=>(obind (r7 (y13,z14,z15)) λM=>(kZ (.sl aN) I.p2 I.p3.p2 λZ=>(kZ (.sl aN) I.p2 I.p3.p3 λY=>(obind (rc (Z,Y)) λy19=>(aF ((M.1,M.2,y19),I.2))))))))))))) λJ=>(bF (bd (al ([]:List Int)+al J.1.2.2) 8) (ck (fI J.p3.2.1 (al J.2.1)) (ck (fI J.p3.2.1 (al J.p2)) (af ((((cF J.p4.1),J.p4.2),J.1.2.1),(cO J.2.1 J.p3.2.1 J.1.1),(cO J.p2 J.p3.2.1 (([]:List Int)++J.1.2.2)))))))) λr=>af (bW r)))) (0,x.2.1,x.2.2,x.1.1,x.1.2,0,0)))
def mQ (x:(Int×List jP)×Int×(List Int)×(List (List Int))×Int):Option (tI×Bool):=
 (jn (α:=Bool×(Int×List jP)×tI×Int×Int) (iT (aZ x.p2) x.1.1 (aF (ai,x.1,x.2,0,0)) (aF ((!decide (((aZ x.p3):Int)=x.1.1)),x.1,x.2,0,0))) λU=>(bcase U.1 (af ((0,([]:List Int),([]:List (List Int)),0),aj)) (obind (ch U.p2) λZ=>(iter (σ:=Int×(Int×List jP)×(Int×Int)×(Int×Int)×(List Int)×List (List Int)) (λJ=>(jz J.1 (aZ J.2.1.2) (jn (α:=Bool×(Int×List jP)×(Int×Int)×(Int×Int)×(List Int)×List (List Int)) (bz J.p2.1 0 (aF (ai,J.2)) (aF ((c5 (aZ J.2.1.2) J.p2.1),J.2))) λI=>(bcase I.1 (aF ((0,([]:List Int),([]:List (List Int)),0),aj)) (bK qJ I.2.1.2 I.p2.1 λY=>(obind (px Y.1) λy6=>(bcase (!y6) (aF ((I.p2.1,I.p4,I.q5,I.p2.2),ai)) (bf J.1 (aZ I.2.1.2) (aF ((0,([]:List Int),([]:List (List Int)),0),aj)) (obind (vO ((Y,I.p2),I.q4)) λM=>(bF (aC (al I.q5) (al M.2.2)&&(aC (al I.p4) (al M.2.1)&&ai)) (bcase (!M.1.2) (aF ((0,([]:List Int),([]:List (List Int)),0),aj)) (cP ((cF J.1),I.2.1,M.1.1,I.p3,M.2))))))))))) (aF ((0,([]:List Int),([]:List (List Int)),0),aj)))) (0,U.2.1,Z.1,U.q3,Z.2)))))
def qZ (x:gI×gq×(List fe)×b_×b_×List (Int×Int×Int)):Option oW:=
 (iter (σ:=Int×dJ×Int×Int×List (Int×List Int)) (λM=>(bz M.1 (aZ M.2.1.2.1) (bF (bd (al M.q4+al ([((-1),([]:List Int))])) 32) (cP ((cF M.1),M.2.1,M.p2,M.p3,(M.q4++([((-1),([]:List Int))]))))) (obind (iter (σ:=Int×dJ×Int×Int×gA×List Bool) (λJ=>(bz J.1 (aZ J.2.1.p3) (bF (bd (al J.q5+al ([aj])) 1) (cP ((cF J.1),J.2.1,J.p2,J.p3,J.p4,(J.q5++([aj]))))) (obind (iter (σ:=Int×dJ×Int×Int×gA×(List Bool)×List du) (λI=>(bz I.1 (aZ I.2.1.p4) (jn (α:=dJ×Int×Int×du×gA×(List Bool)×List du) (bf I.1 0 (aF (I.2.1,I.p2,I.p3,(1,0,aj),I.q4)) (aF (I.2.1,I.p2,I.p3,(0,0,aj),I.q4))) λU=>(bF (bd (al U.q6+al ([U.p3])) 24) (cP ((cF I.1),U.1,U.2.1,U.p2,U.p4,U.p5,(U.q6++([U.p3])))))) (aF (I.p4,I.p3,I.q5)))) (0,J.2.1,J.p2,J.p3,J.p4,J.q5,([]:List du))) λr=>af (bW r)))) (0,M.2.1,M.p2,M.p3,M.q4,([]:List Bool))) λr=>af (bW r)))) (0,x,0,(-1),([]:List (Int×List Int))))
def q_ (x:dJ×gA×Int×(List Bool)×List du):Option (Bool):=
 (iter (σ:=Int×dJ×gA×Int×(List Bool)×List du) (λI=>(bz I.1 (aZ I.2.1.p2) (jn (α:=Bool×dJ×gA×Int×(List Bool)×List du) (bK k_ I.2.1.p2 I.1 λU=>(bz U.2 0 (aF (ai,I.2)) (bK k_ I.2.1.p2 I.1 λM=>(aF ((c5 (aZ I.2.1.2.1) M.2),I.2))))) λJ=>(bcase J.1 (aF aj) (cP ((cF I.1),J.2)))) (obind (jn (α:=Bool) (bf (aZ I.p2) (aZ I.2.1.2.1) (bf (aZ I.p4) (aZ I.2.1.p3) (aF (decide (((aZ I.q5):Int)=(aZ I.2.1.p4)))) (aF aj)) (aF aj)) λY=>(af Y)) λr=>af (bW r)))) (0,x))
def qd (x:Int×Int):Option (Bool):=
 (jn (α:=Bool) (jz 0 x.1 (aF (fO x.1 x.2)) (aF aj)) λI=>(af I))
def tR (x:dJ×Int×Int):Option (Bool):=
 (jn (α:=Bool×gI×gq×(List fe)×b_×b_×List (Int×Int×Int)) (bf x.2.1 1 (aF ((decide ((x.2.1:Int)=1)),x.1)) (bf x.2.1 2 (aF ((decide ((x.2.1:Int)=2)),x.1)) (bf x.2.1 5 (aF ((decide ((x.2.1:Int)=5)),x.1)) (bf x.2.1 12 (aF ((decide ((x.2.1:Int)=12)),x.1)) (bf x.2.1 13 (aF ((decide ((x.2.1:Int)=13)),x.1)) (bf x.2.1 14 (aF ((decide ((x.2.1:Int)=14)),x.1)) (aF ((decide ((x.2.1:Int)=15)),x.1)))))))) λx1=>(bcase x1.1 (af (decide ((x.2.2:Int)=(-1)))) (jn (α:=Bool×gI×gq×(List fe)×b_×b_×List (Int×Int×Int)) (bf x.2.1 3 (aF ((decide ((x.2.1:Int)=3)),x1.2)) (aF ((decide ((x.2.1:Int)=4)),x1.2))) λZ=>(bcase Z.1 (obind (qd (x.2.2,(aZ Z.2.1))) λy3=>(af y3)) (jn (α:=Bool×gI×gq×(List fe)×b_×b_×List (Int×Int×Int)) (bf x.2.1 6 (aF ((decide ((x.2.1:Int)=6)),Z.2)) (aF ((decide ((x.2.1:Int)=7)),Z.2))) λU=>(bcase U.1 (jn (α:=Bool) (obind (qd (x.2.2,(aZ U.p2))) λy6=>(bcase y6 (bK qD U.p2 x.2.2 λz7=>(aF (!z7.2))) (aF aj))) λx5=>(af x5)) (jn (α:=Bool×gI×gq×(List fe)×b_×b_×List (Int×Int×Int)) (bf x.2.1 8 (aF ((decide ((x.2.1:Int)=8)),U.2)) (bf x.2.1 9 (aF ((decide ((x.2.1:Int)=9)),U.2)) (bf x.2.1 10 (aF ((decide ((x.2.1:Int)=10)),U.2)) (aF ((decide ((x.2.1:Int)=11)),U.2))))) λM=>(bcase M.1 (jn (α:=Bool) (obind (qd (x.2.2,(aZ M.p2))) λy10=>(bcase y10 (bK qD M.p2 x.2.2 λz11=>(aF z11.2)) (aF aj))) λx9=>(af x9)) (jn (α:=Bool×gI×gq×(List fe)×b_×b_×List (Int×Int×Int)) (bf x.2.1 16 (aF ((decide ((x.2.1:Int)=16)),M.2)) (bf x.2.1 17 (aF ((decide ((x.2.1:Int)=17)),M.2)) (bf x.2.1 18 (aF ((decide ((x.2.1:Int)=18)),M.2)) (aF ((decide ((x.2.1:Int)=19)),M.2))))) λJ=>(bcase J.1 (obind (qd (x.2.2,(aZ J.p3))) λy13=>(af y13)) (jn (α:=Bool×gI×gq×(List fe)×b_×b_×List (Int×Int×Int)) (bf x.2.1 20 (aF ((decide ((x.2.1:Int)=20)),J.2)) (aF ((decide ((x.2.1:Int)=21)),J.2))) λI=>(bcase I.1 (obind (qd (x.2.2,(aZ I.p5))) λy15=>(af y15)) (jn (α:=Bool×gI×gq×(List fe)×b_×b_×List (Int×Int×Int)) (bf x.2.1 22 (aF ((decide ((x.2.1:Int)=22)),I.2)) (aF ((decide ((x.2.1:Int)=23)),I.2))) λY=>(bcase Y.1 (obind (qd (x.2.2,(aZ Y.p4))) λy17=>(af y17)) (af aj)))))))))))))))
def j9 (x:dJ×oW×Int×Int×Int):Option (Bool):=
 (jn (α:=Bool×dJ×gA×Int×(List Bool)×List du) (obind (q_ (x.1,x.2.1)) λy2=>(bcase (!y2) (aF (ai,x.1,x.2.1)) (obind (qd (x.p2,(aZ x.1.p4))) λy3=>(bcase (!y3) (aF (ai,x.1,x.2.1)) (obind (tR (x.1,x.q3)) λy4=>(aF ((!y4),x.1,x.2.1))))))) λM=>(bcase M.1 (af aj) (bK h_ M.q5 x.p2 λU=>(bf x.p3 1 (af (decide ((U.1:Int)=1))) (bf x.p3 17 (jn (α:=Bool) (bf U.1 4 (bf U.2.1 x.q4 (bK k_ M.2.1.p2 x.q4 λz7=>(bK dV M.p2 z7.2 λz8=>(aF (decide ((z8.1:Int)=(-1)))))) (aF aj)) (aF aj)) λx6=>(af x6)) (iT U.1 2 (af aj) (bf x.p3 6 (bK dV M.p2 x.q4 λz9=>(af (decide ((z9.1:Int)=(-1))))) (bf x.p3 10 (jn (α:=Bool) (bK dV M.p2 x.q4 λz11=>(bf z11.1 (-1) (bK dV M.p2 x.q4 λz12=>(aF (decide (((aZ z12.2):Int)=0)))) (aF aj))) λx10=>(af x10)) (bf x.p3 8 (jn (α:=Bool) (bK dV M.p2 x.q4 λz14=>(bf z14.1 (-1) (bK dV M.p2 x.q4 λz15=>(obind (qe (z15.2,x.p2)) λy16=>(aF (!y16)))) (aF aj))) λx13=>(af x13)) (jn (α:=Bool×dJ×oW×Int×Int×Bool) (bf x.p3 7 (aF ((decide ((x.p3:Int)=7)),M.2.1,M.2.2,U)) (aF ((decide ((x.p3:Int)=11)),M.2.1,M.2.2,U))) λI=>(bcase I.1 (bK dV I.p2.1 x.q4 λz18=>(af (decide ((z18.1:Int)=x.p2)))) (bf x.p3 9 (bK dV I.p2.1 x.q4 λz19=>(obind (qe (z19.2,x.p2)) λy20=>(af y20))) (bf x.p3 12 (af (decide ((I.p2.2.1:Int)=(-1)))) (bf x.p3 13 (af (decide ((I.p2.2.1:Int)=x.p2))) (bf x.p3 14 (af (!I.q5)) (bf x.p3 15 (af I.q5) (jn (α:=Bool×dJ×gA×Int×(List Bool)×List du) (bf x.p3 16 (aF ((decide ((x.p3:Int)=16)),I.2.1,I.p2)) (bf x.p3 18 (aF ((decide ((x.p3:Int)=18)),I.2.1,I.p2)) (aF ((decide ((x.p3:Int)=19)),I.2.1,I.p2)))) λJ=>(bcase J.1 (bK k_ J.2.1.p2 x.q4 λz22=>(bK dV J.p2 z22.2 λz23=>(af (decide ((z23.1:Int)=x.p2))))) (bf x.p3 20 (jn (α:=Bool) (iT x.q4 x.p2 (bK h_ J.q5 x.q4 λz25=>(aF (decide ((z25.1:Int)=0)))) (aF aj)) λx24=>(af x24)) (bf x.p3 21 (jn (α:=Bool) (iT x.q4 x.p2 (bK h_ J.q5 x.q4 λz27=>(aF (decide ((z27.1:Int)=5)))) (aF aj)) λx26=>(af x26)) (bf x.p3 22 (bK (.bool) J.p4 x.q4 λZ=>(af (!Z))) (bf x.p3 23 (bK (.bool) J.p4 x.q4 λY=>(af Y)) (af ai)))))))))))))))))))))))
def nz (x:oW×Int):Option (List Int):=
 (iter (σ:=Int×oW×List Int) (λI=>(bz I.1 (aZ I.2.1.q3) (jn (α:=oW×List Int) (jn (α:=Bool×oW×List Int) (bK h_ I.2.1.q3 I.1 λU=>(bf U.1 3 (bK h_ I.2.1.q3 I.1 λM=>(aF ((decide ((M.2.1:Int)=x.2)),I.2))) (aF (aj,I.2)))) λJ=>(bcase J.1 (bF (bd (al J.2.2+al ([I.1])) 8) (aF (J.2.1,(J.2.2++([I.1]))))) (aF J.2))) λY=>(cP ((cF I.1),Y))) (aF I.2.2))) (0,x.1,([]:List Int)))
def qc (x:(List Int)×Int):Option (List Int):=
 (iter (σ:=Int×List Int) (λI=>(bz I.1 (aZ x.1) (jn (α:=List Int) (bK aN x.1 I.1 λM=>(iT M x.2 (bK aN x.1 I.1 λJ=>(bF (bd (al I.2+al ([J])) 8) (aF (I.2++([J]))))) (aF I.2))) λU=>(cP ((cF I.1),U))) (aF I.2))) (0,([]:List Int)))
def ij (x:gA×Int×(List Bool)×List du):Option (Int×gA×(List Bool)×List du):=
 (bF (bd (al ([]:List Bool)+al x.p2) 1) (bF (bd (al ([]:List du)+al x.q3) 24) (iter (σ:=Int×oW×Int×Int×gA×(List Bool)×List du) (λI=>(bz I.1 (aZ I.2.1.1) (bK dV I.2.1.1 I.1 λM=>(bK dV I.2.1.1 I.1 λJ=>(bF (bd (al ([]:List Int)+al J.2) 8) (bF (bd (al I.p4+al ([(M.1,(([]:List Int)++J.2))])) 32) (cP ((cF I.1),I.2.1,I.p2,I.p3,(I.p4++([(M.1,(([]:List Int)++J.2))])),I.q5)))))) (aF I.q3))) (0,x,0,x.2.1,([]:List (Int×List Int)),(([]:List Bool)++x.p2),(([]:List du)++x.q3)))))
def l_ (x:(Int×Int)×gA×(List Bool)×List du):Option ((List Int)×gA×(List Bool)×List du):=
 (iter (σ:=Int×gA×(List Bool)×(List du)×Int×List Int) (λI=>(bz I.1 (aZ I.p3) (jn (α:=gA×(List Bool)×(List du)×Int×List Int) (jn (α:=Bool×gA×(List Bool)×(List du)×Int×List Int) (kZ h_ I.p3 I.1 λU=>(bf U.1 3 (kZ h_ I.p3 I.1 λM=>(aF ((decide ((M.2.1:Int)=x.1.2)),I.2))) (aF (aj,I.2)))) λJ=>(bcase J.1 (bF (bd (al J.q5+al ([I.1])) 8) (aF (J.2.1,J.p2,J.p3,J.p4,(J.q5++([I.1]))))) (aF J.2))) λY=>(cP ((cF I.1),Y))) (aF (I.q5,I.2.1,I.p2,I.p3)))) (0,x.2.1,x.p2,x.q3,x.1.1,([]:List Int)))
def jB (x:(Int×Int)×gA×(List Bool)×List du):Option (List Int):=obind (l_ x) λy=>same y.2 x.2 (af y.1)
def o_ (x:dJ×oW×Int×Int×Int×Int):Option (oW×Int×Bool):=
 (obind (j9 (x.1,x.2.1,x.p2,x.p3,x.p4)) λy1=>(bcase (!y1) (af ((([]:List (Int×List Int)),0,([]:List Bool),([]:List du)),0,aj)) (obind (ij x.2.1) λU=>(jn (α:=Int×Int×Int×gA×(List Bool)×List du) (bf x.p3 1 (ck (fI x.p2 (al U.q3)) (aF (0,U.1,0,U.2.1,U.p2,(cO U.q3 x.p2 (2,(aJ (T:=h_) U.q3 x.p2).2))))) (bf x.p3 2 (ck (fI x.p2 (al U.q3)) (aF (0,U.1,0,U.2.1,U.p2,(cO U.q3 x.p2 (5,(aJ (T:=h_) U.q3 x.p2).2))))) (jn (α:=Bool×dJ×Int×Int×gA×(List Bool)×List du) (bf x.p3 6 (aF ((decide ((x.p3:Int)=6)),x.1,U.1,0,U.2)) (aF ((decide ((x.p3:Int)=10)),x.1,U.1,0,U.2))) λY=>(bcase Y.1 (ck (fI x.p4 (al Y.p4)) (aF (0,Y.p2,Y.p3,(cO Y.p4 x.p4 (x.p2,(aJ (T:=dV) Y.p4 x.p4).2)),Y.q5))) (jn (α:=Bool×dJ×Int×Int×gA×(List Bool)×List du) (bf x.p3 7 (aF ((decide ((x.p3:Int)=7)),Y.2)) (aF ((decide ((x.p3:Int)=11)),Y.2))) λI=>(bcase I.1 (ck (fI x.p4 (al I.p4)) (aF (0,I.p2,I.p3,(cO I.p4 x.p4 ((-1),(aJ (T:=dV) I.p4 x.p4).2)),I.q5))) (bf x.p3 8 (kZ dV I.p4 x.p4 λz6=>(obind (rc (z6.2,[x.p2])) λy7=>(ck (fI x.p4 (al I.p4)) (aF (0,I.p2,I.p3,(cO I.p4 x.p4 ((aJ (T:=dV) I.p4 x.p4).1,y7)),I.q5))))) (bf x.p3 9 (kZ dV I.p4 x.p4 λz8=>(obind (qc (z8.2,x.p2)) λy9=>(ck (fI x.p4 (al I.p4)) (aF (0,I.p2,I.p3,(cO I.p4 x.p4 ((aJ (T:=dV) I.p4 x.p4).1,y9)),I.q5))))) (bf x.p3 12 (aF (0,x.p2,I.q3)) (bf x.p3 13 (aF (0,(-1),I.q3)) (bf x.p3 14 (ck (fI x.p2 (al I.q6)) (aF (0,I.p2,I.p3,I.p4,I.p5,(cO I.q6 x.p2 ((aJ (T:=h_) I.q6 x.p2).1,((aJ (T:=h_) I.q6 x.p2).2).1,ai))))) (bf x.p3 15 (ck (fI x.p2 (al I.q6)) (aF (0,I.p2,I.p3,I.p4,I.p5,(cO I.q6 x.p2 ((aJ (T:=h_) I.q6 x.p2).1,((aJ (T:=h_) I.q6 x.p2).2).1,aj))))) (bf x.p3 16 (bK k_ I.2.1.p2 x.p4 λz10=>(ck (fI z10.2 (al I.p4)) (ck (fI x.p2 (al I.q6)) (ck (fI x.p2 (al (cO I.q6 x.p2 (3,(aJ (T:=h_) I.q6 x.p2).2)))) (aF (0,I.p2,I.p3,(cO I.p4 z10.2 ((-1),(aJ (T:=dV) I.p4 z10.2).2)),I.p5,(cO (cO I.q6 x.p2 (3,(aJ (T:=h_) I.q6 x.p2).2)) x.p2 ((aJ (T:=h_) (cO I.q6 x.p2 (3,(aJ (T:=h_) I.q6 x.p2).2)) x.p2).1,x.p4,((aJ (T:=h_) (cO I.q6 x.p2 (3,(aJ (T:=h_) I.q6 x.p2).2)) x.p2).2).2)))))))) (bf x.p3 17 (bK k_ I.2.1.p2 x.p4 λz11=>(ck (fI z11.2 (al I.p4)) (ck (fI x.p2 (al I.q6)) (ck (fI x.p2 (al (cO I.q6 x.p2 (2,(aJ (T:=h_) I.q6 x.p2).2)))) (aF (0,I.p2,I.p3,(cO I.p4 z11.2 (x.p2,(aJ (T:=dV) I.p4 z11.2).2)),I.p5,(cO (cO I.q6 x.p2 (2,(aJ (T:=h_) I.q6 x.p2).2)) x.p2 ((aJ (T:=h_) (cO I.q6 x.p2 (2,(aJ (T:=h_) I.q6 x.p2).2)) x.p2).1,0,((aJ (T:=h_) (cO I.q6 x.p2 (2,(aJ (T:=h_) I.q6 x.p2).2)) x.p2).2).2)))))))) (bf x.p3 18 (obind (jB ((I.p2,x.p4),I.q4)) λy12=>(bz 0 (aZ y12) (bK aN y12 0 λz13=>(jn (α:=Int×Int×Int×gA×(List Bool)×List du) (obind (qe (y12,x.q5)) λy15=>(bcase y15 (aF (x.q5,I.2.2)) (aF (z13,I.2.2)))) λM=>(ck (fI M.1 (al M.q5)) (aF (M.1,M.2.1,M.p2,M.p3,M.p4,(cO M.q5 M.1 (4,(aJ (T:=h_) M.q5 M.1).2))))))) (aF ((-1),I.2.2)))) (bf x.p3 19 (obind (jB ((I.p2,x.p4),I.q4)) λy16=>(iter (σ:=Int×Int×Int×gA×(List Bool)×List du) (λJ=>(bz J.1 (aZ y16) (bK aN y16 J.1 λZ=>(ck (fI Z (al J.q5)) (cP ((cF J.1),J.2.1,J.p2,J.p3,J.p4,(cO J.q5 Z (4,(aJ (T:=h_) J.q5 Z).2)))))) (aF (bW ((aZ y16),J.2))))) (0,I.2.2))) (bf x.p3 20 (ck (fI x.p4 (al I.q6)) (aF (0,I.p2,I.p3,I.p4,I.p5,(cO I.q6 x.p4 (1,(aJ (T:=h_) I.q6 x.p4).2))))) (bf x.p3 22 (ck (fI x.p4 (al I.p5)) (aF (0,I.p2,I.p3,I.p4,(cO I.p5 x.p4 ai),I.q6))) (aF (0,I.2.2)))))))))))))))))))) λx3=>(af ((x3.p3,x3.2.1,x3.q4),x3.1,ai))))))
def tQ (x:dJ×List (Int×List jP)):Option wG:=
 (obind (jC x) λy1=>(bcase (!y1) (af ((([]:List (Int×List Int)),0,([]:List Bool),([]:List du)),([]:List Int),([]:List Int),([]:List tI))) (obind (qZ x.1) λy2=>(iter (σ:=Int×zq×Int×oW×List Int) (λM=>(bz M.1 (aZ M.2.1.1.1) (bK kx M.2.1.1.1 M.1 λZ=>(bF (bd (al M.q4+al ([Z.2.2.2.2])) 8) (cP ((cF M.1),M.2.1,M.p2,M.p3,(M.q4++([Z.2.2.2.2])))))) (obind (iter (σ:=Int×zq×Int×oW×(List Int)×List Int) (λJ=>(bz J.1 (aZ J.2.1.1.p3) (bF (bd (al J.q5+al ([0])) 8) (cP ((cF J.1),J.2.1,J.p2,J.p3,J.p4,(J.q5++([0]))))) (obind (iter (σ:=Int×zq×Int×oW×(List Int)×(List Int)×List tI) (λI=>(bz I.1 (aZ I.2.1.2) (vI I.1 I.2.1.2 (lt ((aJ (T:=wH) I.2.1.2 I.1).1) λY=>(bF (c5 0 Y&&c5 Y Y&&bd (aU Y) 8) (vI I.1 I.2.1.2 (lt ((aJ (T:=wH) I.2.1.2 I.1).1) λU=>(bF (c5 0 U&&c5 U U&&bd (aU U) 24) (bF (bd (al I.q6+al ([(0,(aG (aU Y) (0:Int)),(aG (aU U) ([]:List Int)),0)])) 64) (cP ((cF I.1),I.2.1,I.p2,I.p3,I.p4,I.p5,(I.q6++([(0,(aG (aU Y) (0:Int)),(aG (aU U) ([]:List Int)),0)]))))))))))) (aF I.q3))) (0,J.2.1,J.p2,J.p3,J.p4,J.q5,([]:List tI))) λr=>af (bW r)))) (0,M.2.1,M.p2,M.p3,M.q4,([]:List Int))) λr=>af (bW r)))) (0,x,0,y2,([]:List Int))))))
def vN (x:zq×oW×(List Int)×(List Int)×List tI):Option (Bool):=
 (jn (α:=Bool×zq×oW×(List Int)×(List Int)×List tI) (obind (jC x.1) λy2=>(bcase (!y2) (aF (ai,x)) (obind (q_ (x.1.1,x.2.1)) λy3=>(bcase (!y3) (aF (ai,x)) (iT (aZ x.p2) (aZ x.1.1.1) (aF (ai,x)) (iT (aZ x.p3) (aZ x.1.1.p3) (aF (ai,x)) (aF ((!decide (((aZ x.q4):Int)=(aZ x.1.2))),x)))))))) λU=>(bcase U.1 (af aj) (iter (σ:=Int×zq×oW×(List Int)×(List Int)×List tI) (λI=>(bz I.1 (aZ I.2.1.2) (bK eP I.q5 I.1 λJ=>(jn (α:=Bool×zq×oW×(List Int)×(List Int)×List tI) (bz J.1 0 (aF (ai,I.2)) (bK wH I.2.1.2 I.1 λz7=>(jz (aZ z7.2) J.1 (aF (ai,I.2)) (bK wH I.2.1.2 I.1 λZ=>(iT (aZ J.2.1) Z.1 (aF (ai,I.2)) (bK wH I.2.1.2 I.1 λY=>(aF ((!decide (((aZ J.p2):Int)=Y.1)),I.2)))))))) λM=>(bcase M.1 (aF aj) (cP ((cF I.1),M.2))))) (aF ai))) (0,U.2))))
def vL (x:Int):Option (Int):=
 (jn (α:=Bool×List Int) (bz x 6 (aF (ai,[3,3,4,4,5,6,7,8,9,10,11,12,13,14,15,16,18,19,20,21,22,23,2])) (aF ((fO 28 x),[3,3,4,4,5,6,7,8,9,10,11,12,13,14,15,16,18,19,20,21,22,23,2]))) λI=>(bcase I.1 (af 0) (kZ aN I.2 (bm .i64 (x-6)) λJ=>(af J))))
def rZ (x:jP×Int×(List Int)×(List (List Int))×Int):Option (Int):=
 (jn (α:=Bool×jP×Int×(List Int)×(List (List Int))×Int) (bf x.1.1 6 (aF ((decide ((x.1.1:Int)=6)),x)) (aF ((decide ((x.1.1:Int)=27)),x))) λI=>(bcase I.1 (af I.2.1.p2) (bf x.1.1 7 (bK aN I.p3 I.2.1.p3 λU=>(obind (re (U,I.2.1.p4)) λZ=>(af (bm .i64 (I.2.1.p2+Z))))) (bf x.1.1 9 (bK aN I.p3 I.2.1.p3 λM=>(obind (re (M,I.2.1.p4)) λY=>(af (bm .i64 (I.2.1.2.1+Y))))) (jn (α:=Bool×Int×Int×Int×Int×Int×Int) (bf x.1.1 10 (aF ((decide ((x.1.1:Int)=10)),I.2.1)) (bf x.1.1 17 (aF ((decide ((x.1.1:Int)=17)),I.2.1)) (bf x.1.1 18 (aF ((decide ((x.1.1:Int)=18)),I.2.1)) (bf x.1.1 19 (aF ((decide ((x.1.1:Int)=19)),I.2.1)) (bf x.1.1 20 (aF ((decide ((x.1.1:Int)=20)),I.2.1)) (aF ((decide ((x.1.1:Int)=28)),I.2.1))))))) λJ=>(bcase J.1 (af (-1)) (af J.p2)))))))
def ny (x:zq×wG×Int):Option (gH×Bool):=
 (jn (α:=Bool×zq×wG×Int×Int×Int×Int×Int) (obind (vN (x.1,x.2.1)) λy2=>(bcase (!y2) (aF (ai,x.1,x.2.1,0,0,0,0,0)) (bz x.2.2 0 (aF (ai,x.1,x.2.1,0,0,0,0,0)) (aF ((c5 (aZ x.1.2) x.2.2),x.1,x.2.1,0,0,0,0,0))))) λZ=>(bcase Z.1 (af ((0,0,0,0,0,([]:List Int),([]:List Int)),aj)) (bK eP Z.p2.q3 x.2.2 λz3=>(bK wH Z.2.1.2 x.2.2 λz4=>(bK qJ z4.2 z3.1 λM=>(bK h_ Z.p2.1.q3 x.2.2 λz6=>(bf z6.1 1 (af ((x.2.2,1,(-1),0,(-1),([]:List Int),([]:List Int)),ai)) (bf z6.1 4 (bK h_ Z.p2.1.q3 x.2.2 λz7=>(af ((x.2.2,17,z7.2.1,0,M.q5,([]:List Int),([]:List Int)),ai))) (bf z6.1 2 (obind (vL M.1) λy8=>(obind (rZ (M,z3)) λy9=>(bf y8 0 (af ((0,0,0,0,0,([]:List Int),([]:List Int)),aj)) (jn (α:=vw×tI×jP×vw×List Int) (bf M.1 10 (bK (.sl aN) z3.p2 M.2.1 λz11=>(bF (bd (al (z11:List Int)) 8) (aF (Z.q3,z3,M,(x.2.2,y8,y9,0,M.q5),z11)))) (jn (α:=Bool×vw×tI×jP×Int×Int×Int×Int×Int) (bf M.1 7 (aF ((decide ((M.1:Int)=7)),Z.q3,z3,M,x.2.2,y8,y9,0,M.q5)) (aF ((decide ((M.1:Int)=9)),Z.q3,z3,M,x.2.2,y8,y9,0,M.q5))) λI=>(bcase I.1 (bK (.sl aN) I.p2.p2 I.p3.p3 λz13=>(bF (bd (al (z13:List Int)) 8) (aF (I.2.1,I.p2,I.p3,I.q4,z13)))) (aF (I.2.1,I.p2,I.p3,I.q4,([]:List Int)))))) λY=>(jn (α:=vw×vw×(List Int)×List Int) (jn (α:=Bool×vw×tI×jP×vw×List Int) (bf Y.p2.1 8 (aF (ai,Y)) (bf Y.p2.1 9 (aF (ai,Y)) (aF ((decide ((Y.p2.1:Int)=26)),Y)))) λJ=>(bcase J.1 (bK (.sl aN) J.p2.p2 J.p3.p2 λz16=>(bF (bd (al (z16:List Int)) 8) (aF (J.2.1,J.p4,J.q5,z16)))) (aF (J.2.1,J.p4,J.q5,([]:List Int))))) λU=>(af ((U.2.1.1,U.2.1.2.1,U.2.1.p2,U.2.1.p3,U.2.1.q4,U.2.2),ai))))))) (af ((0,0,0,0,0,([]:List Int),([]:List Int)),aj)))))))))))
def mD (x:gI×gq×(List fe)×b_×b_×List (Int×Int×Int)):Option eA:=
 (obind (qZ x) λM=>(bF (c5 0 (aZ x.p3)&&c5 (aZ x.p3) (aZ x.p3)&&bd (aU (aZ x.p3)) 8) (bF (c5 0 (aZ x.p4)&&c5 (aZ x.p4) (aZ x.p4)&&bd (aU (aZ x.p4)) 8) (iter (σ:=Int×dJ×Int×oW×(List Int)×(List Int)×List Int) (λI=>(bz I.1 (aZ I.2.1.1) (bK kx I.2.1.1 I.1 λJ=>(bF (bd (al I.p4+al ([J.2.2.2.2])) 8) (cP ((cF I.1),I.2.1,I.p2,I.p3,(I.p4++([J.2.2.2.2])),I.q5)))) (aF I.q3))) (0,x,0,M,([]:List Int),(aG (aU (aZ x.p3)) (0:Int)),(aG (aU (aZ x.p4)) (0:Int)))))))
def vK (x:dJ×oW×(List Int)×(List Int)×List Int):Option (Bool):=
 (jn (α:=Bool) (obind (q_ (x.1,x.2.1)) λI=>(bcase I (bf (aZ x.p2) (aZ x.1.1) (bf (aZ x.p3) (aZ x.1.p3) (aF (decide (((aZ x.q4):Int)=(aZ x.1.p4)))) (aF aj)) (aF aj)) (aF aj))) λJ=>(af J))
def Cn (x:Int×Int):Option (Bool):=
 (jn (α:=Bool) (jz 0 x.1 (aF (fO x.1 x.2)) (aF aj)) λI=>(af I))
def nu (x:(List Int)×Int):Option (Bool):=
 (iter (σ:=Int) (λI=>(bz I (aZ x.1) (jn (α:=Bool) (bK aN x.1 I λY=>(bz Y 1 (aF ai) (bK aN x.1 I λU=>(jz x.2 U (aF ai) (bz 0 I (bK aN x.1 I λM=>(bK aN x.1 (bm .i64 (I-1)) λJ=>(aF (c5 M J)))) (aF aj)))))) λZ=>(bcase Z (aF aj) (cP (cF I)))) (aF ai))) 0)
def tO (x:eA×Int×Int×Int×Int×Int×(List Int)×List Int):Option (Bool):=
 (bf x.p2 3 (bK aN x.1.2.1 x.p3 λU=>(af (decide ((x.p4:Int)=U)))) (bf x.p2 23 (bK aN x.1.p2 x.p3 λM=>(af (decide ((x.p4:Int)=M)))) (bf x.p2 5 (jn (α:=Bool) (bf x.p4 0 (aF ai) (aF (decide ((x.p4:Int)=1)))) λx3=>(af x3)) (jn (α:=Bool×eA×Int×Int×Int×Int×Int×(List Int)×List Int) (bf x.p2 4 (aF ((decide ((x.p2:Int)=4)),x)) (aF ((decide ((x.p2:Int)=22)),x))) λI=>(bcase I.1 (af ai) (bf x.p2 18 (obind (nz (I.2.1.1,I.p4)) λJ=>(bf (aZ J) 0 (af (decide ((I.p5:Int)=(-1)))) (jn (α:=Bool) (jz 0 I.p5 (bz I.p5 (aZ I.2.1.1.q3) (obind (qe (J,I.p5)) λZ=>(aF Z)) (aF aj)) (aF aj)) λx6=>(af x6)))) (bf x.p2 19 (obind (nz (I.2.1.1,I.p4)) λY=>(af (decide ((I.p5:Int)=(aZ Y))))) (af (decide ((I.p5:Int)=0))))))))))
def qY (x:dJ×eA×Int×Int×Int×Int×Int×(List Int)×List Int):Option (eA×Bool):=
 (jn (α:=Bool×dJ×eA×gH×Int) (obind (vK (x.1,x.2.1)) λy2=>(bcase (!y2) (aF (ai,x.1,x.2.1,x.2.2,0)) (obind (Cn (x.p2,(aZ x.1.p4))) λy3=>(bcase (!y3) (aF (ai,x.1,x.2.1,x.2.2,0)) (bz x.p3 1 (aF (ai,x.1,x.2.1,x.2.2,0)) (bz 23 x.p3 (aF (ai,x.1,x.2.1,x.2.2,0)) (obind (j9 (x.1,x.2.1.1,x.p2,x.p3,x.p4)) λy4=>(aF ((!y4),x.1,x.2.1,x.2.2,0))))))))) λx1=>(bcase x1.1 (af (((([]:List (Int×List Int)),0,([]:List Bool),([]:List du)),([]:List Int),([]:List Int),([]:List Int)),aj)) (jn (α:=dJ×eA×gH×Int) (jn (α:=Bool×dJ×eA×gH×Int) (bf x1.p3.2.1 1 (aF (ai,x1.2)) (aF ((decide ((x1.p3.2.1:Int)=2)),x1.2))) λx6=>(bcase x6.1 (iT x6.p3.p4 (-1) (cP (((([]:List (Int×List Int)),0,([]:List Bool),([]:List du)),([]:List Int),([]:List Int),([]:List Int)),aj)) (aF x6.2)) (jn (α:=Bool×dJ×eA×gH×Int) (obind (Cn (x6.p3.p4,(aZ x6.2.1.q5))) λy8=>(bcase (!y8) (aF (ai,x6.2)) (bK oe x6.2.1.q5 x6.p3.p4 λz9=>(aF ((!decide ((z9.1:Int)=x6.p3.1)),x6.2))))) λx7=>(bcase x7.1 (cP (((([]:List (Int×List Int)),0,([]:List Bool),([]:List du)),([]:List Int),([]:List Int),([]:List Int)),aj)) (aF x7.2))))) λx5=>(jn (α:=Bool×dJ×eA×gH×Int) (bf x5.p2.2.1 3 (aF (ai,x5)) (aF ((decide ((x5.p2.2.1:Int)=4)),x5))) λZ=>(jn (α:=Bool×dJ×eA×gH×Int) (bz 0 (aZ Z.p3.p5) (iT Z.p3.2.1 5 (bcase Z.1 (bK kx Z.2.1.1 Z.p3.p2 λz12=>(aF ((!(!decide ((z12.2.2.1:Int)=0))),Z.2))) (aF (ai,Z.2))) (aF (aj,Z.2))) (aF (aj,Z.2))) λx11=>(bcase x11.1 (af (((([]:List (Int×List Int)),0,([]:List Bool),([]:List du)),([]:List Int),([]:List Int),([]:List Int)),aj)) (jn (α:=Bool×dJ×eA×gH×Int) (bz 0 (aZ x11.p3.q6) (iT x11.p3.2.1 4 (aF ((!decide ((x11.p3.2.1:Int)=22)),x11.2)) (aF (aj,x11.2))) (aF (aj,x11.2))) λU=>(bcase U.1 (af (((([]:List (Int×List Int)),0,([]:List Bool),([]:List du)),([]:List Int),([]:List Int),([]:List Int)),aj)) (jn (α:=Bool×dJ×eA×gH×Int) (bK aN U.p2.q3 U.p3.1 λz15=>(obind (nu (U.p3.p5,z15)) λy16=>(bcase (!y16) (aF (ai,U.2)) (bK aN U.p2.q3 U.p3.1 λz17=>(obind (nu (U.p3.q6,z17)) λy18=>(bcase (!y18) (aF (ai,U.2)) (obind (tO (U.p2,U.p3)) λy19=>(aF ((!y19),U.2))))))))) λI=>(bcase I.1 (af (((([]:List (Int×List Int)),0,([]:List Bool),([]:List du)),([]:List Int),([]:List Int),([]:List Int)),aj)) (bF (bd (al ([]:List Int)+al I.p2.2.1) 8) (bF (bd (al ([]:List Int)+al I.p2.p2) 8) (bF (bd (al ([]:List Int)+al I.p2.q3) 8) (jn (α:=Int×dJ×eA×gH×Int×Int×(List Int)×(List Int)×List Int) (bf I.p3.2.1 18 (aF (I.p3.p3,I.2.1,I.p2,I.p3,I.q4,0,(([]:List Int)++I.p2.2.1),(([]:List Int)++I.p2.p2),(([]:List Int)++I.p2.q3))) (aF ((-1),I.2.1,I.p2,I.p3,I.q4,0,(([]:List Int)++I.p2.2.1),(([]:List Int)++I.p2.p2),(([]:List Int)++I.p2.q3)))) λJ=>(obind (o_ (J.2.1,J.p2.1,J.p3.1,J.p3.2.1,J.p3.p2,J.1)) λy21=>(jn (α:=gH×Int×oW×(List Int)×(List Int)×List Int) (bf J.p3.2.1 4 (ck (fI J.p3.p2 (al J.p6)) (aF (J.p3,J.p4,y21.1,(cO J.p6 J.p3.p2 J.p3.p3),J.q7))) (aF (J.p3,J.p4,y21.1,J.q6))) λM=>(jn (α:=gH×Int×oW×(List Int)×(List Int)×List Int) (bf M.1.2.1 22 (ck (fI M.1.p2 (al M.p4)) (aF (M.1,M.2.1,M.p2,M.p3,(cO M.p4 M.1.p2 M.1.p3),M.q5))) (aF M)) λY=>(kZ aN Y.q5 Y.1.1 λz24=>(ck (fI Y.1.1 (al Y.q5)) (af ((Y.p2,Y.p3,Y.p4,(cO Y.q5 Y.1.1 (cF z24))),ai)))))))))))))))))))))
def qX (x:(List gH)×Int×Int×List Int):Option (Bool):=
 (iter (σ:=Int) (λJ=>(bz J (aZ x.q3) (iter (σ:=Int×Bool×Int) (λI=>(bz I.2.2 x.2.1 (jn (α:=Int×Bool) (bK iL x.1 I.2.2 λz4=>(iT z4.1 x.p2 (aF (I.1,I.2.1)) (jn (α:=Bool) (bcase I.2.1 (aF ai) (bK aN x.q3 J λZ=>(bf I.1 Z (bK iL x.1 I.2.2 λY=>(bf Y.2.1 3 (aF ai) (bK iL x.1 I.2.2 λU=>(aF (decide ((U.2.1:Int)=23)))))) (aF aj)))) λx5=>(aF ((cF I.1),x5))))) λM=>(cP (M.1,M.2,(cF I.2.2)))) (obind (bcase (!I.2.1) (aF aj) (cP (cF J))) λr=>af (bW r)))) (0,aj,0)) (aF ai))) 0)
def tP (x:dJ×List gH):Option (Int×Int):=
 (bz 400 (aZ x.2) (af (0,2)) (obind (hP x.1) λy1=>(bcase (!y1) (af (0,1)) (obind (mD x.1) λy2=>(iter (σ:=Int×(dJ×List gH)×oW×(List Int)×(List Int)×List Int) (λI=>(bz I.1 (aZ I.2.1.2) (bK iL I.2.1.2 I.1 λJ=>(obind (qY (I.2.1.1,I.2.2,J)) λM=>(jn (α:=Bool×(dJ×List gH)×eA×oW×(List Int)×(List Int)×List Int) (bcase (!M.2) (aF (ai,I.2.1,I.2.2,M.1)) (obind (qX (I.2.1.2,I.1,J.1,J.p5)) λZ=>(bcase (!Z) (aF (ai,I.2.1,I.2.2,M.1)) (obind (qX (I.2.1.2,I.1,J.1,J.q6)) λY=>(aF ((!Y),I.2.1,I.2.2,M.1)))))) λU=>(bcase U.1 (aF (I.1,12)) (cP ((cF I.1),U.2.1,U.q3)))))) (aF (0,0)))) (0,x,y2))))))
def KG {Z W V:Type} (i:Int) (t1:Z->(List Int)->(List (List Int))->W) (t2:W->V) (t3:V->tI->List tI) (x6:Int) (I:zq×oW×(Int×Int)×Int×vw×gH×(Int×Int)×(List Int)×(List Int)×Z×(List Int)×List (List Int)):Option Dv:=
 (jn (α:=oW×(Int×Int)×Int×vw×gH×tI×(List Int)×(List Int)×V) (jn (α:=Bool×zq×oW×(Int×Int)×Int×vw×gH×tI×(List Int)×(List Int)×W) (iT I.p5.2.1 16 (aF ((!decide ((I.p5.2.1:Int)=2)),I.1,I.2.1,I.p2,I.p3,I.p4,I.p5,(x6,I.p10,I.q11,(cF I.p6.2)),I.p7,I.p8,(t1 I.p9 I.p10 I.q11))) (aF (aj,I.1,I.2.1,I.p2,I.p3,I.p4,I.p5,(x6,I.p10,I.q11,(cF I.p6.2)),I.p7,I.p8,(t1 I.p9 I.p10 I.q11)))) λJ=>(bcase J.1 (bK wH J.2.1.2 J.p3.1 λU=>(obind (mQ (U,J.p7)) λY=>(aF (J.p2,J.p3,J.p4,J.p5,J.p6,Y.1,J.p8,J.p9,(t2 J.q10))))) (aF (J.p2,J.p3,J.p4,J.p5,J.p6,J.p7,J.p8,J.p9,(t2 J.q10))))) λM=>(bf M.2.1.1 i (af ((M.1,M.p6,M.p7,(t3 M.q8 M.p5)),M.p4,ai)) ah))
def SG {Z:Type} (i:Int) (cp:(oW×(List Int)×(List Int)×List tI)->Option (Int×gA×(List Bool)×(List du)×(List Int)×(List Int)×Z×(List Int)×List (List Int))) (Y ev:Z->Int) (k:Int->(zq×oW×(Int×Int)×Int×vw×gH×(Int×Int)×(List Int)×(List Int)×Z×(List Int)×List (List Int))->Option Dv) (x:zq×wG×Int×Int):Option Dv:=
 (obind (ny (x.1,x.2.1,x.p2)) λM=>(bcase (!M.2) (af (((([]:List (Int×List Int)),0,([]:List Bool),([]:List du)),([]:List Int),([]:List Int),([]:List tI)),(0,0,0,0,0,([]:List Int),([]:List Int)),aj)) (obind (o_ (x.1.1,x.2.1.1,x.p2,M.1.2.1,M.1.p2,x.q3)) λy2=>(bcase (!y2.2.2) (af (((([]:List (Int×List Int)),0,([]:List Bool),([]:List du)),([]:List Int),([]:List Int),([]:List tI)),(0,0,0,0,0,([]:List Int),([]:List Int)),aj)) (obind (cp x.2.1) λU=>(bf x.p2 i (bK wH x.1.2 i λz4=>(bK qJ z4.2 (Y U.p6) λz5=>(jn (α:=Int×zq×oW×(Int×Int)×Int×vw×gH×(Int×Int)×jP×(List Int)×(List Int)×Z×(List Int)×List (List Int)) (jn (α:=Bool×zq×oW×(Int×Int)×Int×vw×gH×(Int×Int)×jP×(List Int)×(List Int)×Z×(List Int)×List (List Int)) (bf M.1.2.1 1 (aF ((decide ((M.1.2.1:Int)=1)),x.1,y2.1,(i,x.q3),0,(0,0,0,0,0),(M.1.1,M.1.2.1,M.1.p2,y2.2.1,M.1.q4),((Y U.p6),(ev U.p6)),z5,U.q4)) (bf M.1.2.1 16 (aF ((decide ((M.1.2.1:Int)=16)),x.1,y2.1,(i,x.q3),0,(0,0,0,0,0),(M.1.1,M.1.2.1,M.1.p2,y2.2.1,M.1.q4),((Y U.p6),(ev U.p6)),z5,U.q4)) (aF ((decide ((M.1.2.1:Int)=2)),x.1,y2.1,(i,x.q3),0,(0,0,0,0,0),(M.1.1,M.1.2.1,M.1.p2,y2.2.1,M.1.q4),((Y U.p6),(ev U.p6)),z5,U.q4)))) λI=>(bcase I.1 (aF (I.p7.1,I.2)) (bf M.1.2.1 3 (kZ aN I.p9 I.p6.p2 λz8=>(aF ((bm .i64 ((Y U.p6)+1)),I.2.1,I.p2,I.p3,I.p4,I.p5,(I.p6.1,I.p6.2.1,I.p6.p2,z8,I.p6.q4),I.q7))) (bf M.1.2.1 23 (kZ aN I.p10 I.p6.p2 λz9=>(aF ((bm .i64 ((Y U.p6)+1)),I.2.1,I.p2,I.p3,I.p4,I.p5,(I.p6.1,I.p6.2.1,I.p6.p2,z9,I.p6.q4),I.q7))) (bf M.1.2.1 4 (kZ aN I.p12 I.p8.p2 λz10=>(ck (fI I.p6.p2 (al I.p9)) (aF ((bm .i64 ((Y U.p6)+1)),I.2.1,I.p2,I.p3,I.p4,I.p5,(I.p6.1,I.p6.2.1,I.p6.p2,z10,I.p6.q4),I.p7,I.p8,(cO I.p9 I.p6.p2 z10),I.q10)))) (bf M.1.2.1 22 (kZ aN I.p12 I.p8.p2 λz11=>(ck (fI I.p6.p2 (al I.p10)) (aF ((bm .i64 ((Y U.p6)+1)),I.2.1,I.p2,I.p3,I.p4,I.p5,(I.p6.1,I.p6.2.1,I.p6.p2,z11,I.p6.q4),I.p7,I.p8,I.p9,(cO I.p10 I.p6.p2 z11),I.q11)))) (bf M.1.2.1 5 (kZ aN I.p12 I.p8.2.1 λz12=>(bf z12 0 (aF (I.p8.p2,I.2.1,I.p2,I.p3,I.p4,I.p5,(I.p6.1,I.p6.2.1,I.p6.p2,0,I.p6.q4),I.q7)) (aF ((bm .i64 ((Y U.p6)+1)),I.2.1,I.p2,I.p3,I.p4,I.p5,(I.p6.1,I.p6.2.1,I.p6.p2,1,I.p6.q4),I.q7)))) (aF ((bm .i64 ((Y U.p6)+1)),I.2))))))))) λx6=>(jn (α:=zq×oW×(Int×Int)×Int×vw×gH×(Int×Int)×(List Int)×(List Int)×Z×(List Int)×List (List Int)) (jn (α:=Bool×zq×oW×(Int×Int)×Int×vw×gH×(Int×Int)×jP×(List Int)×(List Int)×Z×(List Int)×List (List Int)) (bf x6.p6.2.1 3 (aF (ai,x6.2)) (aF ((decide ((x6.p6.2.1:Int)=23)),x6.2))) λJ=>(bcase J.1 (ck (fI J.p8.2.1 (al J.p12)) (ck (fI J.p8.2.1 (al J.q13)) (aF (J.2.1,J.p2,J.p3,J.p4,J.p5,J.p6,J.p7,J.p9,J.p10,J.p11,(cO J.p12 J.p8.2.1 J.p6.p3),(cO J.q13 J.p8.2.1 ([J.p7.2])))))) (aF (J.2.1,J.p2,J.p3,J.p4,J.p5,J.p6,J.p7,J.q9)))) λx13=>(k x6.1 x13))))) ah))))))
def mP (x:oW×(List Int)×(List Int)×List tI):Option (Int×gA×(List Bool)×(List du)×(List Int)×(List Int)×(Int×Int)×(List Int)×List (List Int)):=
 (obind (ij x.1) λI=>(bF (bd (al ([]:List Int)+al x.2.1) 8) (bF (bd (al ([]:List Int)+al x.p2) 8) (bz 0 (aZ x.q3) (bK eP x.q3 0 λM=>(obind (ch M) λU=>(bz 1 (aZ x.q3) (bK eP x.q3 1 λJ=>(obind (ch J) λY=>ah)) (af (I.1,I.2.1,I.p2,I.q3,(([]:List Int)++x.2.1),(([]:List Int)++x.p2),U))))) ah))))
def fX (x:zq×wG×Int×Int):Option Dv:=
 SG 0 mP (λz=>z.1) (λz=>z.2) (KG 0 (λz R T=>(z.1,R,T,z.2)) (λw=>((w.1,w.2.1,w.2.2.1,w.2.2.2))) (λv t=>[t])) x
def mO (x:oW×(List Int)×(List Int)×List tI):Option (Int×gA×(List Bool)×(List du)×(List Int)×(List Int)×Ya29×(List Int)×List (List Int)):=
 (obind (ij x.1) λJ=>(bF (bd (al ([]:List Int)+al x.2.1) 8) (bF (bd (al ([]:List Int)+al x.p2) 8) (bz 0 (aZ x.q3) (bK eP x.q3 0 λZ=>(obind (ch Z) λM=>(bz 1 (aZ x.q3) (bK eP x.q3 1 λY=>(obind (ch Y) λI=>(bz 2 (aZ x.q3) (bK eP x.q3 2 λU=>(obind (ch U) λy7=>ah)) (af (J.1,J.2.1,J.p2,J.q3,(([]:List Int)++x.2.1),(([]:List Int)++x.p2),(M.1.1,M.1.2,I.1.1,I.2.1,I.2.2,I.1.2),M.2))))) ah))) ah))))
def gx (x:zq×wG×Int×Int):Option Dv:=
 SG 0 mO (λz=>z.1) (λz=>z.2.1) (KG 0 (λz R T=>(z.1,R,T,z.2.1,z.2.2)) (λw=>((w.1,w.2.1,w.2.2.1,w.2.2.2.1),w.2.2.2.2)) (λv t=>[t,v.2])) x
def mN (x:oW×(List Int)×(List Int)×List tI):Option (Int×gA×(List Bool)×(List du)×(List Int)×(List Int)×(tI×Int×Int)×(List Int)×List (List Int)):=
 (obind (ij x.1) λJ=>(bF (bd (al ([]:List Int)+al x.2.1) 8) (bF (bd (al ([]:List Int)+al x.p2) 8) (bz 0 (aZ x.q3) (bK eP x.q3 0 λZ=>(obind (ch Z) λI=>(bz 1 (aZ x.q3) (bK eP x.q3 1 λY=>(obind (ch Y) λM=>(bz 2 (aZ x.q3) (bK eP x.q3 2 λU=>(obind (ch U) λy7=>ah)) (af (J.1,J.2.1,J.p2,J.q3,(([]:List Int)++x.2.1),(([]:List Int)++x.p2),((I.1.1,I.2.1,I.2.2,I.1.2),M.1),M.2))))) ah))) ah))))
def fV (x:zq×wG×Int×Int):Option Dv:=
 SG 1 mN (λz=>z.2.1) (λz=>z.2.2) (KG 1 (λz R T=>(z.1,z.2.1,R,T,z.2.2)) (λw=>(w.1,(w.2.1,w.2.2.1,w.2.2.2.1,w.2.2.2.2))) (λv t=>[v.1,t])) x
def mM (x:oW×(List Int)×(List Int)×List tI):Option (Int×gA×(List Bool)×(List du)×(List Int)×(List Int)×Ya27×(List Int)×List (List Int)):=
 (obind (ij x.1) λM=>(bF (bd (al ([]:List Int)+al x.2.1) 8) (bF (bd (al ([]:List Int)+al x.p2) 8) (bz 0 (aZ x.q3) (bK eP x.q3 0 λz2=>(obind (ch z2) λU=>(bz 1 (aZ x.q3) (bK eP x.q3 1 λz4=>(obind (ch z4) λJ=>(bz 2 (aZ x.q3) (bK eP x.q3 2 λZ=>(obind (ch Z) λI=>(bz 3 (aZ x.q3) (bK eP x.q3 3 λY=>(obind (ch Y) λy9=>ah)) (af (M.1,M.2.1,M.p2,M.q3,(([]:List Int)++x.2.1),(([]:List Int)++x.p2),(U.1.1,U.1.2,(J.1.1,J.2.1,J.2.2,J.1.2),I.1.1,I.2.1,I.2.2,I.1.2),U.2))))) ah))) ah))) ah))))
def jp (x:zq×wG×Int×Int):Option Dv:=
 SG 0 mM (λz=>z.1) (λz=>z.2.1) (KG 0 (λz R T=>(z.1,R,T,z.2.1,z.p2,z.q3)) (λw=>((w.1,w.2.1,w.2.2.1,w.2.2.2.1),w.2.2.2.2.1,w.2.2.2.2.2)) (λv t=>[t,v.2.1,v.2.2])) x
def mL (x:oW×(List Int)×(List Int)×List tI):Option (Int×gA×(List Bool)×(List du)×(List Int)×(List Int)×Ya28×(List Int)×List (List Int)):=
 (obind (ij x.1) λM=>(bF (bd (al ([]:List Int)+al x.2.1) 8) (bF (bd (al ([]:List Int)+al x.p2) 8) (bz 0 (aZ x.q3) (bK eP x.q3 0 λz2=>(obind (ch z2) λJ=>(bz 1 (aZ x.q3) (bK eP x.q3 1 λz4=>(obind (ch z4) λU=>(bz 2 (aZ x.q3) (bK eP x.q3 2 λZ=>(obind (ch Z) λI=>(bz 3 (aZ x.q3) (bK eP x.q3 3 λY=>(obind (ch Y) λy9=>ah)) (af (M.1,M.2.1,M.p2,M.q3,(([]:List Int)++x.2.1),(([]:List Int)++x.p2),((J.1.1,J.2.1,J.2.2,J.1.2),U.1.1,U.1.2,I.1.1,I.2.1,I.2.2,I.1.2),U.2))))) ah))) ah))) ah))))
def iF (x:zq×wG×Int×Int):Option Dv:=
 SG 1 mL (λz=>z.2.1) (λz=>z.p2) (KG 1 (λz R T=>(z.1,z.2.1,R,T,z.p2,z.q3)) (λw=>(w.1,(w.2.1,w.2.2.1,w.2.2.2.1,w.2.2.2.2.1),w.2.2.2.2.2)) (λv t=>[v.1,t,v.2.2])) x
def mK (x:oW×(List Int)×(List Int)×List tI):Option (Int×gA×(List Bool)×(List du)×(List Int)×(List Int)×(tI×tI×Int×Int)×(List Int)×List (List Int)):=
 (obind (ij x.1) λM=>(bF (bd (al ([]:List Int)+al x.2.1) 8) (bF (bd (al ([]:List Int)+al x.p2) 8) (bz 0 (aZ x.q3) (bK eP x.q3 0 λz2=>(obind (ch z2) λJ=>(bz 1 (aZ x.q3) (bK eP x.q3 1 λz4=>(obind (ch z4) λI=>(bz 2 (aZ x.q3) (bK eP x.q3 2 λZ=>(obind (ch Z) λU=>(bz 3 (aZ x.q3) (bK eP x.q3 3 λY=>(obind (ch Y) λy9=>ah)) (af (M.1,M.2.1,M.p2,M.q3,(([]:List Int)++x.2.1),(([]:List Int)++x.p2),((J.1.1,J.2.1,J.2.2,J.1.2),(I.1.1,I.2.1,I.2.2,I.1.2),U.1),U.2))))) ah))) ah))) ah))))
def g_ (x:zq×wG×Int×Int):Option Dv:=
 SG 2 mK (λz=>z.p2) (λz=>z.q3) (KG 2 (λz R T=>(z.1,z.2.1,z.p2,R,T,z.q3)) (λw=>(w.1,w.2.1,(w.2.2.1,w.2.2.2.1,w.2.2.2.2.1,w.2.2.2.2.2))) (λv t=>[v.1,v.2.1,t])) x
def mJ (x:oW×(List Int)×(List Int)×List tI):Option (Int×gA×(List Bool)×(List du)×(List Int)×(List Int)×Ya23×(List Int)×List (List Int)):=
 (obind (ij x.1) λU=>(bF (bd (al ([]:List Int)+al x.2.1) 8) (bF (bd (al ([]:List Int)+al x.p2) 8) (bz 0 (aZ x.q3) (bK eP x.q3 0 λz2=>(obind (ch z2) λZ=>(bz 1 (aZ x.q3) (bK eP x.q3 1 λz4=>(obind (ch z4) λM=>(bz 2 (aZ x.q3) (bK eP x.q3 2 λz6=>(obind (ch z6) λJ=>(bz 3 (aZ x.q3) (bK eP x.q3 3 λz8=>(obind (ch z8) λI=>(bz 4 (aZ x.q3) (bK eP x.q3 4 λY=>(obind (ch Y) λy11=>ah)) (af (U.1,U.2.1,U.p2,U.q3,(([]:List Int)++x.2.1),(([]:List Int)++x.p2),(Z.1.1,Z.1.2,(M.1.1,M.2.1,M.2.2,M.1.2),(J.1.1,J.2.1,J.2.2,J.1.2),I.1.1,I.2.1,I.2.2,I.1.2),Z.2))))) ah))) ah))) ah))) ah))))
def mF (x:zq×wG×Int×Int):Option Dv:=
 SG 0 mJ (λz=>z.1) (λz=>z.2.1) (KG 0 (λz R T=>(z.1,R,T,z.2.1,z.p2,z.p3,z.q4)) (λw=>((w.1,w.2.1,w.2.2.1,w.2.2.2.1),w.2.2.2.2.1,w.2.2.2.2.2.1,w.2.2.2.2.2.2)) (λv t=>[t,v.2.1,v.2.2.1,v.2.2.2])) x
def mI (x:oW×(List Int)×(List Int)×List tI):Option (Int×gA×(List Bool)×(List du)×(List Int)×(List Int)×Ya24×(List Int)×List (List Int)):=
 (obind (ij x.1) λU=>(bF (bd (al ([]:List Int)+al x.2.1) 8) (bF (bd (al ([]:List Int)+al x.p2) 8) (bz 0 (aZ x.q3) (bK eP x.q3 0 λz2=>(obind (ch z2) λM=>(bz 1 (aZ x.q3) (bK eP x.q3 1 λz4=>(obind (ch z4) λZ=>(bz 2 (aZ x.q3) (bK eP x.q3 2 λz6=>(obind (ch z6) λJ=>(bz 3 (aZ x.q3) (bK eP x.q3 3 λz8=>(obind (ch z8) λI=>(bz 4 (aZ x.q3) (bK eP x.q3 4 λY=>(obind (ch Y) λy11=>ah)) (af (U.1,U.2.1,U.p2,U.q3,(([]:List Int)++x.2.1),(([]:List Int)++x.p2),((M.1.1,M.2.1,M.2.2,M.1.2),Z.1.1,Z.1.2,(J.1.1,J.2.1,J.2.2,J.1.2),I.1.1,I.2.1,I.2.2,I.1.2),Z.2))))) ah))) ah))) ah))) ah))))
def mE (x:zq×wG×Int×Int):Option Dv:=
 SG 1 mI (λz=>z.2.1) (λz=>z.p2) (KG 1 (λz R T=>(z.1,z.2.1,R,T,z.p2,z.p3,z.q4)) (λw=>(w.1,(w.2.1,w.2.2.1,w.2.2.2.1,w.2.2.2.2.1),w.2.2.2.2.2.1,w.2.2.2.2.2.2)) (λv t=>[v.1,t,v.2.2.1,v.2.2.2])) x
def mH (x:oW×(List Int)×(List Int)×List tI):Option (Int×gA×(List Bool)×(List du)×(List Int)×(List Int)×Ya25×(List Int)×List (List Int)):=
 (obind (ij x.1) λU=>(bF (bd (al ([]:List Int)+al x.2.1) 8) (bF (bd (al ([]:List Int)+al x.p2) 8) (bz 0 (aZ x.q3) (bK eP x.q3 0 λz2=>(obind (ch z2) λM=>(bz 1 (aZ x.q3) (bK eP x.q3 1 λz4=>(obind (ch z4) λJ=>(bz 2 (aZ x.q3) (bK eP x.q3 2 λz6=>(obind (ch z6) λZ=>(bz 3 (aZ x.q3) (bK eP x.q3 3 λz8=>(obind (ch z8) λI=>(bz 4 (aZ x.q3) (bK eP x.q3 4 λY=>(obind (ch Y) λy11=>ah)) (af (U.1,U.2.1,U.p2,U.q3,(([]:List Int)++x.2.1),(([]:List Int)++x.p2),((M.1.1,M.2.1,M.2.2,M.1.2),(J.1.1,J.2.1,J.2.2,J.1.2),Z.1.1,Z.1.2,I.1.1,I.2.1,I.2.2,I.1.2),Z.2))))) ah))) ah))) ah))) ah))))
def lh (x:zq×wG×Int×Int):Option Dv:=
 SG 2 mH (λz=>z.p2) (λz=>z.p3) (KG 2 (λz R T=>(z.1,z.2.1,z.p2,R,T,z.p3,z.q4)) (λw=>(w.1,w.2.1,(w.2.2.1,w.2.2.2.1,w.2.2.2.2.1,w.2.2.2.2.2.1),w.2.2.2.2.2.2)) (λv t=>[v.1,v.2.1,t,v.2.2.2])) x
def mG (x:oW×(List Int)×(List Int)×List tI):Option (Int×gA×(List Bool)×(List du)×(List Int)×(List Int)×Ya42×(List Int)×List (List Int)):=
 (obind (ij x.1) λU=>(bF (bd (al ([]:List Int)+al x.2.1) 8) (bF (bd (al ([]:List Int)+al x.p2) 8) (bz 0 (aZ x.q3) (bK eP x.q3 0 λz2=>(obind (ch z2) λM=>(bz 1 (aZ x.q3) (bK eP x.q3 1 λz4=>(obind (ch z4) λJ=>(bz 2 (aZ x.q3) (bK eP x.q3 2 λz6=>(obind (ch z6) λI=>(bz 3 (aZ x.q3) (bK eP x.q3 3 λz8=>(obind (ch z8) λZ=>(bz 4 (aZ x.q3) (bK eP x.q3 4 λY=>(obind (ch Y) λy11=>ah)) (af (U.1,U.2.1,U.p2,U.q3,(([]:List Int)++x.2.1),(([]:List Int)++x.p2),((M.1.1,M.2.1,M.2.2,M.1.2),(J.1.1,J.2.1,J.2.2,J.1.2),(I.1.1,I.2.1,I.2.2,I.1.2),Z.1),Z.2))))) ah))) ah))) ah))) ah))))
def j8 (x:zq×wG×Int×Int):Option Dv:=
 SG 3 mG (λz=>z.p3) (λz=>z.q4) (KG 3 (λz R T=>(z.1,z.2.1,z.p2,z.p3,R,T,z.q4)) (λw=>(w.1,w.2.1,w.2.2.1,(w.2.2.2.1,w.2.2.2.2.1,w.2.2.2.2.2.1,w.2.2.2.2.2.2))) (λv t=>[v.1,v.2.1,v.2.2.1,t])) x
def zM (x:zq×wG×Int×Int):Option Dv:=orE (mF x) (orE (mE x) (orE (lh x) (orE (j8 x) (orE (jp x) (orE (iF x) (orE (g_ x) (orE (gx x) (orE (fV x) (fX x)))))))))
def vM (x:zq×wG×List (Int×Int)):Option ((List gH)×oW×(List Int)×(List Int)×List tI):=
 (iter (σ:=Int×(List gH)×zq×wG×Int) (λJ=>(jn (α:=Bool×(List gH)×zq×wG×Int) (bz J.1 (aZ x.2.2) (aF ((fO (aZ J.2.1) 400),J.2)) (aF (aj,J.2))) λI=>(bcase I.1 (jn (α:=(List gH)×zq×wG×Int) (bK iE x.2.2 J.1 λU=>(obind (zM (I.p2,I.p3,U)) λM=>(bcase M.2.2 (bF (bd (al I.2.1+al ([M.2.1])) 88) (aF ((I.2.1++([M.2.1])),I.p2,M.1,I.q4))) (aF I.2)))) λY=>(cP ((cF J.1),Y))) (aF (I.2.1,I.p3))))) (0,([]:List gH),x.1,x.2.1,0))
def yA (x:zq×List (Int×Int)):Option ((dJ×List gH)×oW×(List Int)×(List Int)×List tI):=
 (obind (jC x.1) λM=>(bcase (!M) (af (((([]:List RK),([]:List ((List UInt8)×Bool)),([]:List fe),([]:List (List UInt8)),([]:List (List UInt8)),([]:List (Int×Int×Int))),([]:List gH)),(([]:List (Int×List Int)),0,([]:List Bool),([]:List du)),([]:List Int),([]:List Int),([]:List tI))) (obind (tQ x.1) λJ=>(obind (vM (x.1,J,x.2)) λI=>(af ((x.1.1,I.1),I.2))))))
def bx (x:Int×(List Int)×Int):Option (Int×(List Int)×Int):=
 (jn (α:=Bool×(List Int)×Int) (jz (aZ x.2.1) x.2.2 (aF (ai,x.2)) (aF ((fO x.1 1),x.2))) λI=>(bcase I.1 (af (0,I.2)) (lt (cF I.2.2) λM=>(bK (.int .u8) I.2.1 (bm .i64 (M-1)) λJ=>(bF (!decide ((x.1:Int)=0)) (af ((zG (bm .i64 J) x.1),I.2.1,(cF I.2.2))))))))
def rj (x:Int):Option (Xp):=
 (af (dW (1,x,[],([]:List Xp))))
def pg (x:List UInt8):Option (Xp):=
 (af (dW (2,0,x,([]:List Xp))))
def nC (x:Int×Xp×Xp):Option (Xp):=
 (af (dW (x.1,0,[],[dW ((Xp.op x.2.1),(Xp.n x.2.1),(Xp.name x.2.1),(Xp.l x.2.1)),dW ((Xp.op x.2.2),(Xp.n x.2.2),(Xp.name x.2.2),(Xp.l x.2.2))])))
def ji (x:(List UInt8)×Xp):Option (Sx):=
 (af (nD (1,0,x.1,[],([]:List Xp),dW ((Xp.op x.2),(Xp.n x.2),(Xp.name x.2),(Xp.l x.2)),([]:List Sx),([]:List Sx))))
def r8 (x:Unit):Option rW:=
 (af ([(1,0,[120],0,0,[]),(1,0,[121],0,1,[]),(2,0,[118],0,0,[]),(1,0,[113],2,0,[]),(3,0,[109],0,0,[]),(3,0,[110],0,0,[]),(4,0,[114],0,0,[]),(5,0,[99],0,0,[109]),(6,0,[102],0,0,[])]))
def oC (x:List Int):Option (List (Int×Int)):=
 (iter (σ:=Int×List (Int×Int)) (λI=>(bz I.1 (aZ x) (bK (.int .u8) x I.1 λM=>(bK (.int .u8) x I.1 λJ=>(bF (bd (al I.2+al ([((zG (bm .i64 M) 4),(bm .i64 ((zG (bm .i64 (Int.tdiv (bm .i64 J) 4)) 5)-1)))])) 16) (cP ((cF I.1),(I.2++([((zG (bm .i64 M) 4),(bm .i64 ((zG (bm .i64 (Int.tdiv (bm .i64 J) 4)) 5)-1)))]))))))) (aF I.2))) (0,([]:List (Int×Int))))
def nK (rmade_maker_expr:XV->Option adt) (x:Int×yh×fH×Bool×List (List UInt8)):Option adt:=
 (obind (bx (10,x.p2)) λZ=>(jn (α:=Bool×yh×fH×RL×(Int×Int×List UInt8)×List (List UInt8)) (bz Z.1 2 (aF (ai,x.2.1,Z.2,x.q3,(0,0,[]),[[97],[98],[120],[121],[118],[120],[121]])) (bf x.1 0 (aF ((c5 7 Z.1),x.2.1,Z.2,x.q3,(0,0,[]),[[97],[98],[120],[121],[118],[120],[121]])) (aF (aj,x.2.1,Z.2,x.q3,(0,0,[]),[[97],[98],[120],[121],[118],[120],[121]])))) λI=>(bcase I.1 (obind (bx (4,I.p2)) λy3=>(obind (rj y3.1) λy4=>(af (dW ((Xp.op y4),(Xp.n y4),(Xp.name y4),(Xp.l y4)),I.2.1,y3.2,I.p3)))) (bz Z.1 7 (obind (bx ((aZ I.q5),I.p2)) λy5=>(kZ (.str) I.q5 y5.1 λz6=>(obind (pg z6) λy7=>(af (dW ((Xp.op y7),(Xp.n y7),(Xp.name y7),(Xp.l y7)),I.2.1,y5.2,I.p3))))) (bf Z.1 7 (obind (rmade_maker_expr (0,I.2.1,I.p2,I.p3)) λY=>(bF (((I.p3.1==Y.p3)&&ai)&&aC (al I.p3.2) (al Y.q4)&&ai) (af (dW (3,0,[113],[dW ((Xp.op Y.1),(Xp.n Y.1),(Xp.name Y.1),(Xp.l Y.1))]),Y.2)))) (obind (bx ((aO (al ([6,7,8,11,13,17]))),I.p2)) λy9=>(kZ aN ([6,7,8,11,13,17]) y9.1 λz10=>(obind (rmade_maker_expr ((bm .i64 (x.1-1)),I.2.1,y9.2,I.p3)) λJ=>(bF (((I.p3.1==J.p3)&&ai)&&aC (al I.p3.2) (al J.q4)&&ai) (obind (rmade_maker_expr ((bm .i64 (x.1-1)),J.2)) λU=>(bF (((J.p3==U.p3)&&ai)&&aC (al J.q4) (al U.q4)&&ai) (obind (nC (z10,J.1,U.1)) λM=>(af (dW ((Xp.op M),(Xp.n M),(Xp.name M),(Xp.l M)),U.2))))))))))))))
def im:Nat->XV->Option adt
 |0,_=>ah
 |n+1,x=>nK (im n) x
theorem yd (n:Nat) (x:Int×yh×fH×Bool×List (List UInt8)):im (n+1) x=nK (im n) x:=rfl
def eY (x:Int×yh×fH×Bool×List (List UInt8)):Option adt:=im fuel x
def eJ (x:(List UInt8)×yh×fH×Bool×List (List UInt8)):Option (Bool×yh×fH×Bool×List (List UInt8)):=
 (obind (iW (x.q4,x.1)) λI=>(af ((c5 0 I),x.2)))
def mn (rmade_maker_stmts:adv->Option XU) (rmade_maker_stmt:XV->Option aaf) (rmade_maker_block:adu->Option aag) (x:(Int×Int)×yh×fH×Bool×List (List UInt8)):Option XU:=
 (iter (σ:=Int×yh×fH×(List Sx)×Bool×List (List UInt8)) (λJ=>(jn (α:=Bool×yh×fH×(List Sx)×Bool×List (List UInt8)) (bz J.1 x.1.2 (bf J.1 0 (aF (ai,J.2)) (aF ((fO 0 J.2.1.2.1),J.2))) (aF (aj,J.2))) λI=>(bcase I.1 (obind (rmade_maker_stmt (x.1.1,I.2.1,I.p2,I.q4)) λM=>(bF (((I.p4==I.p4)&&ai)&&aC (al I.q5) (al I.q5)&&ai) (bF (bd (al I.p3+al ([dZ M.1])) 176) (cP ((cF J.1),M.2.1,M.p2,(I.p3++([dZ M.1])),M.q3))))) (aF (I.2.1,I.p2,I.q4,I.p3))))) (0,x.2.1,x.p2,([]:List Sx),x.q3))
def nJ (rmade_maker_stmts:adv->Option XU) (rmade_maker_stmt:XV->Option aaf) (rmade_maker_block:adu->Option aag) (x:Int×yh×fH×Bool×List (List UInt8)):Option aaf:=
 (obind (bx (18,x.p2)) λy1=>(jn (α:=Bool×yh×fH×GG×Bool×List (List UInt8)) (bz 0 x.1 (lt (bm .i64 (x.2.1.2.1-1)) λz3=>(bz 0 z3 (aF ((!x.2.1.p3),(x.2.1.1,(bm .i64 (x.2.1.2.1-1)),x.2.1.2.2),y1.2,(0,0,[],[],0,0,[]),x.q3)) (aF (aj,(x.2.1.1,(bm .i64 (x.2.1.2.1-1)),x.2.1.2.2),y1.2,(0,0,[],[],0,0,[]),x.q3)))) (aF (aj,(x.2.1.1,(bm .i64 (x.2.1.2.1-1)),x.2.1.2.2),y1.2,(0,0,[],[],0,0,[]),x.q3))) λx2=>(bz y1.1 4 (kZ (.str) ([[120],[121],[120],[118]]) y1.1 λz4=>(obind (eY (1,x2.2.1,x2.p2,x2.q4)) λy5=>(bF (((x2.p4==y5.p3)&&ai)&&aC (al x2.q5) (al y5.q4)&&ai) (obind (ji (z4,y5.1)) λy6=>(af (dZ y6,y5.2)))))) (bf y1.1 4 (obind (bx (2,x2.p2)) λy7=>(kZ (.str) ([[97],[98]]) y7.1 λz8=>(obind (eY (1,x2.2.1,y7.2,x2.q4)) λy9=>(bF (((x2.p4==y9.p3)&&ai)&&aC (al x2.q5) (al y9.q4)&&ai) (obind (ji (z8,y9.1)) λy10=>(af (dZ y10,y9.2))))))) (bf y1.1 5 (obind (eY (0,x2.2.1,x2.p2,x2.q4)) λy11=>(bF (((x2.p4==y11.p3)&&ai)&&aC (al x2.q5) (al y11.q4)&&ai) (obind (eY (1,y11.2)) λy12=>(bF (((y11.p3==y12.p3)&&ai)&&aC (al y11.q4) (al y12.q4)&&ai) (af (nD (1,0,[113],[],[dW ((Xp.op y11.1),(Xp.n y11.1),(Xp.name y11.1),(Xp.l y11.1))],dW ((Xp.op y12.1),(Xp.n y12.1),(Xp.name y12.1),(Xp.l y12.1)),([]:List Sx),([]:List Sx)),y12.2)))))) (jn (α:=Bool×yh×fH×GG×Bool×List (List UInt8)) (bf y1.1 6 (aF ((fO 0 x.1),x2.2)) (aF (aj,x2.2))) λx13=>(bcase x13.1 (obind (eY (1,x13.2.1,x13.p2,x13.q4)) λU=>(bF (((x13.p4==U.p3)&&ai)&&aC (al x13.q5) (al U.q4)&&ai) (obind (rmade_maker_stmts (((bm .i64 (x.1-1)),1),U.2)) λy15=>(bF (((U.p3==U.p3)&&ai)&&aC (al U.q4) (al U.q4)&&ai) (jn (α:=yh×fH×GG×(Int×Int×(List UInt8)×(List UInt8)×Int×Int×(List UInt8)×List Xp)×RL×(List Sx)×List Sx) (obind (bx (2,y15.2.1)) λy17=>(bf y17.1 1 (obind (rmade_maker_stmts (((bm .i64 (x.1-1)),1),y15.1,y17.2,y15.p2)) λy18=>(bF (((y15.p2.1==y15.p2.1)&&ai)&&aC (al y15.p2.2) (al y15.p2.2)&&ai) (aF (y18.1,y18.2.1,x13.p3,(2,0,[],[],(Xp.op U.1),(Xp.n U.1),(Xp.name U.1),(Xp.l U.1)),y18.p2,y15.q3,y18.q3)))) (aF (y15.1,y17.2,x13.p3,(2,0,[],[],(Xp.op U.1),(Xp.n U.1),(Xp.name U.1),(Xp.l U.1)),y15.p2,y15.q3,([]:List Sx))))) λx16=>(af (nD (x16.p3.1,x16.p3.2.1,x16.p3.p2,x16.p3.p3,([]:List Xp),dW x16.p3.q4,x16.q5),x16.1,x16.2.1,x16.p4))))))) (jn (α:=Bool×yh×fH×GG×Bool×List (List UInt8)) (bf y1.1 7 (aF ((fO 0 x.1),x13.2)) (aF (aj,x13.2))) λI=>(bcase I.1 (obind (pg ([98])) λy20=>(obind (rj 2) λy21=>(obind (nC (13,y20,y21)) λy22=>(obind (rmade_maker_stmts (((bm .i64 (x.1-1)),1),(I.2.1.1,I.2.1.2.1,I.2.1.p2,I.2.1.p3,I.2.1.p4,ai),I.p2,I.q4)) λy23=>(bF (((I.p4==I.p4)&&ai)&&aC (al I.q5) (al I.q5)&&ai) (obind (pg ([98])) λy24=>(obind (rj 1) λy25=>(obind (nC (6,y24,y25)) λy26=>(obind (ji ([98],y26)) λy27=>(bF (bd (al y23.q3+al ([dZ y27])) 176) (af (nD (3,0,[],[],([]:List Xp),dW ((Xp.op y22),(Xp.n y22),(Xp.name y22),(Xp.l y22)),(y23.q3++([dZ y27])),([]:List Sx)),(y23.1.1,y23.1.2.1,y23.1.p2,y23.1.p3,y23.1.p4,I.2.1.q5),y23.2.1,y23.p2)))))))))))) (jn (α:=Bool×yh×fH×GG×Bool×List (List UInt8)) (bf y1.1 8 (bcase x2.1 (kZ (.str) ([[109],[110]]) (bm .i64 (y1.1-8)) λz29=>(obind (eJ (z29,I.2.1,I.p2,I.q4)) λy30=>(bF (((I.p4==y30.p3)&&ai)&&aC (al I.q5) (al y30.q4)&&ai) (aF ((!y30.1),y30.2.1,y30.p2,I.p3,y30.q3))))) (aF (aj,I.2))) (bf y1.1 9 (bcase x2.1 (kZ (.str) ([[109],[110]]) (bm .i64 (y1.1-8)) λz31=>(obind (eJ (z31,I.2.1,I.p2,I.q4)) λy32=>(bF (((I.p4==y32.p3)&&ai)&&aC (al I.q5) (al y32.q4)&&ai) (aF ((!y32.1),y32.2.1,y32.p2,I.p3,y32.q3))))) (aF (aj,I.2))) (aF (aj,I.2)))) λJ=>(bcase J.1 (kZ (.str) ([[109],[110]]) (bm .i64 (y1.1-8)) λz33=>(obind (rmade_maker_block ((z33,(bm .i64 (x.1-1))),J.2.1,J.p2,J.q4)) λy34=>(bF (((J.p4==J.p4)&&ai)&&aC (al J.q5) (al J.q5)&&ai) (af (nD (4,0,z33,[],([]:List Xp),dW (0,0,[],([]:List Xp)),y34.1,([]:List Sx)),y34.2))))) (jn (α:=Bool×yh×fH×GG×Bool×List (List UInt8)) (bf y1.1 10 (bcase x2.1 (obind (eJ ([114],J.2.1,J.p2,J.q4)) λy36=>(bF (((J.p4==y36.p3)&&ai)&&aC (al J.q5) (al y36.q4)&&ai) (aF ((!y36.1),y36.2.1,y36.p2,J.p3,y36.q3)))) (aF (aj,J.2))) (bf y1.1 11 (bcase x2.1 (obind (eJ ([114],J.2.1,J.p2,J.q4)) λy37=>(bF (((J.p4==y37.p3)&&ai)&&aC (al J.q5) (al y37.q4)&&ai) (aF ((!y37.1),y37.2.1,y37.p2,J.p3,y37.q3)))) (aF (aj,J.2))) (aF (aj,J.2)))) λx35=>(bcase x35.1 (obind (rmade_maker_block (([114],(bm .i64 (x.1-1))),x35.2.1,x35.p2,x35.q4)) λy38=>(bF (((x35.p4==x35.p4)&&ai)&&aC (al x35.q5) (al x35.q5)&&ai) (af (nD ((bm .i64 ((bm .i64 (y1.1-10))+5)),0,[114],[],([]:List Xp),dW (0,0,[],([]:List Xp)),y38.1,([]:List Sx)),y38.2)))) (jn (α:=Bool×yh×fH×GG×Bool×List (List UInt8)) (bf y1.1 12 (aF (x2.1,x35.2)) (aF (aj,x35.2))) λY=>(bcase Y.1 (obind (bx (2,Y.p2)) λy40=>(obind (rmade_maker_stmts ((0,(bm .i64 (1+y40.1))),(Y.2.1.1,Y.2.1.2.1,Y.2.1.p2,ai,Y.2.1.q4),y40.2,Y.q4)) λy41=>(bF (((Y.p4==Y.p4)&&ai)&&aC (al Y.q5) (al Y.q5)&&ai) (af (nD (7,0,[],[],([]:List Xp),dW (0,0,[],([]:List Xp)),y41.q3,([]:List Sx)),(y41.1.1,y41.1.2.1,y41.1.p2,aj,y41.1.q4),y41.2.1,y41.p2))))) (jn (α:=Bool×yh×fH×GG×Bool×List (List UInt8)) (bf y1.1 13 (bcase x2.1 (aF ((!Y.2.1.p4),Y.2)) (aF (aj,Y.2))) (aF (aj,Y.2))) λM=>(bcase M.1 (obind (rmade_maker_stmts (((bm .i64 (x.1-1)),2),(M.2.1.1,M.2.1.2.1,M.2.1.p2,M.2.1.p3,ai,M.2.1.q5),M.p2,M.q4)) λy43=>(bF (((M.p4==M.p4)&&ai)&&aC (al M.q5) (al M.q5)&&ai) (af (nD (8,0,[],[],([]:List Xp),dW (0,0,[],([]:List Xp)),y43.q3,([]:List Sx)),(y43.1.1,y43.1.2.1,y43.1.p2,y43.1.p3,aj,y43.1.q5),y43.2.1,y43.p2)))) (jn (α:=Bool×yh×fH×GG×Bool×List (List UInt8)) (bf y1.1 14 (bcase x2.1 (bcase (!M.2.1.p4) (obind (eJ ([109],M.2.1,M.p2,M.q4)) λy45=>(bF (((M.p4==y45.p3)&&ai)&&aC (al M.q5) (al y45.q4)&&ai) (aF ((!y45.1),y45.2.1,y45.p2,M.p3,y45.q3)))) (aF (aj,M.2))) (aF (aj,M.2))) (aF (aj,M.2))) λx44=>(bcase x44.1 (obind (pg ([120])) λy46=>(obind (ji ([97],y46)) λy47=>(af (nD (4,0,[109],[],([]:List Xp),dW (0,0,[],([]:List Xp)),[nD (9,0,[99],[],([]:List Xp),dW (0,0,[],([]:List Xp)),([]:List Sx),([]:List Sx)),dZ y47],([]:List Sx)),x44.2.1,x44.p2,x44.q4)))) (jn (α:=Bool×yh×fH×GG×Bool×List (List UInt8)) (bf y1.1 15 (bcase x2.1 (obind (eJ ([109],x44.2.1,x44.p2,x44.q4)) λy49=>(bF (((x44.p4==y49.p3)&&ai)&&aC (al x44.q5) (al y49.q4)&&ai) (aF ((!y49.1),y49.2.1,y49.p2,x44.p3,y49.q3)))) (aF (aj,x44.2))) (aF (aj,x44.2))) λx48=>(bcase x48.1 (obind (bx (2,x48.p2)) λy50=>(af (nD (4,0,[109],[],([]:List Xp),dW (0,0,[],([]:List Xp)),[nD ((bm .i64 (10+y50.1)),0,[99],[],([]:List Xp),dW (0,0,[],([]:List Xp)),([]:List Sx),([]:List Sx))],([]:List Sx)),x48.2.1,y50.2,x48.q4))) (jn (α:=Bool×yh×fH×GG×Bool×List (List UInt8)) (bf y1.1 16 (bcase (!x48.2.1.p3) (bcase (!x48.2.1.q5) (aF ((!x48.2.1.p2),x48.2)) (aF (aj,x48.2))) (aF (aj,x48.2))) (aF (aj,x48.2))) λZ=>(bcase Z.1 (obind (eY (1,(Z.2.1.1,Z.2.1.2.1,ai,Z.2.1.q3),Z.p2,Z.q4)) λy52=>(bF (((Z.p4==y52.p3)&&ai)&&aC (al Z.q5) (al y52.q4)&&ai) (af (nD (14,0,[102],[],([]:List Xp),dW ((Xp.op y52.1),(Xp.n y52.1),(Xp.name y52.1),(Xp.l y52.1)),([]:List Sx),([]:List Sx)),y52.2)))) (jn (α:=Bool×yh×fH×GG×Bool×List (List UInt8)) (bf y1.1 17 (bcase (!Z.2.1.p3) (obind (bx (2,Z.p2)) λy54=>(aF ((decide ((y54.1:Int)=1)),Z.2.1,y54.2,Z.q3))) (aF (aj,Z.2))) (aF (aj,Z.2))) λx53=>(bcase x53.1 (af (nD (15,0,[97],[102],([]:List Xp),dW (0,0,[],([]:List Xp)),([]:List Sx),([]:List Sx)),x53.2.1,x53.p2,x53.q4)) (obind (eY (1,x53.2.1,x53.p2,x53.q4)) λy55=>(bF (((x53.p4==y55.p3)&&ai)&&aC (al x53.q5) (al y55.q4)&&ai) (obind (ji ([120],y55.1)) λy56=>(af (dZ y56,y55.2))))))))))))))))))))))))))))))
def mo (rmade_maker_stmts:adv->Option XU) (rmade_maker_stmt:XV->Option aaf) (rmade_maker_block:adu->Option aag) (x:fe×yh×fH×Bool×List (List UInt8)):Option aag:=
 (bF (bd (al x.q4+al ([x.1.1])) 16) (obind (bx (2,x.p2)) λJ=>(obind (rmade_maker_stmts ((x.1.2,(bm .i64 (1+J.1))),x.2.1,J.2,x.p3,(x.q4++([x.1.1])))) λI=>(bF (((x.p3==x.p3)&&ai)&&aC (al (x.q4++([x.1.1]))) (al (x.q4++([x.1.1])))&&ai) (bF (c5 0 (bm .i64 ((aZ I.p2.2)-1))&&fO (bm .i64 ((aZ I.p2.2)-1)) (al I.p2.2)) (af (I.q3,I.1,I.2.1,aj,(dM (aU (bm .i64 ((aZ I.p2.2)-1))) I.p2.2))))))))
mutual
def dF:Nat->adv->Option XU
 |0,_=>ah
 |n+1,x=>mn (dF n) (ep n) (dT n) x
def ep:Nat->XV->Option aaf
 |0,_=>ah
 |n+1,x=>nJ (dF n) (ep n) (dT n) x
def dT:Nat->adu->Option aag
 |0,_=>ah
 |n+1,x=>mo (dF n) (ep n) (dT n) x
end
def qg (x:(Int×Int)×yh×fH×Bool×List (List UInt8)):Option XU:=dF fuel x
def oB (x:List Int):Option (rW×List rV):=
 (obind (r8 ()) λy1=>(obind (bx (3,x,0)) λy2=>(iter (σ:=Int×yh×rW×b_×fH×RL×List rV) (λM=>(bz M.1 (bm .i64 (2+y2.1)) (kZ (.str) M.p3 M.1 λz4=>(jn (α:=yh×rW×b_×fe×fH×RL×(List rV)×b_×List Sx) (bf M.1 0 (iter (σ:=Int×yh×rW×b_×fe×fH×RL×(List rV)×b_×List Sx) (λY=>(bz Y.1 (bm .i64 (2+y2.1)) (kZ (.str) Y.p3 Y.1 λz7=>(bF (bd (al Y.q9+al ([nD (12,0,z7,[],([]:List Xp),dW (0,0,[],([]:List Xp)),([]:List Sx),([]:List Sx))])) 176) (cP ((cF Y.1),Y.2.1,Y.p2,Y.p3,Y.p4,Y.p5,Y.p6,Y.p7,Y.p8,(Y.q9++([nD (12,0,z7,[],([]:List Xp),dW (0,0,[],([]:List Xp)),([]:List Sx),([]:List Sx))])))))) (aF (bW Y.2)))) (1,(M.1,M.2.1.2),M.p2,M.p3,(z4,0),M.p4,M.p5,M.q6,[[97],[98]],([]:List Sx))) (aF ((M.1,M.2.1.2),M.p2,M.p3,(z4,0),M.p4,M.p5,M.q6,[[97],[98]],([]:List Sx)))) λU=>(obind (bx (3,U.p4)) λy8=>(obind (qg ((2,(bm .i64 (1+y8.1))),U.1,y8.2,U.p5)) λZ=>(bF (((U.p5.1==U.p5.1)&&ai)&&aC (al U.p5.2) (al U.p5.2)&&ai) (bF (bd (al U.q8+al Z.q3) 176) (jn (α:=yh×rW×b_×fe×fH×RL×(List rV)×b_×List Sx) (jn (α:=Bool×yh×rW×b_×fe×fH×RL×(List rV)×b_×List Sx) (bf M.1 0 (obind (bx (3,Z.2.1)) λy12=>(aF ((decide ((y12.1:Int)=2)),Z.1,U.2.1,U.p2,U.p3,y12.2,Z.p2,U.p6,U.p7,(U.q8++Z.q3)))) (aF (aj,Z.1,U.2.1,U.p2,U.p3,Z.2.1,Z.p2,U.p6,U.p7,(U.q8++Z.q3)))) λI=>(bcase I.1 (kZ (.str) I.p3 1 λz13=>(bF (bd (al I.q9+al ([nD (13,0,z13,[],([]:List Xp),dW (0,0,[],([]:List Xp)),([]:List Sx),([]:List Sx))])) 176) (aF (I.2.1,I.p2,I.p3,I.p4,I.p5,I.p6,I.p7,I.p8,(I.q9++([nD (13,0,z13,[],([]:List Xp),dW (0,0,[],([]:List Xp)),([]:List Sx),([]:List Sx))])))))) (aF I.2))) λJ=>(bF (bd (al J.p6+al ([(J.p3.1,J.p3.2,J.q7)])) 72) (cP ((cF M.1),J.1,J.2.1,J.p2,J.p4,J.p5,(J.p6++([(J.p3.1,J.p3.2,J.q7)])))))))))))) (obind (obind (fd (M.p2,M.q6)) λy14=>(iT y14.1 0 (obind (r8 ()) λy15=>(obind (rj 1) λy16=>(obind (ji ([120],y16)) λy17=>(af (y15,[([109,97,105,110],0,[[97],[98]],[dZ y17])]))))) (af (M.p2,M.q6)))) λr=>af (bW r)))) (0,(0,20,aj,aj,aj,aj),y1,[[109,97,105,110],[116,49],[116,50],[116,51]],y2.2,(ai,([]:List (List UInt8))),([]:List rV)))))
def wY (x:List Int):Option zq:=
 (obind (oB x) λJ=>(obind (qf J) λI=>(af I.1)))
def r9 (x:(List Int)×List Int):Option (dJ×List gH):=
 (obind (wY x.1) λM=>(obind (oC x.2) λJ=>(obind (yA (M,J)) λI=>(af I.1))))
def nl (x:Unit):Option dJ:=
 (iter (σ:=Int×gI×gq×(List fe)×b_×b_×List (Int×Int×Int)) (λJ=>(bz J.1 (aO (al ([[109,97,105,110],[116,49],[116,50],[116,51]]))) (iter (σ:=Int×gI×gq×(List fe)×b_×b_×List (Int×Int×Int)) (λI=>(bz I.1 6 (bF (bd (al I.q6+al ([(J.1,I.1,(bm .i64 ((bm .i64 ((bm .i64 (10*J.1))+I.1))+1)))])) 24) (cP ((cF I.1),I.2.1,I.p2,I.p3,I.p4,I.p5,(I.q6++([(J.1,I.1,(bm .i64 ((bm .i64 ((bm .i64 (10*J.1))+I.1))+1)))]))))) (aF (nh ((cF J.1),I.2))))) (0,J.2)) (aF J.2))) (0,[([120],0,0,aj,0),([121],0,0,aj,1),([118],0,0,ai,0),([113],0,2,aj,0),([113],1,2,aj,0)],[([109],aj),([110],aj),([114],ai)],[([99],0)],[[102]],[[109,97,105,110],[116,49],[116,50],[116,51]],([]:List (Int×Int×Int))))
def kQ (x:oW×(List Int)×(List Int)×List Int):Option (List Int):=
 (iter (σ:=Int×List Int) (λI=>(bz I.1 (aZ x.1.q3) (jn (α:=List Int) (bK h_ x.1.q3 I.1 λJ=>(bf J.1 3 (bF (bd (al I.2+al ([I.1])) 8) (aF (I.2++([I.1])))) (aF I.2))) λM=>(cP ((cF I.1),M))) (aF I.2))) (0,([]:List Int)))
def sY (x:Unit):Option (List Int):=
 (af ([3,3,3,3,3,4,4,4,4,4,5,5,5,6,6,6,7,7,7,8,9,10,11,12,13,14,14,15,16,16,17,17,18,18,19,20,1,1,2,21,22,23,23]))
def ov (x:(Int×Int)×(List Int)×Int):Option (Int×(List Int)×Int):=
 (jn (α:=Bool×(List Int)×Int) (bf x.1.1 3 (aF ((decide ((x.1.1:Int)=3)),x.2)) (aF ((decide ((x.1.1:Int)=4)),x.2))) λU=>(bcase U.1 (obind (bx (8,U.2)) λy2=>(kZ aN ([0,0,0,1,1,2,3,4]) y2.1 λz3=>(af (z3,y2.2)))) (jn (α:=Bool×(List Int)×Int) (bf x.1.1 6 (aF ((decide ((x.1.1:Int)=6)),U.2)) (aF ((decide ((x.1.1:Int)=7)),U.2))) λJ=>(bcase J.1 (obind (bx (2,J.2)) λy5=>(af y5)) (jn (α:=Bool×(List Int)×Int) (bf x.1.1 8 (aF ((decide ((x.1.1:Int)=8)),J.2)) (bf x.1.1 9 (aF ((decide ((x.1.1:Int)=9)),J.2)) (bf x.1.1 10 (aF ((decide ((x.1.1:Int)=10)),J.2)) (aF ((decide ((x.1.1:Int)=11)),J.2))))) λI=>(bcase I.1 (af (2,I.2)) (jn (α:=Bool×(List Int)×Int) (bf x.1.1 16 (aF ((decide ((x.1.1:Int)=16)),I.2)) (bf x.1.1 17 (aF ((decide ((x.1.1:Int)=17)),I.2)) (bf x.1.1 18 (aF ((decide ((x.1.1:Int)=18)),I.2)) (bf x.1.1 19 (aF ((decide ((x.1.1:Int)=19)),I.2)) (bf x.1.1 22 (aF ((decide ((x.1.1:Int)=22)),I.2)) (aF ((decide ((x.1.1:Int)=23)),I.2))))))) λM=>(bcase M.1 (af (0,M.2)) (jn (α:=Bool×(List Int)×Int) (bf x.1.1 20 (aF ((decide ((x.1.1:Int)=20)),M.2)) (aF ((decide ((x.1.1:Int)=21)),M.2))) λY=>(bcase Y.1 (obind (bx (3,Y.2)) λZ=>(af ((zG (bm .i64 ((cF x.1.2)+Z.1)) 4),Z.2))) (af ((-1),Y.2))))))))))))
def pZ (x:(eA×Int×Int)×(List Int)×Int):Option (Int×(List Int)×Int):=
 (bf x.1.2.1 3 (bK aN x.1.1.2.1 x.1.2.2 λZ=>(af (Z,x.2))) (bf x.1.2.1 23 (bK aN x.1.1.p2 0 λY=>(af (Y,x.2))) (jn (α:=Bool×fH×oW×(List Int)×(List Int)×List Int) (bf x.1.2.1 4 (aF ((decide ((x.1.2.1:Int)=4)),x.2,x.1.1)) (aF ((decide ((x.1.2.1:Int)=22)),x.2,x.1.1))) λI=>(bcase I.1 (obind (bx (3,I.2.1)) λy4=>(af y4)) (bf x.1.2.1 5 (obind (bx (2,I.2.1)) λy5=>(af y5)) (bf x.1.2.1 18 (obind (kQ I.2.2) λJ=>(bz 0 (aZ J) (obind (bx ((aZ J),I.2.1)) λM=>(bK aN J M.1 λU=>(af (U,M.2)))) (af ((-1),I.2.1)))) (bf x.1.2.1 19 (obind (kQ I.2.2) λy9=>(af ((aZ y9),I.2.1))) (af (0,I.2.1)))))))))
def gw (x:fH×List Int):Option ((List Int)×fH×List Int):=
 (iter (σ:=Int×fH×(List Int)×List Int) (λI=>(bz I.1 (aZ x.2) (jn (α:=fH×(List Int)×List Int) (kZ aN I.p2 I.1 λM=>(jn (α:=Bool×fH×(List Int)×List Int) (jz (aZ I.p2) (bm .i64 (I.1+3)) (obind (bx (2,I.2.1)) λU=>(aF ((decide ((U.1:Int)=1)),U.2,I.2.2))) (aF (aj,I.2))) λJ=>(bcase J.1 (bF (bd (al J.q3+al ([M])) 8) (aF (J.2.1,J.p2,(J.q3++([M]))))) (aF J.2)))) λY=>(cP ((cF I.1),Y))) (aF (I.q3,I.2.1,I.p2)))) (0,x.1,x.2,([]:List Int)))
def p_ (x:(eA×gI×gq×(List fe)×b_×b_×List (Int×Int×Int))×fH×(List Int)×(List Int)×(List Int)×List Int):Option (gH×fH×(List Int)×(List Int)×(List Int)×List Int):=
 (obind (bx (4,x.2.1)) λU=>(obind (sY ()) λy2=>(obind (bx ((aZ y2),U.2)) λy3=>(bK aN y2 y3.1 λz4=>(obind (bx (6,y3.2)) λy5=>(jn (α:=fH×(List Int)×(List Int)×(List Int)×(List Int)×eA×dJ×vw×Int×Int×Int×Int×Int) (jn (α:=Bool×fH×(List Int)×(List Int)×(List Int)×(List Int)×eA×dJ×vw×Int×Int×Int×Int×Int) (bf z4 1 (aF (ai,y5.2,x.p2,x.p3,x.p4,x.q5,x.1.1,x.1.2,(0,0,0,0,0),U.1,z4,0,0,(bm .i64 ((bm .i64 (U.1*6))+y5.1)))) (aF ((decide ((z4:Int)=2)),y5.2,x.p2,x.p3,x.p4,x.q5,x.1.1,x.1.2,(0,0,0,0,0),U.1,z4,0,0,(bm .i64 ((bm .i64 (U.1*6))+y5.1))))) λY=>(bcase Y.1 (aF (Y.2.1,Y.p2,Y.p3,Y.p4,Y.p5,Y.p6,Y.p7,Y.p8,Y.p9,Y.p10,Y.p11,Y.p12,(-1))) (aF Y.2))) λM=>(obind (ov ((M.p9,U.1),M.1)) λy8=>(obind (pZ ((M.p5,M.p9,y8.1),y8.2)) λy9=>(jn (α:=fH×(List Int)×(List Int)×(List Int)×(List Int)×vw×Int×Int×Int×Int×Int×List Int) (jn (α:=Bool×fH×(List Int)×(List Int)×(List Int)×(List Int)×vw×Int×Int×Int×Int×Int) (bf M.p9 5 (aF (ai,y9.2,M.2.1,M.p2,M.p3,M.p4,M.p7,M.p8,M.p9,y8.1,y9.1,M.q12)) (bf M.p9 3 (bK kx M.p6.1 y8.1 λz12=>(aF ((fO 0 z12.2.2.1),y9.2,M.2.1,M.p2,M.p3,M.p4,M.p7,M.p8,M.p9,y8.1,y9.1,M.q12))) (bf M.p9 4 (bK kx M.p6.1 y8.1 λz13=>(aF ((fO 0 z13.2.2.1),y9.2,M.2.1,M.p2,M.p3,M.p4,M.p7,M.p8,M.p9,y8.1,y9.1,M.q12))) (aF (aj,y9.2,M.2.1,M.p2,M.p3,M.p4,M.p7,M.p8,M.p9,y8.1,y9.1,M.q12))))) λJ=>(bcase J.1 (bf U.1 0 (obind (gw (J.2.1,J.p2)) λy14=>(bF (aC (al J.p2) (al y14.2.2)&&ai) (aF (y14.2.1,y14.2.2,J.p3,J.p4,J.p5,J.p6,J.p7,J.p8,J.p9,J.p10,J.q11,y14.1)))) (bf U.1 1 (obind (gw (J.2.1,J.p3)) λy15=>(bF (aC (al J.p3) (al y15.2.2)&&ai) (aF (y15.2.1,J.p2,y15.2.2,J.p4,J.p5,J.p6,J.p7,J.p8,J.p9,J.p10,J.q11,y15.1)))) (bf U.1 2 (obind (gw (J.2.1,J.p4)) λy16=>(bF (aC (al J.p4) (al y16.2.2)&&ai) (aF (y16.2.1,J.p2,J.p3,y16.2.2,J.p5,J.p6,J.p7,J.p8,J.p9,J.p10,J.q11,y16.1)))) (bf U.1 3 (obind (gw (J.2.1,J.p5)) λy17=>(bF (aC (al J.p5) (al y17.2.2)&&ai) (aF (y17.2.1,J.p2,J.p3,J.p4,y17.2.2,J.p6,J.p7,J.p8,J.p9,J.p10,J.q11,y17.1)))) ah)))) (aF (J.2.1,J.p2,J.p3,J.p4,J.p5,J.p6,J.p7,J.p8,J.p9,J.p10,J.q11,([]:List Int))))) λx10=>(jn (α:=fH×(List Int)×(List Int)×(List Int)×(List Int)×vw×Int×Int×Int×Int×Int×(List Int)×List Int) (jn (α:=Bool×fH×(List Int)×(List Int)×(List Int)×(List Int)×vw×Int×Int×Int×Int×Int×List Int) (bf x10.p7 4 (aF (ai,x10)) (aF ((decide ((x10.p7:Int)=22)),x10))) λI=>(bcase I.1 (bf U.1 0 (obind (gw (I.2.1,I.p2)) λy20=>(bF (aC (al I.p2) (al y20.2.2)&&ai) (aF (y20.2.1,y20.2.2,I.p3,I.p4,I.p5,I.p6,I.p7,I.p8,I.p9,I.p10,I.p11,I.q12,y20.1)))) (bf U.1 1 (obind (gw (I.2.1,I.p3)) λy21=>(bF (aC (al I.p3) (al y21.2.2)&&ai) (aF (y21.2.1,I.p2,y21.2.2,I.p4,I.p5,I.p6,I.p7,I.p8,I.p9,I.p10,I.p11,I.q12,y21.1)))) (bf U.1 2 (obind (gw (I.2.1,I.p4)) λy22=>(bF (aC (al I.p4) (al y22.2.2)&&ai) (aF (y22.2.1,I.p2,I.p3,y22.2.2,I.p5,I.p6,I.p7,I.p8,I.p9,I.p10,I.p11,I.q12,y22.1)))) (bf U.1 3 (obind (gw (I.2.1,I.p5)) λy23=>(bF (aC (al I.p5) (al y23.2.2)&&ai) (aF (y23.2.1,I.p2,I.p3,I.p4,y23.2.2,I.p6,I.p7,I.p8,I.p9,I.p10,I.p11,I.q12,y23.1)))) ah)))) (aF (I.2.1,I.p2,I.p3,I.p4,I.p5,I.p6,I.p7,I.p8,I.p9,I.p10,I.p11,I.q12,([]:List Int))))) λZ=>(af (Z.q6,Z.1,Z.2.1,Z.p2,Z.p3,Z.p4))))))))))))
def rY (x:(eA×dJ×Int×Bool)×(List Int)×Int):Option ((List gH)×(List Int)×Int):=
 (bF (c5 0 (aZ x.1.2.1.p4)&&c5 (aZ x.1.2.1.p4) (aZ x.1.2.1.p4)&&bd (aU (aZ x.1.2.1.p4)) 24&&decide (((aZ x.1.2.1.p4):Int)=4)) (jn (α:=fH×eA×dJ×(List Int)×(List Int)×(List Int)×List Int) (bz 0 (aO 4) (jn (α:=fH×eA×dJ×(List Int)×(List Int)×(List Int)×List Int) (jn (α:=Bool×fH×eA×dJ×(List Int)×(List Int)×(List Int)×List Int) (bcase x.1.q3 (bK aN x.1.1.q3 0 λz4=>(bz 1 z4 (obind (bx (3,x.2)) λy5=>(aF ((decide ((y5.1:Int)=2)),y5.2,x.1.1,x.1.2.1,([]:List Int),([]:List Int),([]:List Int),([]:List Int)))) (aF (aj,x.2,x.1.1,x.1.2.1,([]:List Int),([]:List Int),([]:List Int),([]:List Int))))) (aF (aj,x.2,x.1.1,x.1.2.1,([]:List Int),([]:List Int),([]:List Int),([]:List Int)))) λx3=>(bcase x3.1 (bF (bd (al x3.p4+al ([1])) 8) (aF (x3.2.1,x3.p2,x3.p3,(x3.p4++([1])),x3.q5))) (aF x3.2))) λx2=>(bz 1 (aO 4) (jn (α:=fH×eA×dJ×(List Int)×(List Int)×(List Int)×List Int) (jn (α:=Bool×fH×eA×dJ×(List Int)×(List Int)×(List Int)×List Int) (bcase x.1.q3 (bK aN x2.2.1.q3 1 λz8=>(bz 1 z8 (obind (bx (3,x2.1)) λy9=>(aF ((decide ((y9.1:Int)=2)),y9.2,x2.2))) (aF (aj,x2)))) (aF (aj,x2))) λx7=>(bcase x7.1 (bF (bd (al x7.p5+al ([1])) 8) (aF (x7.2.1,x7.p2,x7.p3,x7.p4,(x7.p5++([1])),x7.q6))) (aF x7.2))) λx6=>(bz 2 (aO 4) (jn (α:=fH×eA×dJ×(List Int)×(List Int)×(List Int)×List Int) (jn (α:=Bool×fH×eA×dJ×(List Int)×(List Int)×(List Int)×List Int) (bcase x.1.q3 (bK aN x6.2.1.q3 2 λz12=>(bz 1 z12 (obind (bx (3,x6.1)) λy13=>(aF ((decide ((y13.1:Int)=2)),y13.2,x6.2))) (aF (aj,x6)))) (aF (aj,x6))) λY=>(bcase Y.1 (bF (bd (al Y.p6+al ([1])) 8) (aF (Y.2.1,Y.p2,Y.p3,Y.p4,Y.p5,(Y.p6++([1])),Y.q7))) (aF Y.2))) λx10=>(bz 3 (aO 4) (jn (α:=fH×eA×dJ×(List Int)×(List Int)×(List Int)×List Int) (jn (α:=Bool×fH×eA×dJ×(List Int)×(List Int)×(List Int)×List Int) (bcase x.1.q3 (bK aN x10.2.1.q3 3 λz16=>(bz 1 z16 (obind (bx (3,x10.1)) λy17=>(aF ((decide ((y17.1:Int)=2)),y17.2,x10.2))) (aF (aj,x10)))) (aF (aj,x10))) λU=>(bcase U.1 (bF (bd (al U.q7+al ([1])) 8) (aF (U.2.1,U.p2,U.p3,U.p4,U.p5,U.p6,(U.q7++([1]))))) (aF U.2))) λx14=>(bz 4 (aO 4) (jn (α:=fH×eA×dJ×(List Int)×(List Int)×(List Int)×List Int) (jn (α:=Bool×fH×eA×dJ×(List Int)×(List Int)×(List Int)×List Int) (bcase x.1.q3 (bK aN x14.2.1.q3 4 λz20=>(bz 1 z20 (obind (bx (3,x14.1)) λy21=>(aF ((decide ((y21.1:Int)=2)),y21.2,x14.2))) (aF (aj,x14)))) (aF (aj,x14))) λx19=>(bcase x19.1 ah (aF x19.2))) λx18=>ah) (aF x14))) (aF x10))) (aF x6))) (aF x2))) (aF (x.2,x.1.1,x.1.2.1,([]:List Int),([]:List Int),([]:List Int),([]:List Int)))) λx1=>(iter (σ:=fH×eA×dJ×(List gH)×(List Int)×(List Int)×(List Int)×List Int) (λx22=>(jn (α:=Bool×fH×eA×dJ×(List gH)×(List Int)×(List Int)×(List Int)×List Int) (bz (aZ x22.p3) x.1.p2 (aF ((fO x22.1.2 (aZ x22.1.1)),x22)) (aF (aj,x22))) λJ=>(bcase J.1 (jn (α:=fH×eA×dJ×(List gH)×(List Int)×(List Int)×(List Int)×List Int) (obind (p_ ((J.p2,J.p3),J.2.1,J.q5)) λM=>(bF (aC (al J.q8) (al M.q5)&&(aC (al J.p7) (al M.p4)&&(aC (al J.p6) (al M.p3)&&(aC (al J.p5) (al M.p2)&&ai)))) (obind (qY (J.p3,J.p2,M.1)) λy26=>(bcase (!y26.2) (aF (M.2.1,J.p2,J.p3,J.p4,M.2.2)) (jn (α:=fH×eA×dJ×(List gH)×gH×eA×(List Int)×(List Int)×(List Int)×List Int) (jn (α:=Bool×fH×eA×dJ×(List gH)×gH×eA×(List Int)×(List Int)×(List Int)×List Int) (bf M.1.2.1 3 (aF (ai,M.2.1,J.p2,J.p3,J.p4,M.1,y26.1,M.2.2)) (aF ((decide ((M.1.2.1:Int)=23)),M.2.1,J.p2,J.p3,J.p4,M.1,y26.1,M.2.2))) λI=>(bcase I.1 (bf I.p5.1 0 (bK aN I.p2.q3 0 λz29=>(bF (bd (al I.p7+al ([z29])) 8) (aF (I.2.1,I.p2,I.p3,I.p4,(0,I.p5.2),I.p6,(I.p7++([z29])),I.q8)))) (bf I.p5.1 1 (bK aN I.p2.q3 1 λz30=>(bF (bd (al I.p8+al ([z30])) 8) (aF (I.2.1,I.p2,I.p3,I.p4,(1,I.p5.2),I.p6,I.p7,(I.p8++([z30])),I.q9)))) (bf I.p5.1 2 (bK aN I.p2.q3 2 λz31=>(bF (bd (al I.p9+al ([z31])) 8) (aF (I.2.1,I.p2,I.p3,I.p4,(2,I.p5.2),I.p6,I.p7,I.p8,(I.p9++([z31])),I.q10)))) (bf I.p5.1 3 (bK aN I.p2.q3 3 λz32=>(bF (bd (al I.q10+al ([z32])) 8) (aF (I.2.1,I.p2,I.p3,I.p4,(3,I.p5.2),I.p6,I.p7,I.p8,I.p9,(I.q10++([z32])))))) ah)))) (aF I.2))) λZ=>(bF (bd (al Z.p3+al ([Z.p4])) 88) (aF (Z.1,Z.p5,Z.p2,(Z.p3++([Z.p4])),Z.q6)))))))) λx24=>(cP x24)) (aF (J.p4,J.2.1))))) (x1.1,x1.2.1,x1.p2,([]:List gH),x1.q3))))
def qb (x:(List Int)×Int):Option (dJ×List gH):=
 (jn (α:=List Int) (bz 600 (aZ x.1) (bF (c5 0 600&&c5 600 (al x.1)) (aF (dM (aU 600) x.1))) (aF x.1)) λx1=>(obind (nl ()) λy2=>(obind (mD y2) λy3=>(obind (bx (3,x1,0)) λy4=>(iter (σ:=Int×fH×dJ×eA×List gH) (λJ=>(jz J.1 (bm .i64 (1+y4.1)) (bF (bd (al J.q4+al ([(0,20,J.1,0,0,([]:List Int),([]:List Int)),(J.1,1,(-1),0,(-1),([]:List Int),([]:List Int))])) 88) (cP ((cF J.1),J.2.1,J.p2,J.p3,(J.q4++([(0,20,J.1,0,0,([]:List Int),([]:List Int)),(J.1,1,(-1),0,(-1),([]:List Int),([]:List Int))]))))) (obind (iter (σ:=Int×fH×dJ×eA×(List gH)×List gH) (λI=>(bz I.1 (aZ J.q4) (jn (α:=fH×dJ×eA×(List gH)×List gH) (kZ iL I.p4 I.1 λU=>(obind (qY (I.p2,I.p3,U)) λy9=>(bcase y9.2 (bF (bd (al I.q5+al ([U])) 88) (aF (I.2.1,I.p2,y9.1,I.p4,(I.q5++([U]))))) (aF I.2)))) λx7=>(cP ((cF I.1),x7))) (obind (obind (rY ((I.p3,I.p2,(Gh (ko x.2 0) 60),aj),I.2.1)) λM=>(bF (bd (al I.q5+al M.1) 88) (obind (tP (I.p2,(I.q5++M.1))) λZ=>(iT Z.2 0 (obind (nl ()) λY=>(af (Y,([]:List gH)))) (af (I.p2,(I.q5++M.1))))))) λr=>af (bW r)))) (0,J.2.1,J.p2,J.p3,J.q4,([]:List gH))) λr=>af (bW r)))) (1,y4.2,y2,y3,[(0,1,(-1),0,(-1),([]:List Int),([]:List Int))]))))))
def kR (x:((List Int)×(List Int)×List Int)×Int):Option (dJ×List gH):=
 (bz 0 (aZ x.1.2.2) (obind (qb (x.1.2.2,x.2)) λJ=>(af J)) (bF (c5 0 (Gh (aZ x.1.2.1) x.2)&&c5 (Gh (aZ x.1.2.1) x.2) (al x.1.2.1)) (obind (r9 (x.1.1,(dM (aU (Gh (aZ x.1.2.1) x.2)) x.1.2.1))) λI=>(af I))))
end
end Go.Proofs.YthehadcddfilhaaGreatDoor.AI
