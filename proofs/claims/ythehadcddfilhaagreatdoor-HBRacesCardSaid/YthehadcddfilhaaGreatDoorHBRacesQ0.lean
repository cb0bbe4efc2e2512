/-
  Texts of the proof, part 1 of 6: what is used to prove the statement. No condition.
-/
import Derived.WalkKit
import Derived.Lib.Hide
import Derived.Deep.QuietTactic
namespace Prod
variable {A0 A1 A2 A3 A4 A5 A6 A7 A8 A9 A10 A11 A12 A13 A14 A15 A16 A17 A18 A19 A20 A21 A22 A23 A24:Type}
abbrev p2 (x:A0×A1×A2×A3):A2:=x.2.2.1
abbrev p3 (x:A0×A1×A2×A3×A4):A3:=x.2.2.2.1
abbrev q3 (x:A0×A1×A2×A3):A3:=x.2.2.2
abbrev p4 (x:A0×A1×A2×A3×A4×A5):A4:=x.2.2.2.2.1
abbrev q4 (x:A0×A1×A2×A3×A4):A4:=x.2.2.2.2
abbrev p5 (x:A0×A1×A2×A3×A4×A5×A6):A5:=x.2.2.2.2.2.1
abbrev q5 (x:A0×A1×A2×A3×A4×A5):A5:=x.2.2.2.2.2
abbrev p6 (x:A0×A1×A2×A3×A4×A5×A6×A7):A6:=x.2.2.2.2.2.2.1
abbrev q6 (x:A0×A1×A2×A3×A4×A5×A6):A6:=x.2.2.2.2.2.2
abbrev p7 (x:A0×A1×A2×A3×A4×A5×A6×A7×A8):A7:=x.2.2.2.2.2.2.2.1
abbrev q7 (x:A0×A1×A2×A3×A4×A5×A6×A7):A7:=x.2.2.2.2.2.2.2
abbrev p8 (x:A0×A1×A2×A3×A4×A5×A6×A7×A8×A9):A8:=x.2.2.2.2.2.2.2.2.1
abbrev q8 (x:A0×A1×A2×A3×A4×A5×A6×A7×A8):A8:=x.2.2.2.2.2.2.2.2
abbrev p9 (x:A0×A1×A2×A3×A4×A5×A6×A7×A8×A9×A10):A9:=x.2.2.2.2.2.2.2.2.2.1
abbrev q9 (x:A0×A1×A2×A3×A4×A5×A6×A7×A8×A9):A9:=x.2.2.2.2.2.2.2.2.2
abbrev p10 (x:A0×A1×A2×A3×A4×A5×A6×A7×A8×A9×A10×A11):A10:=x.2.2.2.2.2.2.2.2.2.2.1
abbrev q10 (x:A0×A1×A2×A3×A4×A5×A6×A7×A8×A9×A10):A10:=x.2.2.2.2.2.2.2.2.2.2
abbrev p11 (x:A0×A1×A2×A3×A4×A5×A6×A7×A8×A9×A10×A11×A12):A11:=x.2.2.2.2.2.2.2.2.2.2.2.1
abbrev q11 (x:A0×A1×A2×A3×A4×A5×A6×A7×A8×A9×A10×A11):A11:=x.2.2.2.2.2.2.2.2.2.2.2
abbrev p12 (x:A0×A1×A2×A3×A4×A5×A6×A7×A8×A9×A10×A11×A12×A13):A12:=x.2.2.2.2.2.2.2.2.2.2.2.2.1
abbrev q12 (x:A0×A1×A2×A3×A4×A5×A6×A7×A8×A9×A10×A11×A12):A12:=x.2.2.2.2.2.2.2.2.2.2.2.2
abbrev p13 (x:A0×A1×A2×A3×A4×A5×A6×A7×A8×A9×A10×A11×A12×A13×A14):A13:=x.2.2.2.2.2.2.2.2.2.2.2.2.2.1
abbrev q13 (x:A0×A1×A2×A3×A4×A5×A6×A7×A8×A9×A10×A11×A12×A13):A13:=x.2.2.2.2.2.2.2.2.2.2.2.2.2
abbrev p14 (x:A0×A1×A2×A3×A4×A5×A6×A7×A8×A9×A10×A11×A12×A13×A14×A15):A14:=x.2.2.2.2.2.2.2.2.2.2.2.2.2.2.1
abbrev p15 (x:A0×A1×A2×A3×A4×A5×A6×A7×A8×A9×A10×A11×A12×A13×A14×A15×A16):A15:=x.2.2.2.2.2.2.2.2.2.2.2.2.2.2.2.1
abbrev p16 (x:A0×A1×A2×A3×A4×A5×A6×A7×A8×A9×A10×A11×A12×A13×A14×A15×A16×A17):A16:=x.2.2.2.2.2.2.2.2.2.2.2.2.2.2.2.2.1
abbrev q16 (x:A0×A1×A2×A3×A4×A5×A6×A7×A8×A9×A10×A11×A12×A13×A14×A15×A16):A16:=x.2.2.2.2.2.2.2.2.2.2.2.2.2.2.2.2
abbrev p17 (x:A0×A1×A2×A3×A4×A5×A6×A7×A8×A9×A10×A11×A12×A13×A14×A15×A16×A17×A18):A17:=x.2.2.2.2.2.2.2.2.2.2.2.2.2.2.2.2.2.1
abbrev q17 (x:A0×A1×A2×A3×A4×A5×A6×A7×A8×A9×A10×A11×A12×A13×A14×A15×A16×A17):A17:=x.2.2.2.2.2.2.2.2.2.2.2.2.2.2.2.2.2
abbrev p18 (x:A0×A1×A2×A3×A4×A5×A6×A7×A8×A9×A10×A11×A12×A13×A14×A15×A16×A17×A18×A19):A18:=x.2.2.2.2.2.2.2.2.2.2.2.2.2.2.2.2.2.2.1
abbrev q18 (x:A0×A1×A2×A3×A4×A5×A6×A7×A8×A9×A10×A11×A12×A13×A14×A15×A16×A17×A18):A18:=x.2.2.2.2.2.2.2.2.2.2.2.2.2.2.2.2.2.2
abbrev p19 (x:A0×A1×A2×A3×A4×A5×A6×A7×A8×A9×A10×A11×A12×A13×A14×A15×A16×A17×A18×A19×A20):A19:=x.2.2.2.2.2.2.2.2.2.2.2.2.2.2.2.2.2.2.2.1
abbrev p20 (x:A0×A1×A2×A3×A4×A5×A6×A7×A8×A9×A10×A11×A12×A13×A14×A15×A16×A17×A18×A19×A20×A21):A20:=x.2.2.2.2.2.2.2.2.2.2.2.2.2.2.2.2.2.2.2.2.1
abbrev q21 (x:A0×A1×A2×A3×A4×A5×A6×A7×A8×A9×A10×A11×A12×A13×A14×A15×A16×A17×A18×A19×A20×A21):A21:=x.2.2.2.2.2.2.2.2.2.2.2.2.2.2.2.2.2.2.2.2.2
end Prod
namespace Go.Proofs.YthehadcddfilhaaGreatDoor.AI
open Go.RowKit
set_option maxRecDepth 100000
set_option maxHeartbeats 4000000
set_option linter.unusedVariables false
set_option linter.unusedSimpArgs false
open Act renaming put→N6
open _root_.Array renaming length_toList→iz,replicate→oC
open _root_.Bool renaming true→ai,false→aj
open _root_.Int renaming ofNat→aP,toNat→aU,tmod→Ak
open IntKind renaming wrap→oX
open _root_.List renaming length→al,replicate→aG,range→cS,length_singleton→c6,take→dQ,getElem?_cons_zero→qX
open _root_.Nat renaming beq→aC,testBit→aN,ble→eK,blt→gq,min→iS
open Oper renaming wp→HM
open _root_.Option renaming some→af,none→ah,bind_some→aI
open Region renaming wanted→iM,binds→Ag,ready→HL
open _root_.Sum renaming inr→bP,inl→lz
open World renaming shape?→rV,cell?→N0
noncomputable section
abbrev ay:=@if_neg
abbrev aE:=@if_pos
abbrev aQ:=@decide_eq_true
abbrev bd:=@decide_eq_true_eq
abbrev bi:=@of_decide_eq_true
abbrev bw:=@decide_eq_false
abbrev bG:=@if_true
abbrev cw:=@decide_false
abbrev cM:=@decide_true
abbrev cR:=@absurd
abbrev cY:=@beq_self_eq_true
abbrev c5:=@beq_iff_eq
abbrev eh:=@if_false
abbrev gi:=@or_false
abbrev gO:=@congrArg
abbrev BL:=@true_and
abbrev Uc:=@of_decide_eq_false
abbrev aa5:=@decide_eq_decide
abbrev ak:=@Option.some.injEq
abbrev av:=@Bool.and_eq_true
abbrev aw:=@Nat.eq_of_beq_eq_true
abbrev aA:=@List.getD_eq_getElem?_getD
abbrev aB:=@List.getElem?_eq_getElem
abbrev aD:=@Prod.mk.injEq
abbrev aL:=@List.mem_singleton
abbrev a8:=@Nat.le_of_ble_eq_true
abbrev ba:=@List.getElem?_map
abbrev bc:=@List.mem_of_getElem?
abbrev bm:=@List.length_append
abbrev bn:=@List.getElem?_eq_some_iff
abbrev bp:=@List.mem_cons
abbrev bu:=@Nat.testBit_or
abbrev bF:=@Nat.ble_eq_true_of_le
abbrev bH:=@List.length_take
abbrev bN:=@Nat.zero_add
abbrev bO:=@List.getElem?_append_left
abbrev bQ:=@List.mem_append
abbrev bR:=@List.length_map
abbrev bS:=@List.getElem?_eq_none
abbrev bV:=@Nat.le_refl
abbrev b_:=@Nat.lt_or_ge
abbrev ca:=@List.getElem?_append_right
abbrev cz:=@List.not_mem_nil
abbrev cA:=@Bool.false_eq_true
abbrev cE:=@List.map_append
abbrev cG:=@Array.getElem?_eq_some_iff
abbrev cH:=@Nat.mul_le_mul_right
abbrev cI:=@List.mem_cons_of_mem
abbrev cJ:=@Array.getElem?_toList
abbrev cP:=@List.take_length
abbrev cU:=@List.getElem?_take
abbrev di:=@Nat.le_trans
abbrev dj:=@List.mem_map
abbrev dk:=@List.mem_cons_self
abbrev dD:=@Nat.lt_of_lt_of_le
abbrev dE:=@List.ext_getElem
abbrev dR:=@List.foldl_append
abbrev dT:=@Int.natCast_nonneg
abbrev eA:=@Bool.not_eq_true'
abbrev eL:=@List.length_replicate
abbrev eR:=@Int.le_refl
abbrev e_:=@List.getElem?_of_mem
abbrev fK:=@List.length_range
abbrev fM:=@List.flatMap_cons
abbrev fO:=@List.append_assoc
abbrev f_:=@List.take_of_length_le
abbrev gp:=@List.append_nil
abbrev gu:=@List.map_cons
abbrev gx:=@List.all_eq_true
abbrev gJ:=@Array.getD_eq_getD_getElem?
abbrev gM:=@List.length_eq_zero_iff
abbrev gZ:=@List.mem_of_mem_take
abbrev g_:=@List.getElem?_drop
abbrev ii:=@Nat.ne_of_beq_eq_false
abbrev il:=@Array.getElem?_eq_getElem
abbrev iB:=@Nat.le_succ_of_le
abbrev iN:=@Option.isSome_iff_exists
abbrev iR:=@Nat.succ_mul
abbrev iT:=@List.cons.injEq
abbrev iU:=@Bool.or_eq_true
abbrev jm:=@Bool.and_eq_true_iff
abbrev jO:=@Option.map_eq_some_iff
abbrev jS:=@Option.some.inj
abbrev jT:=@Nat.zero_le
abbrev ko:=@List.getElem?_toArray
abbrev kF:=@Nat.or_assoc
abbrev kH:=@List.map_take
abbrev kJ:=@Bool.true_and
abbrev kK:=@Bool.and_self
abbrev li:=@List.take_append_of_le_length
abbrev lj:=@List.mem_range
abbrev ll:=@List.mem_append_left
abbrev lA:=@List.getElem?_replicate
abbrev mG:=@List.length_drop
abbrev nC:=@List.getElem_range
abbrev nD:=@Bool.false_and
abbrev nG:=@List.mem_append_right
abbrev oV:=@List.take_succ_eq_append_getElem
abbrev oW:=@List.getElem?_set
abbrev pD:=@Nat.add_assoc
abbrev pE:=@List.eq_of_mem_replicate
abbrev pW:=@Array.getElem?_setIfInBounds_ne
abbrev qb:=@List.map_congr_left
abbrev qc:=@List.length_take_le
abbrev qW:=@List.getElem_map
abbrev rW:=@Nat.beq_refl
abbrev rX:=@List.drop_of_length_le
abbrev sR:=@Nat.min_eq_left
abbrev sS:=@List.length_set
abbrev s9:=@List.contains_iff_mem
abbrev tD:=@List.size_toArray
abbrev uQ:=@List.replicate_succ'
abbrev vg:=@List.mem_flatMap
abbrev vh:=@List.getElem_set
abbrev vi:=@List.getElem_mem
abbrev vj:=@List.drop_append
abbrev vK:=@Classical.byContradiction
abbrev v8:=@List.getElem?_range
abbrev v9:=@List.drop_succ_cons
abbrev xm:=@Nat.not_lt_zero
abbrev xn:=@List.mem_filter
abbrev yc:=@List.filter_append
abbrev yI:=@Nat.zero_or
abbrev Ai:=@Nat.lt_succ_of_lt
abbrev Aj:=@List.map_map
abbrev BJ:=@List.take_append_drop
abbrev BK:=@List.length_filter_le
abbrev Cu:=@Nat.lt_succ_self
abbrev Cv:=@Int.not_lt
abbrev Cz:=@Nat.lt_irrefl
abbrev Ek:=@List.getElem?_mapIdx
abbrev El:=@List.drop_append_of_le_length
abbrev FJ:=@List.sum_append
abbrev FK:=@List.range_succ
abbrev G':=@Int.toNat_of_nonneg
abbrev HN:=@Nat.sub_self
abbrev HO:=@Nat.mul_comm
abbrev Lm:=@Nat.eq_zero_or_pos
abbrev Lo:=@Array.ext'
abbrev N2:=@Nat.lt_trichotomy
abbrev N3:=@Nat.add_mul
abbrev N5:=@Bool.eq_false_iff
inductive FV where
 |raw (v:Value)
 |sl (cells:List FV) (n:Nat)
 |ptr (cells:List FV) (off:Nat)
 |agg (cells:List FV)
inductive AV where
 |f (x:FV)
 |ptr (id off:Nat)
 |sl (id off n:Nat)
 |row (id sz n:Nat)
 |mp (id:Nat)
 |emp
 |anyb
 |agg (cells:List AV)
 |tup (vs:List AV)
 |clo (g:FuncId) (cap:List AV)
def FV.isCell:FV->Bool
 |.raw v=>v.oneCell'
 |.sl _ _=>ai
 |.ptr _ _=>ai
 |.agg _=>aj
def AV.isCell:AV->Bool
 |.f x=>x.isCell
 |.ptr _ _=>ai
 |.sl _ _ _=>ai
 |.row _ _ _=>ai
 |.mp _=>ai
 |.emp=>ai
 |.clo _ _=>ai
 |_=>aj
inductive nA (O:Nat->Prop) (w:World):FV->Value->Prop
 |raw (v:Value):nA O w (.raw v) v
 |nil (a:Option Addr) (c:Nat) (hc:c<=maxLen):nA O w (.sl [] 0) (.slice a 0 c)
 |sl (cells:List FV) (n c b off:Nat) (us:Nat->Value) (hn:n<=c) (hc:c<=maxLen) (hO:¬O b) (hb:b<w.heap.size)
   (hcl:∀ x∈cells,x.isCell=ai)
   (hu:∀ j,j<cells.length->w.cell? ⟨b,off+j,ah⟩=af (us j)) (hr:∀ (j:Nat) x,cells[j]? =af x->nA O w x (us j)):
   nA O w (.sl cells n) (.slice (af ⟨b,off,ah⟩) n c)
 |ptr (cells:List FV) (o b off:Nat) (us:Nat->Value) (hO:¬O b) (hb:b<w.heap.size)
   (hcl:∀ x∈cells,x.isCell=ai)
   (hu:∀ j,j<cells.length->w.cell? ⟨b,off+j,ah⟩=af (us j)) (hr:∀ (j:Nat) x,cells[j]? =af x->nA O w x (us j)):
   nA O w (.ptr cells o) (.pointer (af ⟨b,off+o,ah⟩))
 |agg (cells:List FV) (vs:List Value) (hl:vs.length=cells.length) (hcl:∀ x∈cells,x.isCell=ai)
   (hr:∀ (j:Nat) x v,cells[j]? =af x->vs[j]? =af v->nA O w x v):nA O w (.agg cells) (.agg vs.toArray)
abbrev PM:=Nat->Option Nat
inductive cO (φ:PM) (O:Nat->Prop) (w:World):AV->Value->Prop
 |f {x:FV} {v:Value} (h:nA O w x v):cO φ O w (.f x) v
 |ptr {id off b:Nat} (h:φ id=af b):cO φ O w (.ptr id off) (.pointer (af ⟨b,off,ah⟩))
 |sl {id off n c b:Nat} (h:φ id=af b) (hn:n<=c) (hc:c<=maxLen):cO φ O w (.sl id off n) (.slice (af ⟨b,off,ah⟩) n c)
 |row {id sz n c b:Nat} (h:φ id=af b) (hn:n<=c) (hc:c<=maxLen) (hs:∃ ty,w.shape? b=af (ty,c*sz)):
   cO φ O w (.row id sz n) (.slice (af ⟨b,0,ah⟩) n c)
 |emp {a:Option Addr}:cO φ O w .emp (.slice a 0 0)
 |anyb {b:Bool}:cO φ O w .anyb (.bool b)
 |mp {id b:Nat} (h:φ id=af b):cO φ O w (.mp id) (.map (af b))
 |agg {cells:List AV} {vs:List Value} (hl:vs.length=cells.length) (hcl:∀ x∈cells,x.isCell=ai)
   (hr:∀ (j:Nat) x v,cells[j]? =af x->vs[j]? =af v->cO φ O w x v):cO φ O w (.agg cells) (.agg vs.toArray)
 |tup {cells:List AV} {vs:List Value} (hl:vs.length=cells.length)
   (hr:∀ (j:Nat) x v,cells[j]? =af x->vs[j]? =af v->cO φ O w x v):cO φ O w (.tup cells) (.tuple vs.toArray)
 |clo {g:FuncId} {cells:List AV} {vs:List Value} (hl:vs.length=cells.length)
   (hr:∀ (j:Nat) x v,cells[j]? =af x->vs[j]? =af v->cO φ O w x v):cO φ O w (.clo g cells) (.func (.func g) #[] vs.toArray)
structure Lh (O:Nat->Prop) (w w':World):Prop where
 os:w'.os=w.os
 tape:w'.tape=w.tape
 output:w'.output=w.output
 size:w.heap.size<=w'.heap.size
 blk:∀ k,k<w.heap.size->¬O k->w'.heap[k]? =w.heap[k]?
 shp:∀ k,k<w.heap.size->w'.shape? k=w.shape? k
theorem Lh.refl (O:Nat->Prop) (w:World):Lh O w w:=⟨rfl,rfl,rfl,bV _,λ_ _ _=>rfl,λ_ _=>rfl⟩
theorem D8 {w w':World} {b:Nat} (h:w'.heap[b]? =w.heap[b]?) (o:Nat):w'.cell? ⟨b,o,ah⟩=w.cell? ⟨b,o,ah⟩:=by
 unfold N0;rw[h]
theorem nA.ext {O O':Nat->Prop} {w w':World} (he:Lh O w w') (J:∀ k,k<w.heap.size->O' k->O k) {x:FV} {v:Value} (h:nA O w x v):nA O' w' x v:=by
 induction h with
 |raw v=>exact .raw v
 |nil a c hc=>exact .nil a c hc
 |sl cells n c b off us hn hc hO hb hcl hu hr I=>
  exact .sl cells n c b off us hn hc (λh=>hO (J b hb h)) (dD hb he.size) hcl (λj hj=>by rw[D8 (he.blk b hb hO)];exact hu j hj) I
 |ptr cells o b off us hO hb hcl hu hr I=>
  exact .ptr cells o b off us (λh=>hO (J b hb h)) (dD hb he.size) hcl (λj hj=>by rw[D8 (he.blk b hb hO)];exact hu j hj) I
 |agg cells vs hl hcl hr I=>exact .agg cells vs hl hcl I
theorem cO.ext {φ φ':PM} {O O':Nat->Prop} {w w':World} (hs:∀ i k,φ i=af k->φ' i=af k) (he:Lh O w w') (J:∀ k,k<w.heap.size->O' k->O k) {x:AV} {v:Value} (h:cO φ O w x v):cO φ' O' w' x v:=by
 induction h with
 |f h=>exact .f (h.ext he J)
 |ptr h=>exact .ptr (hs _ _ h)
 |sl h hn hc=>exact .sl (hs _ _ h) hn hc
 |row h hn hc hsh=>
  obtain⟨ty,hty⟩:=hsh;refine .row (hs _ _ h) hn hc ⟨ty,?_⟩;rw[he.shp _ ?_];exact hty;unfold rV at hty;rcases b_ _ w.heap.size with hlt|hge
  .exact hlt
  .rw[Array.getElem?_eq_none hge] at hty;cases hty
 |emp=>exact .emp
 |anyb=>exact .anyb
 |mp h=>exact .mp (hs _ _ h)
 |agg hl hcl hr I=>exact .agg hl hcl I
 |tup hl hr I=>exact .tup hl I
 |clo hl hr I=>exact .clo hl I
inductive BC where
 |fz (l:List FV)
 |mx (l:List AV)
 |mp (es:List (Value×AV))
 |it (s:ByteArray) (pos:Nat)
def BC.get:BC->Nat->Option AV
 |.fz l,j=>l[j]?.map AV.f
 |.mx l,j=>l[j]?
 |_,_=>ah
def BC.len:BC->Nat
 |.fz l=>l.length
 |.mx l=>l.length
 |_=>0
def BC.isCells:BC->Bool
 |.fz _=>ai
 |.mx _=>ai
 |_=>aj
structure xl where
 ty:TypeId
 c:BC
abbrev HF:=Nat->Option xl
def own (φ:PM) (h:HF) (k:Nat):Prop:=∃ id b,h id=af b/\φ id=af k
def tot (E:Nat->Prop) (φ:PM) (h:HF) (k:Nat):Prop:=E k\/own φ h k
def vJ (φ:PM) (O:Nat->Prop) (w:World) (c:BC) (arr:Array Value):Prop:=
 c.len<=arr.size/\∀ j x,c.get j=af x->x.isCell=ai/\∃ v,arr[j]? =af v/\cO φ O w x v
def jv (φ:PM) (O:Nat->Prop) (w:World) (b:xl) (o:Obj):Prop:=
 match b.c with
 |.mp es=>∃ ents clock,o= .map ents clock/\ents.toList.map (·.key)=es.map (·.1)/\∀ (j:Nat) x,es[j]? =af x->∃ m,ents[j]? =af m/\cO φ O w x.2 m.val
 |.it s p=>o= .stringIter s p
 |c=>∃ arr,o= .cells arr b.ty (0,0)/\vJ φ O w c arr
def X' (φ:PM) (O:Nat->Prop) (w:World) (k:Nat) (b:xl):Prop:=∃ o,w.heap[k]? =af o/\jv φ O w b o
theorem X'.cells {φ:PM} {O:Nat->Prop} {w:World} {k:Nat} {b:xl} (h:X' φ O w k b) (hc:b.c.isCells=ai):
 ∃ arr,w.heap[k]? =af (.cells arr b.ty (0,0))/\vJ φ O w b.c arr:=by
 obtain⟨o,h1,h2⟩:=h;unfold jv at h2;cases hb:b.c with
 |fz l=>rw[hb] at h2;obtain⟨arr,rfl,I⟩:=h2;exact⟨arr,h1,I⟩
 |mx l=>rw[hb] at h2;obtain⟨arr,rfl,I⟩:=h2;exact⟨arr,h1,I⟩
 |mp _=>rw[hb] at hc;cases hc
 |it _ _=>rw[hb] at hc;cases hc
theorem jv.mono {φ φ':PM} {O O':Nat->Prop} {w w':World} (hk:∀ x v,cO φ O w x v->cO φ' O' w' x v) {b:xl} {o:Obj} (h:jv φ O w b o):jv φ' O' w' b o:=by
 unfold jv at h ⊢;cases hb:b.c with
 |fz l=>rw[hb] at h;obtain⟨arr,h1,h2,J⟩:=h;exact⟨arr,h1,h2,λj x I=>by obtain⟨a,v,c,d⟩:=J j x I;exact⟨a,v,c,hk _ _ d⟩⟩
 |mx l=>rw[hb] at h;obtain⟨arr,h1,h2,J⟩:=h;exact⟨arr,h1,h2,λj x I=>by obtain⟨a,v,c,d⟩:=J j x I;exact⟨a,v,c,hk _ _ d⟩⟩
 |mp es=>rw[hb] at h;obtain⟨e,c,h1,h2,J⟩:=h;exact⟨e,c,h1,h2,λj x I=>by obtain⟨m,a,b⟩:=J j x I;exact⟨m,a,hk _ _ b⟩⟩
 |it s p=>rw[hb] at h;exact h
theorem vJ.mono {φ φ':PM} {O O':Nat->Prop} {w w':World} (hk:∀ x v,cO φ O w x v->cO φ' O' w' x v) {c:BC} {arr:Array Value} (h:vJ φ O w c arr):vJ φ' O' w' c arr:=
 ⟨h.1,λj x I=>by obtain⟨a,v,c,d⟩:=h.2 j x I;exact⟨a,v,c,hk _ _ d⟩⟩
def uV (l:List UInt8):FV:=.raw (.string ⟨l.toArray⟩)
def C8:List FV:=[uV [118,97,114],uV [118,111,108,97,116,105,108,101],uV [109,117,116,101,120],uV [114,119,108,111,99,107],uV [99,111,110,100],uV [102,117,116,117,114,101],uV [116,104,114,101,97,100],uV [105,102],uV [101,108,115,101],uV [119,104,105,108,101],uV [108,111,99,107],uV [114,101,97,100],uV [119,114,105,116,101],uV [116,114,97,110,115,97,99,116,105,111,110],uV [97,116,111,109,105,99],uV [119,97,105,116],uV [110,111,116,105,102,121],uV [110,111,116,105,102,121,97,108,108],uV [115,112,97,119,110],uV [106,111,105,110],uV [115,101,116],uV [103,101,116]]
def G (g:Nat):Option (List FV):=if g==0 then af C8 else ah
structure ri (φ:PM) (E:Nat->Prop) (h:HF) (w:World):Prop where
 inj:∀ i j b b' k,h i=af b->h j=af b'->φ i=af k->φ j=af k->i=j
 at_:∀ i b,h i=af b->∃ k,φ i=af k/\¬E k/\X' φ (tot E φ h) w k b
 el:∀ k,E k->k<w.heap.size
 gl:∀ g cells,G g=af cells->nA (tot E φ h) w (.ptr cells 0) (.pointer (af ⟨g,0,ah⟩))
structure ja (φ φ':PM) (h h':HF) (w w':World):Prop where
 sub:∀ i k,φ i=af k->φ' i=af k
 ext:Lh (own φ h) w w'
 own_:∀ k,k<w.heap.size->own φ' h' k->own φ h k
theorem ja.refl (φ:PM) (h:HF) (w:World):ja φ φ h h w w:=⟨λ_ _ h=>h,Lh.refl _ _,λ_ _ h=>h⟩
theorem ja.trans {φ φ' φ'':PM} {h h' h'':HF} {w w' w'':World} (m:ja φ φ' h h' w w') (n:ja φ' φ'' h' h'' w' w''):ja φ φ'' h h'' w w'' where
 sub:=λi k e=>n.sub i k (m.sub i k e)
 ext:=⟨n.ext.os.trans m.ext.os,n.ext.tape.trans m.ext.tape,n.ext.output.trans m.ext.output,di m.ext.size n.ext.size,
  λk hk I=>(n.ext.blk k (dD hk m.ext.size) (λh=>I (m.own_ k hk h))).trans (m.ext.blk k hk I),
  λk hk=>(n.ext.shp k (dD hk m.ext.size)).trans (m.ext.shp k hk)⟩
 own_:=λk hk h=>m.own_ k hk (n.own_ k (dD hk m.ext.size) h)
theorem Lh.mono {O O':Nat->Prop} {w w':World} (h:Lh O w w') (I:∀ k,O k->O' k):Lh O' w w':=
 ⟨h.os,h.tape,h.output,h.size,λk hk hO=>h.blk k hk (λx=>hO (I k x)),h.shp⟩
theorem ja.keep {φ φ':PM} {h h':HF} {w w':World} (m:ja φ φ' h h' w w') {E:Nat->Prop} {x:AV} {v:Value} (r:cO φ (tot E φ h) w x v):cO φ' (tot E φ' h') w' x v:=
 r.ext m.sub (m.ext.mono λ_ h=>.inr h) λk hk I=>I.elim .inl λo=>.inr (m.own_ k hk o)
theorem ja.keepF {φ φ':PM} {h h':HF} {w w':World} (m:ja φ φ' h h' w w') {E:Nat->Prop} {x:FV} {v:Value} (r:nA (tot E φ h) w x v):nA (tot E φ' h') w' x v:=
 r.ext (m.ext.mono λ_ h=>.inr h) λk hk I=>I.elim .inl λo=>.inr (m.own_ k hk o)
abbrev EF:=Nat->Option AV
def NU (φ:PM) (O:Nat->Prop) (w:World) (e:EF) (a:Act):Prop:=∀ t x,e t=af x->cO φ O w x (a.tmps.getD t undef)
def CV (e:EF) (dst:Option Nat) (x:AV):EF:=λt=>if dst=af t then af x else e t
def eT (h:HF) (wr:List Nat) (nw:HF):HF:=λi=>if i∈wr then nw i else h i
structure BI where
 val:AV
 rd:List Nat
 wr:List Nat
 nw:HF
 N:List Nat
def gQ (P:Program) (o:Oper) (e:EF) (h:HF) (f:BI):Prop:=
 ∀ (φ:PM) (E:Nat->Prop) (h':HF) (w:World) (a:Act),(∀ i∈f.rd,h' i=h i)->(∀ i∈f.wr,h' i=h i)->
  (∀ t,.tmp t∈o.op.operands->∀ y,e t=af y->cO φ (tot E φ h') w y (a.tmps.getD t undef))->ri φ E h' w->(∀ n∈f.N,φ n=ah)->
  o.wp P a w (λa' w'=>∃ v φ',a'=a.put o.dst v/\ja φ φ' h' (eT h' f.wr f.nw) w w'/\(∀ i k,φ' i=af k->φ i=af k\/i∈f.N)/\
   ri φ' E (eT h' f.wr f.nw) w'/\cO φ' (tot E φ' (eT h' f.wr f.nw)) w' f.val v) (λ_ _ _=>False)
def rY:BI:=⟨.f (.raw undef),[],[],λ_=>ah,[]⟩
inductive K4 (P:Program) (ops:Array Oper) (o:Oper) (f:BI) (e:EF) (h:HF):Prop
 |run (hg:o.guard=ah) (ht:gQ P o e h f)
 |runG (j t:Nat) (want:Bool) (hg:o.guard=af (j,want)) (hj:(ops[j]?).bind (·.dst)=af t) (he:e t=af (.f (.raw (.bool want)))) (ht:gQ P o e h f)
 |skip (j t:Nat) (want:Bool) (hg:o.guard=af (j,want)) (hj:(ops[j]?).bind (·.dst)=af t) (v:Value) (he:e t=af (.f (.raw v))) (hv:v≠ .bool want) (hf:f=rY)
inductive Ae (P:Program) (ops:Array Oper):List (Oper×BI)->EF->HF->EF->HF->Prop
 |nil (e:EF) (h:HF):Ae P ops [] e h e h
 |cons {o:Oper} {f:BI} {r:List (Oper×BI)} {e e':EF} {h h':HF} (hs:K4 P ops o f e h)
   (hr:Ae P ops r (CV e o.dst f.val) (eT h f.wr f.nw) e' h'):Ae P ops ((o,f)::r) e h e' h'
def Lq (S:Nat->Bool):Nat->List (Oper×BI)->EF->EF
 |_,[],e=>e
 |k,(o,f)::r,e=>Lq S (k+1) r (if S k then CV e o.dst f.val else e)
def Cw (S:Nat->Bool):Nat->List (Oper×BI)->HF->HF
 |_,[],h=>h
 |k,(_,f)::r,h=>Cw S (k+1) r (if S k then eT h f.wr f.nw else h)
theorem Ev {S S':Nat->Bool} {t:Nat}:∀ (l:List (Oper×BI)) (k:Nat) (e e':EF),e t=e' t->
 (∀ (j:Nat) o f,l[j]? =af (o,f)->o.dst=af t->S (k+j)=S' (k+j))->Lq S k l e t=Lq S' k l e' t
 |[],_,_,_,he,_=>he
 |(o,f)::r,k,e,e',he,I=>by
  simp only[Lq];refine Ev r (k+1) _ _ ?_ (λj o f hj hd=>by have:=I (j+1) o f (by simpa using hj) hd;rwa [show k+(j+1)=k+1+j from by omega] at this);by_cases hd:o.dst=af t
  .rw[show S k=S' k from by simpa using I 0 o f rfl hd];split
   .simp[CV,hd]
   .exact he
  .split<;>split<;>simp[CV,hd,he]
theorem Eu {S S':Nat->Bool} {t:Nat}:∀ (l:List (Oper×BI)) (k:Nat) (e e':HF),e t=e' t->
 (∀ (j:Nat) o f,l[j]? =af (o,f)->t∈f.wr->S (k+j)=S' (k+j))->Cw S k l e t=Cw S' k l e' t
 |[],_,_,_,he,_=>he
 |(o,f)::r,k,e,e',he,I=>by
  simp only[Cw];refine Eu r (k+1) _ _ ?_ (λj o f hj hd=>by have:=I (j+1) o f (by simpa using hj) hd;rwa [show k+(j+1)=k+1+j from by omega] at this);by_cases hd:t∈f.wr
  .rw[show S k=S' k from by simpa using I 0 o f rfl hd];split
   .simp[eT,hd]
   .exact he
  .split<;>split<;>simp[eT,hd,he]
theorem CJ {S:Nat->Bool} {t:Nat}:∀ (l:List (Oper×BI)) (k:Nat) (e:EF),(∀ (j:Nat) o f,l[j]? =af (o,f)->o.dst=af t->S (k+j)=aj)->Lq S k l e t=e t
 |[],_,_,_=>rfl
 |(o,f)::r,k,e,I=>by
  simp only[Lq];rw[CJ r (k+1) _ (λj o f hj hd=>by have:=I (j+1) o f (by simpa using hj) hd;rwa [show k+(j+1)=k+1+j from by omega] at this)];split
  .rename_i h;unfold CV;rw[ay];intro hd;have:=I 0 o f rfl hd;simp_all
  .rfl
theorem CI {S:Nat->Bool} {t:Nat}:∀ (l:List (Oper×BI)) (k:Nat) (e:HF),(∀ (j:Nat) o f,l[j]? =af (o,f)->t∈f.wr->S (k+j)=aj)->Cw S k l e t=e t
 |[],_,_,_=>rfl
 |(o,f)::r,k,e,I=>by
  simp only[Cw];rw[CI r (k+1) _ (λj o f hj hd=>by have:=I (j+1) o f (by simpa using hj) hd;rwa [show k+(j+1)=k+1+j from by omega] at this)];split
  .rename_i h;unfold eT;rw[ay];intro hd;have:=I 0 o f rfl hd;simp_all
  .rfl
theorem Qp {S:Nat->Bool} {t:Nat}:∀ (l:List (Oper×BI)) (k i:Nat) (e:EF) (o:Oper) (f:BI),l[i]? =af (o,f)->o.dst=af t->S (k+i)=ai->
 (∀ (j:Nat) o' f',i<j->l[j]? =af (o',f')->o'.dst=af t->S (k+j)=aj)->Lq S k l e t=af f.val
 |[],_,_,_,_,_,h,_,_,_=>by simp at h
 |(o',f')::r,k,0,e,o,f,h,hd,I,hl=>by
  simp only[qX,ak,aD] at h;obtain⟨rfl,rfl⟩:=h;simp only[Lq];rw[CJ r (k+1) _ (λj o f hj hd=>by have:=hl (j+1) o f (by omega) (by simpa using hj) hd;rwa [show k+(j+1)=k+1+j from by omega] at this)];simp at I;simp[I,CV,hd]
 |(o',f')::r,k,i+1,e,o,f,h,hd,I,hl=>by
  simp only[Lq];exact Qp r (k+1) i _ o f (by simpa using h) hd (by rwa [show k+1+i=k+(i+1) from by omega])
   (λj o f hij hj hd=>by have:=hl (j+1) o f (by omega) (by simpa using hj) hd;rwa [show k+(j+1)=k+1+j from by omega] at this)
theorem Qo {S:Nat->Bool} {t:Nat}:∀ (l:List (Oper×BI)) (k i:Nat) (e:HF) (o:Oper) (f:BI),l[i]? =af (o,f)->t∈f.wr->S (k+i)=ai->
 (∀ (j:Nat) o' f',i<j->l[j]? =af (o',f')->t∈f'.wr->S (k+j)=aj)->Cw S k l e t=f.nw t
 |[],_,_,_,_,_,h,_,_,_=>by simp at h
 |(o',f')::r,k,0,e,o,f,h,hd,I,hl=>by
  simp only[qX,ak,aD] at h;obtain⟨rfl,rfl⟩:=h;simp only[Cw];rw[CI r (k+1) _ (λj o f hj hd=>by have:=hl (j+1) o f (by omega) (by simpa using hj) hd;rwa [show k+(j+1)=k+1+j from by omega] at this)];simp at I;simp[I,eT,hd]
 |(o',f')::r,k,i+1,e,o,f,h,hd,I,hl=>by
  simp only[Cw];exact Qo r (k+1) i _ o f (by simpa using h) hd (by rwa [show k+1+i=k+(i+1) from by omega])
   (λj o f hij hj hd=>by have:=hl (j+1) o f (by omega) (by simpa using hj) hd;rwa [show k+(j+1)=k+1+j from by omega] at this)
theorem Ae.step {P:Program} {ops:Array Oper}:∀ {l:List (Oper×BI)} {e e':EF} {h h':HF} (_:Ae P ops l e h e' h') (k i:Nat) (o:Oper) (f:BI),l[i]? =af (o,f)->
 K4 P ops o f (Lq (λj=>decide (j<k+i)) k l e) (Cw (λj=>decide (j<k+i)) k l h):=by
 intro l e e' h h' hc;induction hc with
 |nil=>intro k i o f hi;simp at hi
 |@cons o1 I r e e' h h' hs hr J=>
  intro k i o f hi;cases i with
  |zero=>
   simp only[qX,ak,aD] at hi;obtain⟨rfl,rfl⟩:=hi;have e1:Lq (λj=>decide (j<k+0)) k ((o1,I)::r) e=e:=by
    funext t;rw[CJ];intro j o f _ _;simp
   have e2:Cw (λj=>decide (j<k+0)) k ((o1,I)::r) h=h:=by
    funext t;rw[CI];intro j o f _ _;simp
   rw[e1,e2];exact hs
  |succ i=>
   have:=J (k+1) i o f (by simpa using hi);simp only[Lq,Cw];rw[show k+(i+1)=k+1+i from by omega];simpa[show k<k+1+i from by omega] using this
theorem Ae.final {P:Program} {ops:Array Oper}:∀ {l:List (Oper×BI)} {e e':EF} {h h':HF} (_:Ae P ops l e h e' h') (k:Nat) (S:Nat->Bool),(∀ j,j<l.length->S (k+j)=ai)->
 Lq S k l e=e'/\Cw S k l h=h':=by
 intro l e e' h h' hc;induction hc with
 |nil=>intro k S _;exact⟨rfl,rfl⟩
 |@cons o1 M r e e' h h' hs hr J=>
  intro k S I;have h0:S k=ai:=by simpa using I 0 (by simp)
  simp only[Lq,Cw,h0,bG];exact J (k+1) S (λj hj=>by have:=I (j+1) (by simpa using hj);rwa [show k+(j+1)=k+1+j from by omega] at this)
theorem Qh {P:Program} {o:Oper} {a:Act} {w:World} {K K':Act->World->Prop} {Q:Exit->Act->World->Prop} (h:∀ a w,K a w->K' a w)
 (hh:o.wp P a w K (λ_ _ _=>False)):o.wp P a w K' Q:=by
 unfold HM at*
 generalize (execOp a.eval o).run P w=r at*
 cases r with
 |ok n w'=>
  cases n<;>simp only[Oper.upon] at hh ⊢<;>
   first
    |exact h _ _ hh
    |exact Calls.mono hh (λe w'' he=>by
      cases e with
      |returned v=>exact h _ _ he
      |panicked c=>exact he.elim
      |outgrown=>obtain⟨_,_,h⟩:=he;exact h.elim)
    |exact Rows.mono hh (λ_ _ he=>h _ _ he)
 |halt x w'=>cases x<;>simp only[Oper.upon] at hh ⊢<;>first|exact hh.elim|exact hh
inductive Bef (ops:Array Oper):Nat->Nat->Prop
 |one {j:Nat} {o:Oper} {e:Edge} (h:ops[j]? =af o) (he:e∈o.after) (hb:Ag .any e=ai):Bef ops j e.on
 |more {j i:Nat} {o:Oper} {e:Edge} (h:ops[j]? =af o) (he:e∈o.after) (hb:Ag .any e=ai) (hi:Bef ops e.on i):Bef ops j i
structure NIP (ops:Array Oper) (l:List (Oper×BI)):Prop where
 edge:∀ (j:Nat) o,ops[j]? =af o->∀ e∈o.after,Ag .any e=ai->e.on<j
 pair:∀ (i j:Nat) oi fi oj fj,i<j->l[i]? =af (oi,fi)->l[j]? =af (oj,fj)->Bef ops j i\/
  (oi.apart ops oj=ai/\(∀ x∈fi.wr,x∉fj.rd/\x∉fj.wr)/\(∀ x∈fj.wr,x∉fi.rd))
 names:∀ (i j:Nat) oi fi oj fj,i<j->l[i]? =af (oi,fi)->l[j]? =af (oj,fj)->∀ n∈fi.N,n∉fj.N
def FH (ops:Array Oper) (listed:Array Bool):Prop:=∀ (j:Nat) o,ops[j]? =af o->listed.getD j aj=ai->∀ e∈o.after,Ag .any e=ai->listed.getD e.on aj=ai
theorem FH.bef {ops:Array Oper} {listed:Array Bool} (hc:FH ops listed) {j i:Nat} (h:Bef ops j i):listed.getD j aj=ai->listed.getD i aj=ai:=by
 induction h with
 |one h he hb=>intro hj;exact hc _ _ h hj _ he hb
 |more h he hb hi I=>intro hj;exact I (hc _ _ h hj _ he hb)
theorem Yi {ops:Array Oper} {listed:Array Bool} (hc:FH ops listed) {j i:Nat} {o:Oper} (I:ops[j]? =af o) (hr:∀ e∈o.after,Ag .any e=ai->listed.getD e.on aj=ai) (h:Bef ops j i):listed.getD i aj=ai:=by
 cases h with
 |one h he hb=>rw[h] at I;cases I;exact hr _ he hb
 |more h he hb hi=>rw[h] at I;cases I;exact hc.bef hi (hr _ he hb)
theorem sX {listed:Array Bool} {j:Nat} (h:listed.getD j ai=aj):listed.getD j aj=aj/\j<listed.size:=by
 rcases b_ j listed.size with h1|h1
 .simp[h1] at h ⊢;exact h
 .simp[Array.getElem?_eq_none h1] at h
def StP (φ0:PM) (E:Nat->Prop) (e0:EF) (h0:HF) (w0:World) (a0:Act) (l:List (Oper×BI)) (S:Nat->Bool) (a:Act) (w:World):Prop:=
 ∃ φ,ja φ0 φ h0 (Cw S 0 l h0) w0 w/\(∀ i k,φ i=af k->φ0 i=af k\/∃ (j:Nat) (o:Oper) (f:BI),S j=ai/\l[j]? =af (o,f)/\i∈f.N)/\
  ri φ E (Cw S 0 l h0) w/\NU φ (tot E φ (Cw S 0 l h0)) w (Lq S 0 l e0) a/\a.defers=a0.defers/\a.tmps.size=a0.tmps.size
theorem Ix {a:Act} {dst:Option Tmp} {v:Value} {t:Nat} (hd:∀ d,dst=af d->d<a.tmps.size):(a.put dst v).tmps.getD t undef=if dst=af t then v else a.tmps.getD t undef:=by
 cases dst with
 |none=>simp[N6]
 |some d=>
  by_cases h:d=t
  .subst h;simp[N6,hd d rfl]
  .simp[N6,h,pW h]
theorem QK {a:Act} {dst:Option Tmp} {v:Value}:(a.put dst v).tmps.size=a.tmps.size:=by cases dst<;>simp[N6]
theorem Iy {a:Act} {dst:Option Tmp} {v:Value}:(a.put dst v).defers=a.defers:=by cases dst<;>rfl
theorem ab5 {P:Program} {ops:Array Oper} {l:List (Oper×BI)} {e0 e':EF} {h0 h':HF} {φ0:PM} {E:Nat->Prop} {w0:World} {a0:Act}
 (hl:l.map (·.1)=ops.toList) (hc:Ae P ops l e0 h0 e' h') (ni:NIP ops l) (hfr:∀ (j:Nat) o f,l[j]? =af (o,f)->∀ n∈f.N,φ0 n=ah)
 (hsz:∀ (j:Nat) o,ops[j]? =af o->∀ d,o.dst=af d->d<a0.tmps.size) {listed:Array Bool} (hcl:FH ops listed) {i:Nat} (hi:i∈HL .any ops listed) {Q:Exit->Act->World->Prop} {K:Act->World->Prop}
 (hK:∀ a w,StP φ0 E e0 h0 w0 a0 l (λj=>(listed.setIfInBounds i ai).getD j aj) a w->K a w) {a:Act} {w:World} (hst:StP φ0 E e0 h0 w0 a0 l (λj=>listed.getD j aj) a w):
 wpOp P ops Q i K a w:=by
 obtain⟨hun,o,ho,hdeps⟩:=mem_ready.1 hi;obtain⟨hnf,hlt⟩:=sX hun;have hln:∀ (j:Nat) o',ops[j]? =af o'->∃ f,l[j]? =af (o',f):=λj o' h=>by
  have h1:(l.map (·.1))[j]? =af o':=by rw[hl];simpa using h
  rw[ba] at h1;cases hj:l[j]? with
  |none=>rw[hj] at h1;cases h1
  |some p=>rw[hj] at h1;obtain⟨a,b⟩:=p;simp at h1;subst h1;exact⟨b,rfl⟩
 have hnl:∀ (j:Nat) o' f,l[j]? =af (o',f)->ops[j]? =af o':=λj o' f h=>by
  have h1:(l.map (·.1))[j]? =af o':=by rw[ba,h];rfl
  rw[hl] at h1;simpa using h1
 obtain⟨f,hf⟩:=hln i o ho;have hord:∀ (j:Nat) oj fj,j≠i->l[j]? =af (oj,fj)->(listed.getD j aj=decide (j<i))\/
  (o.apart ops oj=ai\/oj.apart ops o=ai)/\(∀ x∈f.wr,x∉fj.rd/\x∉fj.wr)/\(∀ x∈fj.wr,x∉f.rd/\x∉f.wr):=by
  intro j oj fj hji hj;rcases b_ j i with h|h
  .rcases ni.pair j i oj fj o f h hj hf with hb|⟨h1,h2,h3⟩
   .left;rw[Yi hcl ho hdeps hb];simp[h]
   .right;exact⟨.inr h1,λx I=>⟨h3 x I,λU=>(h2 x U).2 I⟩,λx I=>h2 x I⟩
  .have h:i<j:=by omega
   rcases ni.pair i j o f oj fj h hf hj with hb|⟨h1,h2,h3⟩
   .left;have:listed.getD j aj=aj:=by
     cases I:listed.getD j aj with
     |false=>rfl
     |true=>have:=hcl.bef hb I;rw[hnf] at this;cases this
    rw[this];simp;omega
   .right;exact⟨.inl h1,λx I=>h2 x I,λx I=>⟨h3 x I,λU=>(h2 x U).2 I⟩⟩
 have J:∀ j,(listed.setIfInBounds i ai).getD j aj=if j=i then ai else listed.getD j aj:=λj=>by
  by_cases h:i=j
  .subst h;simp[hlt]
  .rw[getD_set_ne aj h,ay (λe=>h e.symm)]
 have hlater:∀ (j:Nat) oj fj,i<j->l[j]? =af (oj,fj)->(listed.getD j aj=aj)\/((o.apart ops oj=ai\/oj.apart ops o=ai)/\(∀ x∈f.wr,x∉fj.rd/\x∉fj.wr)):=by
  intro j oj fj hij hj;rcases hord j oj fj (by omega) hj with h|⟨h1,h2,_⟩
  .left;rw[h];simp;omega
  .right;exact⟨h1,h2⟩
 have hdd:∀ {x y:Oper},(x.apart ops y=ai\/y.apart ops x=ai)->∀ d,x.dst=af d->y.dst≠af d:=by
  intro x y h d hd he;rcases h with h|h
  .exact (Oper.apart_spec h).2.1 d hd he
  .exact (Oper.apart_spec h).2.1 d he hd
 have hlook:∀ {x y:Oper},(x.apart ops y=ai\/y.apart ops x=ai)->∀ d,y.dst=af d->d∉x.looksAt ops:=by
  intro x y h d hd;rcases h with h|h
  .exact (Oper.apart_spec h).2.2 d hd
  .exact (Oper.apart_spec h).1 d hd
 have heL:∀ t,t∈o.looksAt ops->Lq (λj=>listed.getD j aj) 0 l e0 t=Lq (λj=>decide (j<0+i)) 0 l e0 t:=λt ht=>by
  refine Ev l 0 e0 e0 rfl λj oj fj hj hd=>?_
  simp only[bN];by_cases hji:j=i
  .subst hji;rw[hnf];simp
  .rcases hord j oj fj hji hj with h|⟨h,_⟩
   .exact h
   .exact cR ht (hlook h t hd)
 have hhL:∀ t,t∈f.rd\/t∈f.wr->Cw (λj=>listed.getD j aj) 0 l h0 t=Cw (λj=>decide (j<0+i)) 0 l h0 t:=λt ht=>by
  refine Eu l 0 h0 h0 rfl λj oj fj hj hd=>?_
  simp only[bN];by_cases hji:j=i
  .subst hji;rw[hnf];simp
  .rcases hord j oj fj hji hj with h|⟨_,_,h⟩
   .exact h
   .rcases ht with ht|ht
    .exact cR ht (h t hd).1
    .exact cR ht (h t hd).2
 have hE':∀ t,Lq (λj=>(listed.setIfInBounds i ai).getD j aj) 0 l e0 t=if o.dst=af t then af f.val else Lq (λj=>listed.getD j aj) 0 l e0 t:=λt=>by
  by_cases hd:o.dst=af t
  .rw[aE hd];refine Qp l 0 i e0 o f hf hd (by simp[J]) λj o' f' hij hj M=>?_
   simp only[bN,J,ay (show ¬j=i by omega)];rcases hlater j o' f' hij hj with h|⟨h,_⟩
   .exact h
   .exact cR M (hdd h t hd)
  .rw[ay hd];refine Ev l 0 e0 e0 rfl λj oj fj hj M=>?_
   simp only[bN,J];rw[ay];intro hji;subst hji;rw[hf] at hj;cases hj;exact hd M
 have Y:Cw (λj=>(listed.setIfInBounds i ai).getD j aj) 0 l h0=eT (Cw (λj=>listed.getD j aj) 0 l h0) f.wr f.nw:=by
  funext t;unfold eT;by_cases hd:t∈f.wr
  .rw[aE hd];refine Qo l 0 i h0 o f hf hd (by simp[J]) λj o' f' hij hj M=>?_
   simp only[bN,J,ay (show ¬j=i by omega)];rcases hlater j o' f' hij hj with h|⟨_,h⟩
   .exact h
   .exact cR M (h t hd).2
  .rw[ay hd];refine Eu l 0 h0 h0 rfl λj oj fj hj M=>?_
   simp only[bN,J];rw[ay];intro hji;subst hji;rw[hf] at hj;cases hj;exact hd M
 obtain⟨φ,hm,hdom,hrep,henv,hdef,hsize⟩:=hst;have hfrN:∀ n∈f.N,φ n=ah:=λn hn=>by
  cases I:φ n with
  |none=>rfl
  |some k=>
   rcases hdom n k I with h|⟨j,oj,fj,hSj,hj,hnj⟩
   .rw[hfr i o f hf n hn] at h;cases h
   .have hji:j≠i:=by intro h;subst h;exact cR hSj (by simp only[hnf];simp)
    rcases b_ j i with h|h
    .exact cR hn (ni.names j i oj fj o f h hj hf n hnj)
    .exact cR hnj (ni.names i j o f oj fj (by omega) hf hj n hn)
 have hdsz:∀ d,o.dst=af d->d<a.tmps.size:=λd hd=>by rw[hsize];exact hsz i o ho d hd
 have main:∀ (v:Value) (φ':PM) (w':World),ja φ φ' (Cw (λj=>listed.getD j aj) 0 l h0) (eT (Cw (λj=>listed.getD j aj) 0 l h0) f.wr f.nw) w w'->
  (∀ i k,φ' i=af k->φ i=af k\/i∈f.N)->ri φ' E (eT (Cw (λj=>listed.getD j aj) 0 l h0) f.wr f.nw) w'->
  cO φ' (tot E φ' (eT (Cw (λj=>listed.getD j aj) 0 l h0) f.wr f.nw)) w' f.val v->K (a.put o.dst v) w':=by
  intro v φ' w' m1 d1 r1 v1;refine hK _ _ ⟨φ',?_,?_,?_,?_,?_,?_⟩
  .rw[Y];exact hm.trans m1
  .intro i' k h;rcases d1 i' k h with h|h
   .rcases hdom i' k h with h|⟨j,oj,fj,hSj,hj,hnj⟩
    .exact .inl h
    .refine .inr ⟨j,oj,fj,?_,hj,hnj⟩;show (listed.setIfInBounds i ai).getD j aj=ai;rw[J j];split
     .rfl
     .exact hSj
   .exact .inr ⟨i,o,f,(J i).trans (by simp),hf,h⟩
  .rw[Y];exact r1
  .rw[Y];intro t x I;rw[hE' t] at I;rw[Ix hdsz];by_cases hd:o.dst=af t
   .rw[aE hd] at I ⊢;cases I;exact v1
   .rw[ay hd] at I ⊢;exact m1.keep (henv t x I)
  .rw[Iy];exact hdef
  .rw[QK];exact hsize
 have hstep:=hc.step 0 i o f hf;have hrun:gQ P o (Lq (λj=>decide (j<0+i)) 0 l e0) (Cw (λj=>decide (j<0+i)) 0 l h0) f->o.wp P a w K Q:=by
  intro ht;refine Qh ?_ (ht φ E (Cw (λj=>listed.getD j aj) 0 l h0) w a (λt h=>hhL t (.inl h)) (λt h=>hhL t (.inr h)) ?_ hrep hfrN)
  .rintro a' w' ⟨v,φ',rfl,m1,d1,r1,v1⟩;exact main v φ' w' m1 d1 r1 v1
  .intro t ht' y hy;refine henv t y ?_;rw[heL t (ll _ (List.mem_filterMap.2 ⟨.tmp t,by simpa using ht',rfl⟩))];exact hy
 have hyield:∀ (j t:Nat) (want b:Bool),o.guard=af (j,want)->(ops[j]?).bind (·.dst)=af t->Lq (λj=>decide (j<0+i)) 0 l e0 t=af (.f (.raw (.bool b)))->iM o (yielded ops a.tmps)=(b==want):=by
  intro j t want b hg hj he;rw[<- heL t (nG _ (by rw[hg];simp[hj]))] at he;have h1:=henv t _ he;have h2:a.tmps.getD t undef= .bool b:=by
   generalize Z:a.tmps.getD t undef=z at h1;cases h1 with
   |f h=>cases h;rfl
  have h3:a.tmps[t]? =af (.bool b):=by
   rw[gJ] at h2;cases Z:a.tmps[t]? with
   |none=>rw[Z] at h2;simp[undef] at h2
   |some z=>rw[Z] at h2;simp at h2;rw[h2]
  unfold iM yielded;rw[hg];simp[hj,h3]
 unfold wpOp;simp only[ho];cases hstep with
 |run hg ht=>
  rw[aE (by unfold iM;rw[hg])];exact .inl (hrun ht)
 |runG j t want hg hj he ht=>
  rw[aE (by rw[hyield j t want want hg hj he];simp)];exact .inl (hrun ht)
 |skip j t want hg hj v he hv hf'=>
  have hnw:iM o (yielded ops a.tmps)=aj:=by
   rw[<- heL t (nG _ (by rw[hg];simp[hj]))] at he;have h1:=henv t _ he;have h2:a.tmps.getD t undef=v:=by
    generalize a.tmps.getD t undef=z at h1;cases h1 with
    |f h=>cases h;rfl
   unfold iM yielded;rw[hg];simp only[hj,aI];rw[gJ] at h2;cases Z:a.tmps[t]? with
   |none=>simp
   |some z=>
    rw[Z] at h2;simp at h2;subst h2;cases z<;>simp at hv ⊢;exact hv
  rw[ay (by rw[hnw];simp)];subst hf';have hu:eT (Cw (λj=>listed.getD j aj) 0 l h0) rY.wr rY.nw=Cw (λj=>listed.getD j aj) 0 l h0:=by
   funext t;simp[eT,rY]
  refine main undef φ w ?_ (λ_ _ h=>.inl h) ?_ ?_
  .rw[hu];exact ja.refl _ _ _
  .rw[hu];exact hrep
  .exact .f (.raw _)
theorem Zd {l:List Bool}:∀ {i:Nat},l[i]? =af aj->(l.set i ai).countP id=l.countP id+1:=by
 induction l with
 |nil=>intro i h;simp at h
 |cons b l I=>
  intro i h;cases i with
  |zero=>simp at h;subst h;simp
  |succ i=>
   simp only[List.set_cons_succ,List.countP_cons];rw[I (by simpa using h)];omega
theorem PR {l:List Bool} (h:l.length<=l.countP id):∀ (j:Nat),j<l.length->l[j]? =af ai:=by
 have h1:l.countP id=l.length:=Nat.le_antisymm List.countP_le_length h;rw[List.countP_eq_length] at h1;intro j hj;rw[aB hj];simpa using h1 _ (vi hj)
theorem Wp {ops:Array Oper} {l:List (Oper×BI)} (J:NIP ops l) {listed:Array Bool} (hs:listed.size=ops.size) (hr:HL .any ops listed=[]):
 ∀ (n j:Nat),j<n->j<ops.size->listed.getD j aj=ai:=by
 intro n;induction n with
 |zero=>intro j h;omega
 |succ n M=>
  intro j hj hjs;cases I:listed.getD j aj with
  |true=>rfl
  |false=>
   exfalso;have hmem:j∈HL .any ops listed:=by
    refine mem_ready.2 ⟨?_,ops[j],il hjs,λe he hb=>?_⟩
    .have:j<listed.size:=by omega
     simp[this] at I ⊢;exact I
    .have h1:=J.edge j _ (il hjs) e he hb;exact M e.on (by omega) (by omega)
   rw[hr] at hmem;cases hmem
theorem NL {P:Program} {ops:Array Oper} {l:List (Oper×BI)} {e0 e':EF} {h0 h':HF} {φ0:PM} {E:Nat->Prop} {w0:World} {a0:Act}
 (hl:l.map (·.1)=ops.toList) (hc:Ae P ops l e0 h0 e' h') (J:NIP ops l) (hfr:∀ (j:Nat) o f,l[j]? =af (o,f)->∀ n∈f.N,φ0 n=ah)
 (hsz:∀ (j:Nat) o,ops[j]? =af o->∀ d,o.dst=af d->d<a0.tmps.size) {Q:Exit->Act->World->Prop}
 (U:∀ a w,StP φ0 E e0 h0 w0 a0 l (λ_=>ai) a w->Q .normal a w):
 ∀ (fuel:Nat) (listed:Array Bool) (a:Act) (w:World),listed.size=ops.size->FH ops listed->ops.size<=fuel+listed.toList.countP id->
  StP φ0 E e0 h0 w0 a0 l (λj=>listed.getD j aj) a w->wpAny P .any ops Q fuel listed a w:=by
 have hlen:l.length=ops.size:=by have:=gO al hl;simpa using this
 have fin:∀ (listed:Array Bool) (a:Act) (w:World),(∀ j,j<ops.size->listed.getD j aj=ai)->StP φ0 E e0 h0 w0 a0 l (λj=>listed.getD j aj) a w->Q .normal a w:=by
  intro listed a w hall hst;refine U a w ?_;have h1:=hc.final 0 (λj=>listed.getD j aj) (λj hj=>by simp only[bN];exact hall j (by omega));have h2:=hc.final 0 (λ_=>ai) (λ_ _=>rfl);unfold StP at hst ⊢;rw[h1.1,h1.2] at hst;rw[h2.1,h2.2];obtain⟨φ,m,d,r⟩:=hst;refine ⟨φ,m,λi k h=>?_,r⟩;rcases d i k h with h|⟨j,o,f,_,hj,hn⟩
  .exact .inl h
  .exact .inr ⟨j,o,f,rfl,hj,hn⟩
 intro fuel;induction fuel with
 |zero=>
  intro listed a w hs hcl hcnt hst;have hall:∀ j,j<ops.size->listed.getD j aj=ai:=λj hj=>by
   have:=PR (l:=listed.toList) (by simp only[iz];omega) j (by simp only[iz];omega);rw[cJ] at this;rw[gJ,this];rfl
  refine ⟨?_,fin listed a w hall hst⟩;cases hr:HL .any ops listed with
  |nil=>rfl
  |cons i r=>
   have hi:i∈HL .any ops listed:=by rw[hr];simp
   obtain⟨hun,o,I,_⟩:=mem_ready.1 hi;have hnf:=(sX hun).1;rw[hall i (cG.1 I).1] at hnf;cases hnf
 |succ fuel M=>
  intro listed a w hs hcl hcnt hst;refine ⟨λhr=>fin listed a w (λj hj=>Wp J hs hr (j+1) j (by omega) hj) hst,λi hi=>?_⟩;obtain⟨hun,o,I,hdeps⟩:=mem_ready.1 hi;obtain⟨hnf,hlt⟩:=sX hun;refine ab5 hl hc J hfr hsz hcl hi (λa' w' h=>M _ a' w' ?_ ?_ ?_ h) hst
  .simpa using hs
  .intro j oj hoj hj e he hb;by_cases hji:i=j
   .subst hji;rw[I] at hoj;cases hoj;exact getD_set_true (hdeps e he hb)
   .rw[getD_set_ne aj hji] at hj;exact getD_set_true (hcl j oj hoj hj e he hb)
  .have h1:listed.toList[i]? =af aj:=by
    rw[cJ,il hlt];simp[hlt] at hnf;rw[hnf]
   rw[Array.toList_setIfInBounds,Zd h1];omega
def ape (φ0:PM) (E:Nat->Prop) (e':EF) (h0 h':HF) (N:List Nat) (w0:World) (a0:Act) (a:Act) (w:World):Prop:=
 ∃ φ,ja φ0 φ h0 h' w0 w/\(∀ i k,φ i=af k->φ0 i=af k\/i∈N)/\ri φ E h' w/\NU φ (tot E φ h') w e' a/\a.defers=a0.defers/\a.tmps.size=a0.tmps.size
theorem ja.drew {φ:PM} {h:HF} (w:World):ja φ φ h h w {w with drawn:=w.drawn+1}:=
 ⟨λ_ _ h=>h,⟨rfl,rfl,rfl,bV _,λ_ _ _=>rfl,λ_ _=>rfl⟩,λ_ _ h=>h⟩
theorem ri.moved {φ:PM} {E:Nat->Prop} {h:HF} {w w':World} (r:ri φ E h w) (m:ja φ φ h h w w') (hk:∀ k,own φ h k->w'.heap[k]? =w.heap[k]?):ri φ E h w':=
 ⟨r.inj,λi b hb=>by
   obtain⟨k,h1,h2,o,J,I⟩:=r.at_ i b hb;exact⟨k,h1,h2,o,by rw[hk k ⟨i,b,hb,h1⟩];exact J,I.mono λ_ _ h=>m.keep h⟩,λk hk=>dD (r.el k hk) m.ext.size,
   λg cells hg=>m.keepF (r.gl g cells hg)⟩
theorem QH {P:Program} {ops:Array Oper} {l:List (Oper×BI)} {e0 e':EF} {h0 h':HF} {φ0:PM} {E:Nat->Prop} {w0:World} {a0:Act} {id:Nat} {draw:Bool}
 (hm:P.follows .mixedOrders=ai) (hl:l.map (·.1)=ops.toList) (hc:Ae P ops l e0 h0 e' h') (I:NIP ops l) (hfr:∀ n∈l.flatMap (λp=>p.2.N),φ0 n=ah)
 (hsz:∀ (j:Nat) o,ops[j]? =af o->∀ d,o.dst=af d->d<a0.tmps.size) (hrep:ri φ0 E h0 w0) (henv:NU φ0 (tot E φ0 h0) w0 e0 a0) {Q:Exit->Act->World->Prop}
 (Y:∀ a w,ape φ0 E e' h0 h' (l.flatMap (λp=>p.2.N)) w0 a0 a w->Q .normal a w):(Code.region id ops draw).wp P Q a0 w0:=by
 have hfr':∀ (j:Nat) o f,l[j]? =af (o,f)->∀ n∈f.N,φ0 n=ah:=λj o f hj n hn=>hfr n (vg.2 ⟨(o,f),bc hj,hn⟩)
 have fin:∀ a w,StP φ0 E e0 h0 w0 a0 l (λ_=>ai) a w->Q .normal a w:=by
  rintro a w ⟨φ,m,d,r,en,Z,sz⟩;have h2:=hc.final 0 (λ_=>ai) (λ_ _=>rfl);rw[h2.2] at m r en;rw[h2.1] at en;refine Y a w ⟨φ,m,λi k h=>?_,r,en,Z,sz⟩;rcases d i k h with h|⟨j,o,f,_,hj,hn⟩
  .exact .inl h
  .exact .inr (vg.2 ⟨(o,f),bc hj,hn⟩)
 have st0:∀ (w:World),ja φ0 φ0 h0 h0 w0 w->ri φ0 E h0 w->StP φ0 E e0 h0 w0 a0 l (λj=>(oC ops.size aj).getD j aj) a0 w:=by
  intro w m r;have e1:(λj=>(oC ops.size aj).getD j aj)=λ_=>aj:=by
   funext j;rw[gJ,Array.getElem?_replicate];split<;>rfl
  rw[e1];have e2:Lq (λ_=>aj) 0 l e0=e0:=by funext t;rw[CJ];intros;rfl
  have e3:Cw (λ_=>aj) 0 l h0=h0:=by funext t;rw[CI];intros;rfl
  refine ⟨φ0,by rw[e3];exact m,λ_ _ h=>.inl h,by rw[e3];exact r,?_,rfl,rfl⟩;rw[e2,e3];exact λt x U=>m.keep (henv t x U)
 have cl0:FH ops (oC ops.size aj):=by
  intro j o ho hj;rw[gJ,Array.getElem?_replicate] at hj;split at hj<;>simp at hj
 cases draw with
 |true=>
  refine wp_region_any hm ?_;exact NL hl hc I hfr' hsz fin ops.size _ a0 _ (by simp) cl0 (by omega) (st0 _ (ja.drew w0) (hrep.moved (ja.drew w0) λ_ _=>rfl))
 |false=>
  have hany:=NL (E:=E) (w0:=w0) hl hc I hfr' hsz fin ops.size _ a0 w0 (by simp) cl0 (by omega) (st0 _ (ja.refl _ _ _) hrep);refine wp_region ?_;have key:∀ (m k:Nat) (listed:Array Bool) (a:Act) (w:World),k+m=ops.size->listed.size=ops.size->(∀ j,j<k->listed.getD j aj=ai)->(∀ j,k<=j->j<ops.size->listed.getD j ai=aj)->
   wpAny P .any ops Q m listed a w->wpOps P ops Q (List.range' k m) a w:=by
   intro m;induction m with
   |zero=>intro k listed a w hk hs h1 h2 h;simpa[wpOps] using h.2
   |succ m M=>
    intro k listed a w hk hs h1 h2 h;rw[List.range'_succ,wpOps_cons];have hkr:k∈HL .any ops listed:=by
     refine mem_ready.2 ⟨h2 k (bV _) (by omega),ops[k]'(by omega),il (by omega),λe he hb=>?_⟩;exact h1 _ (I.edge k _ (il (by omega)) e he hb)
    refine wpOp_mono (λa' w' h'=>M (k+1) (listed.setIfInBounds k ai) a' w' (by omega) (by simpa using hs) ?_ ?_ h') (h.2 k hkr)
    .intro j hj;by_cases hjk:k=j
     .subst hjk;simp[show k<listed.size by omega]
     .rw[getD_set_ne aj hjk];exact h1 j (by omega)
    .intro j hj J;rw[getD_set_ne ai (by omega)];exact h2 j (by omega) J
  have:=key ops.size 0 (oC ops.size aj) a0 w0 (by omega) (by simp) (by intro j hj;omega) (by
   intro j _ hj;rw[gJ,Array.getElem?_replicate,aE hj];rfl) hany
  rwa [List.range_eq_range']
inductive PT (α:Type) where
 |leaf
 |node (v:Option α) (l r:PT α)
namespace PT
variable {α:Type}
def get:PT α->Nat->Option α
 |leaf,_=>ah
 |node v l r,n=>match n with
  |0=>v
  |m+1=>if aC (m%2) 0 then get l (m/2) else get r (m/2)
def Oe:Nat->PT α->Nat->Option α->PT α
 |0,t,_,_=>t
 |k+1,t,n,x=>match t with
  |leaf=>(match n with
   |0=>node x leaf leaf
   |m+1=>if aC (m%2) 0 then node ah (Oe k leaf (m/2) x) leaf else node ah leaf (Oe k leaf (m/2) x))
  |node v l r=>(match n with
   |0=>node x l r
   |m+1=>if aC (m%2) 0 then node v (Oe k l (m/2) x) r else node v l (Oe k r (m/2) x))
def set (t:PT α) (n:Nat) (x:Option α):PT α:=Oe (n+1) t n x
theorem zu:∀ (k:Nat) (t:PT α) (n:Nat) (x:Option α),n<k->∀ i,(Oe k t n x).get i=if i=n then x else t.get i
 |0,_,_,_,h,_=>cR h (xm _)
 |k+1,t,n,x,h,i=>by
  cases n with
  |zero=>
   cases t<;>cases i<;>simp[Oe,get]
  |succ m=>
   have hm:m/2<k:=by have:=Nat.div_le_self m 2;omega
   cases t with
   |leaf=>
    simp only[Oe];cases hb:aC (m%2) 0 with
    |true=>
     have J:m%2=0:=aw hb;simp only[bG];cases i with
     |zero=>simp[get]
     |succ j=>
      simp only[get];cases hj:aC (j%2) 0 with
      |true=>
       have I:j%2=0:=aw hj;simp only[bG];rw[zu k _ _ _ hm];by_cases he:j/2=m/2
       .rw[aE he,aE (by omega)]
       .rw[ay he,ay (by omega)];rfl
      |false=>
       have I:¬j%2=0:=ii hj;simp only[cA,eh];rw[ay (by omega)]
    |false=>
     have J:¬m%2=0:=ii hb;simp only[cA,eh];cases i with
     |zero=>simp[get]
     |succ j=>
      simp only[get];cases hj:aC (j%2) 0 with
      |true=>
       have I:j%2=0:=aw hj;simp only[bG];rw[ay (by omega)]
      |false=>
       have I:¬j%2=0:=ii hj;simp only[cA,eh];rw[zu k _ _ _ hm];by_cases he:j/2=m/2
       .rw[aE he,aE (by omega)]
       .rw[ay he,ay (by omega)];rfl
   |node v l r=>
    simp only[Oe];cases hb:aC (m%2) 0 with
    |true=>
     have J:m%2=0:=aw hb;simp only[bG];cases i with
     |zero=>simp[get]
     |succ j=>
      simp only[get];cases hj:aC (j%2) 0 with
      |true=>
       have I:j%2=0:=aw hj;simp only[bG];rw[zu k _ _ _ hm];by_cases he:j/2=m/2
       .rw[aE he,aE (by omega)]
       .rw[ay he,ay (by omega)]
      |false=>
       have I:¬j%2=0:=ii hj;simp only[cA,eh];rw[ay (by omega)]
    |false=>
     have J:¬m%2=0:=ii hb;simp only[cA,eh];cases i with
     |zero=>simp[get]
     |succ j=>
      simp only[get];cases hj:aC (j%2) 0 with
      |true=>
       have I:j%2=0:=aw hj;simp only[bG];rw[ay (by omega)]
      |false=>
       have I:¬j%2=0:=ii hj;simp only[cA,eh];rw[zu k _ _ _ hm];by_cases he:j/2=m/2
       .rw[aE he,aE (by omega)]
       .rw[ay he,ay (by omega)]
theorem get_set (t:PT α) (n:Nat) (x:Option α) (i:Nat):(t.set n x).get i=if i=n then x else t.get i:=zu (n+1) t n x (by omega) i
def mask {β:Type}:PT α->PT β->PT α
 |leaf,_=>leaf
 |node _ _ _,leaf=>leaf
 |node v l r,node u J I=>node (match u with|some _=>v|none=>ah) (mask l J) (mask r I)
def mk:Option α->PT α->PT α->PT α
 |none,leaf,leaf=>leaf
 |v,l,r=>node v l r
def only (m:Nat):Nat->Nat->PT α->PT α
 |_,_,leaf=>leaf
 |a,b,node v l r=>mk (if aN m b then v else ah) (only m (2*a) (a+b) l) (only m (2*a) (2*a+b) r)
def exc (m:Nat):Nat->Nat->PT α->PT α
 |_,_,leaf=>leaf
 |a,b,node v l r=>mk (if aN m b then ah else v) (exc m (2*a) (a+b) l) (exc m (2*a) (2*a+b) r)
def merge (m:Nat):Nat->Nat->PT α->PT α->PT α
 |a,b,leaf,t=>only m a b t
 |a,b,node v l r,leaf=>exc m a b (node v l r)
 |a,b,node v l r,node I M J=>mk (if aN m b then I else v) (merge m (2*a) (a+b) l M) (merge m (2*a) (2*a+b) r J)
def all (p:Nat->α->Bool):Nat->Nat->PT α->Bool
 |_,_,leaf=>ai
 |a,b,node v l r=>(match v with|some x=>p b x|none=>ai)&&all p (2*a) (a+b) l&&all p (2*a) (2*a+b) r
theorem get_all (p:Nat->α->Bool):∀ (t:PT α) (a b i:Nat) (x:α),all p a b t=ai->t.get i=af x->p (a*i+b) x=ai
 |leaf,_,_,_,_,_,h=>by simp[get] at h
 |node v l r,a,b,0,x,h,I=>by
  simp only[get] at I;subst I;simp only[all,av] at h;rw[Nat.mul_zero,bN];exact h.1.1
 |node v l r,a,b,j+1,x,h,I=>by
  simp only[all,av] at h;simp only[get] at I;cases hj:aC (j%2) 0 with
  |true=>
   have J:j%2=0:=aw hj;simp only[hj,bG] at I;have key:=get_all p l _ _ _ x h.1.2 I;have:2*a*(j/2)+(a+b)=a*(j+1)+b:=by
    have e:j=2*(j/2):=by omega
    calc 2*a*(j/2)+(a+b)=a*(2*(j/2))+a+b:=by rw[HO 2 a,Nat.mul_assoc];omega
     _=a*(j+1)+b:=by rw[<- e,Nat.mul_add];omega
   rw[this] at key;exact key
  |false=>
   have J:¬j%2=0:=ii hj;simp only[hj,cA,eh] at I;have key:=get_all p r _ _ _ x h.2 I;have:2*a*(j/2)+(2*a+b)=a*(j+1)+b:=by
    have e:j=2*(j/2)+1:=by omega
    have h2:a*(j+1)=a*(2*(j/2))+2*a:=by
     calc a*(j+1)=a*(2*(j/2)+2):=by rw[show j+1=2*(j/2)+2 from by omega]
      _=a*(2*(j/2))+2*a:=by rw[Nat.mul_add];omega
    have M:2*a*(j/2)=a*(2*(j/2)):=by rw[HO 2 a,Nat.mul_assoc]
    omega
   rw[this] at key;exact key
def dom:Nat->Nat->PT α->Nat->Nat
 |_,_,leaf,acc=>acc
 |a,b,node v l r,acc=>dom (2*a) (a+b) l (dom (2*a) (2*a+b) r (match v with|some _=>acc|||(1<<<b)|none=>acc))
def emp:PT α:=leaf
end PT
abbrev Ad:=PT AV
abbrev oc:=PT xl
abbrev NW:=List (Nat×xl)
def Ad.put (e:Ad):Option Nat->AV->Ad
 |none,_=>e
 |some d,x=>e.set d (af x)
def jf:NW->HF
 |[],_=>ah
 |(s,x)::r,t=>if aC s t then af x else jf r t
theorem aax (e:Ad) (d:Option Nat) (x:AV):CV e.get d x=(e.put d x).get:=by
 funext t;cases d with
 |none=>simp[CV,Ad.put]
 |some d=>
  simp only[CV,Ad.put,PT.get_set,ak];by_cases h:d=t
  .simp[h]
  .rw[ay h,ay (λe=>h e.symm)]
def Ic (acc:List Nat) (s:Nat) (e:Edge):Nat:=if Ag .any e then (s|||2^e.on)|||acc.getD e.on 0 else s
def KQ:List Oper->List Nat->List Nat
 |[],acc=>acc
 |o::r,acc=>KQ r (acc++[o.after.toList.foldl (Ic acc) 0])
theorem KU {ops:Array Oper} {o:Oper} {k:Nat} {acc:List Nat} (J:ops[k]? =af o) (M:∀ (j:Nat) B,acc[j]? =af B->∀ i,B.testBit i=ai->Bef ops j i):
 ∀ (es:List Edge) (s:Nat),(∀ e∈es,e∈o.after)->(∀ i,s.testBit i=ai->Bef ops k i)->∀ i,(es.foldl (Ic acc) s).testBit i=ai->Bef ops k i
 |[],s,_,hs,i,hi=>hs i hi
 |e::r,s,he,hs,i,hi=>by
  refine KU J M r (Ic acc s e) (λe' h'=>he e' (cI _ h')) (λi hi=>?_) i hi;unfold Ic at hi;split at hi
  .rename_i hb;rw[bu,bu,iU,iU] at hi;rcases hi with (hi|hi)|hi
   .exact hs i hi
   .rw[Nat.testBit_two_pow] at hi;have:e.on=i:=by simpa using hi
    subst this;exact .one J (he e (dk ..)) hb
   .refine .more J (he e (dk ..)) hb ?_;rw[aA] at hi;cases I:acc[e.on]? with
    |none=>rw[I] at hi;simp at hi
    |some C=>rw[I] at hi;exact M _ C I i hi
  .exact hs i hi
theorem NK {ops:Array Oper}:∀ (rest:List Oper) (acc:List Nat),(∀ (j:Nat),∀ o,rest[j]? =af o->ops[acc.length+j]? =af o)->
 (∀ (j:Nat) B,acc[j]? =af B->∀ i,B.testBit i=ai->Bef ops j i)->∀ (j:Nat) B,(KQ rest acc)[j]? =af B->∀ i,B.testBit i=ai->Bef ops j i
 |[],acc,_,I=>I
 |o::r,acc,J,I=>by
  refine NK r _ (λj o' hj=>?_) ?_
  .rw[bm,c6,show acc.length+1+j=acc.length+(j+1) from by omega];exact J (j+1) o' (by simpa using hj)
  .intro j B hj i hi;rcases b_ j acc.length with h|h
   .rw[bO h] at hj;exact I j B hj i hi
   .rw[ca h] at hj;have M:j-acc.length=0:=by
     rcases Lm (j-acc.length) with h0|h0
     .exact h0
     .rw[bS (by simp;omega)] at hj;cases hj
    have hjl:j=acc.length:=by omega
    subst hjl;simp at hj;subst hj;have hoo:ops[acc.length]? =af o:=by simpa using J 0 o rfl
    rw[<- Array.foldl_toList] at hi;exact KU hoo I _ 0 (λe he=>by simpa using he) (λi hi=>by simp at hi) i hi
inductive ZJ where
 |mv (x:Operand)
 |pick (c a b:Operand)
 |alloc (ty:TypeId) (z:List Value)
 |box (ty:TypeId) (x:Operand)
 |build (z:List Value) (parts:List (Nat×Nat×Operand))
 |bsl (ty:TypeId) (sz len:Nat) (z:List Value) (parts:List (Nat×Nat×Operand))
 |load (sz:Nat) (ag:Bool) (x:Operand)
 |store (sz:Nat) (x v:Operand)
 |nilc (x:Operand)
 |bin (op:BinOp) (x y:Operand)
 |eqs (neg:Bool) (ds:List TypeDesc) (x y:Operand)
 |isnil (neg:Bool) (x:Operand)
 |eqb (neg:Bool) (x y:Operand)
 |not (x:Operand)
 |conv (k:IntKind) (x:Operand)
 |mksl (ty:TypeId) (sz bytes:Nat) (z:List Value) (l c:Operand)
 |slc (sz:Nat) (x:Operand) (lo hi mx:Option Operand)
 |fad (off:Nat) (x:Operand)
 |fld (off sz:Nat) (ag:Bool) (x:Operand)
 |iad (sz:Nat) (x i:Operand)
 |iada (n sz:Nat) (x i:Operand)
 |idx (n sz:Nat) (ag:Bool) (x i:Operand)
 |ext (x:Operand) (i:Nat)
 |len (x:Operand)
 |lens (x:Operand)
 |lenm (x:Operand)
 |max (x y:Operand)
 |min (x y:Operand)
 |sidx (x i:Operand)
 |app (ty:TypeId) (sz bytes:Nat) (s x:Operand)
 |copy (sz:Nat) (d x:Operand)
 |clr (sz:Nat) (z:List Value) (x:Operand)
 |mkf (f:FuncId) (caps:List Operand)
 |mkm
 |lku (str ok:Bool) (z:Value) (x k:Operand)
 |mup (str:Bool) (x k v:Operand)
 |rng (x:Operand)
 |nxt (x:Operand)
 |bad
inductive SI where
 |op (s:ZJ)
 |call (f:FuncId) (args:List Operand)
 |callv (x:Operand) (args:List Operand)
def Yr (t:Nat):List Nat->Bool
 |[]=>aj
 |x::r=>aC x t||Yr t r
def KL:List Value->Bool
 |[]=>ai
 |v::r=>v.oneCell'&&KL r
def Fr:Value->AV
 |.agg vs=>if KL vs.toList then .agg (vs.toList.map λv=>.f (.raw v)) else .f (.raw (.agg vs))
 |v=>.f (.raw v)
def mH (e:Ad):Operand->Option AV
 |.tmp t=>e.get t
 |.const v=>af (Fr v)
 |.func g=>af (.clo g [])
 |.global g=>match G g with|some cells=>af (.f (.ptr cells 0))|none=>ah
def XG (e:Ad):List Operand->Option (List AV)
 |[]=>af []
 |x::xs=>match mH e x with|some y=>(match XG e xs with|some I=>af (y::I)|none=>ah)|none=>ah
structure Cq where
 val:AV
 rd:List Nat
 wr:List Nat
 nw:NW
 N:List Nat
def Cq.eff (r:Cq):BI:=⟨r.val,r.rd,r.wr,jf r.nw,r.N⟩
def rv (x:AV):Option Cq:=af ⟨x,[],[],[],[]⟩
def raw (v:Value):AV:=.f (.raw v)
def pkV (ok:Bool) (v:AV) (b:Bool):AV:=match ok with|true=>.tup [v,raw (.bool b)]|false=>v
def xZ:List AV->Option (List FV)
 |[]=>af []
 |.f x::r=>match xZ r with|some l=>af (x::l)|none=>ah
 |_::_=>ah
def pu (l:List AV):BC:=match xZ l with|some fs=>.fz fs|none=>.mx l
def MX (l:List AV):AV:=match xZ l with|some fs=>.f (.agg fs)|none=>.agg l
def splice {α:Type} (l:List α) (off:Nat) (vs:List α):List α:=l.take off++vs++l.drop (off+vs.length)
def BC.toMx:BC->List AV
 |.fz l=>l.map .f
 |.mx l=>l
 |_=>[]
def gK:List AV->Bool
 |[]=>ai
 |x::r=>x.isCell&&gK r
def BC.put (c:BC) (off:Nat) (vs:List AV):Option BC:=
 if c.isCells&&eK (off+vs.length) c.len&&gK vs then
  match c,xZ vs with
  |.fz l,af I=>af (.fz (splice l off I))
  |c,_=>af (.mx (splice c.toMx off vs))
 else ah
def BC.sub? (c:BC) (off sz:Nat):Bool->Option AV
 |false=>match sz with|1=>c.get off|_=>ah
 |true=>match c with
  |.fz l=>if eK (off+sz) l.length then af (.f (.agg ((l.drop off).take sz))) else ah
  |.mx l=>if eK (off+sz) l.length then af (.agg ((l.drop off).take sz)) else ah
  |_=>ah
def AV.cs:AV->List AV
 |.agg l=>l
 |.f (.agg l)=>l.map .f
 |x=>[x]
def Ea (h:oc) (sz:Nat) (ag:Bool):AV->Option Cq
 |.ptr id off=>match h.get id with
  |some b=>(match b.c.sub? off sz ag with|some v=>af ⟨v,[id],[],[],[]⟩|none=>ah)
  |none=>ah
 |.f (.ptr cells off)=>(match (BC.fz cells).sub? off sz ag with|some v=>rv v|none=>ah)
 |_=>ah
def KV (h:oc) (sz:Nat) (v:AV):AV->Option Cq
 |.ptr id off=>match h.get id with
  |some b=>if v.cs.length==sz then (match b.c.put off v.cs with|some c=>af ⟨raw undef,[id],[id],[(id,⟨b.ty,c⟩)],[]⟩|none=>ah) else ah
  |none=>ah
 |_=>ah
def zD (cells:List AV) (e:Ad):List (Nat×Nat×Operand)->Option (List AV)
 |[]=>af cells
 |(off,sz,x)::r=>match mH e x with
  |some v=>if v.cs.length==sz&&eK (off+sz) cells.length&&gK v.cs then zD (splice cells off v.cs) e r else ah
  |none=>ah
def c8 (a b:Int):Bool:=decide (a<=b)
def fR (a b:Int):Bool:=decide (a<b)
def MG (k:IntKind) (n:Int):Int:=
 match k with
 |.i64=>if c8 (-9223372036854775808) n&&c8 n 9223372036854775807 then n else oX .i64 n
 |.u8=>if c8 0 n&&c8 n 255 then n else oX .u8 n
 |k=>oX k n
def nok:Int->Bool
 |.ofNat k=>aC k k
 |.negSucc k=>aC k k
theorem amk (n:Int):nok n=ai:=by cases n<;>exact rW _
def bk (k:IntKind) (n:Int):Int:=bif nok n then MG k n else 0
theorem HP (k:IntKind) (n:Int):bk k n=MG k n:=by unfold bk;rw[amk];rfl
def sh (a b:ByteArray):Bool:=a.data.toList==b.data.toList
def uX (op:BinOp):Value->Value->Option Value
 |.int k a,.int k' b=>if k==k' then
   match op with
   |.add=>af (.int k (bk k (a+b)))
   |.sub=>af (.int k (bk k (a-b)))
   |.mul=>af (.int k (bk k (a*b)))
   |.rem=>if b==0 then ah else af (.int k (a.tmod b))
   |.quo=>if b==0 then ah else af (.int k (bk k (a.tdiv b)))
   |.eql=>af (.bool (a==b))
   |.neq=>af (.bool (a !=b))
   |.lss=>af (.bool (fR a b))
   |.leq=>af (.bool (c8 a b))
   |.gtr=>af (.bool (fR b a))
   |.geq=>af (.bool (c8 b a))
   |_=>ah
  else ah
 |.string a,.string b=>match op with
   |.eql=>af (.bool (sh a b))
   |.neq=>af (.bool !(sh a b))
   |_=>ah
 |_,_=>ah
def xP:TypeDesc->FV->FV->Option Bool
 |.int _,.raw (.int k a),.raw (.int k' b)=>if k==k' then af (a==b) else ah
 |.bool,.raw (.bool a),.raw (.bool b)=>af (a==b)
 |.string,.raw (.string a),.raw (.string b)=>af (sh a b)
 |_,_,_=>ah
def o9:List TypeDesc->List FV->List FV->Option Bool
 |[],[],[]=>af ai
 |d::ds,x::xs,y::I=>match xP d x y with
  |some ai=>o9 ds xs I
  |some aj=>af aj
  |none=>ah
 |_,_,_=>ah
def AV.row? (h:oc) (sz:Nat):AV->Option (List AV×Nat×List Nat)
 |.f (.sl cells n)=>if eK (n*sz) cells.length then af ((cells.take (n*sz)).map .f,n,[]) else ah
 |.f (.raw (.slice ah 0 0))=>af ([],0,[])
 |.emp=>af ([],0,[])
 |.row id sz' n=>if sz'==sz then (match h.get id with|some b=>if b.c.isCells&&eK (n*sz) b.c.len then af (b.c.toMx.take (n*sz),n,[id]) else ah|none=>ah) else ah
 |.sl id off n=>match h.get id with|some b=>if b.c.isCells&&eK (off+n*sz) b.c.len then af ((b.c.toMx.drop off).take (n*sz),n,[id]) else ah|none=>ah
 |_=>ah
def AV.slen:AV->Option Nat
 |.f (.sl _ n)=>af n
 |.f (.raw (.slice _ n _))=>af n
 |.emp=>af 0
 |.row _ _ n=>af n
 |.sl _ _ n=>af n
 |_=>ah
def a_ (n bytes:Nat):Bool:=eK n 1099511627776&&eK (n*bytes) 1099511627776
def repl (z:List Value):Nat->List FV
 |0=>[]
 |n+1=>z.map .raw++repl z n
def Ar:Value->Bool
 |.slice ah 0 0=>ai
 |_=>aj
def I4:AV->Bool
 |.emp=>ai
 |.f (.raw v)=>Ar v
 |_=>aj
def tL (k:Value):List (Value×AV)->Option (Option AV)
 |[]=>af ah
 |(k',v)::r=>match uX .eql k k' with
  |some (.bool ai)=>af (af v)
  |some (.bool aj)=>tL k r
  |_=>ah
def zf (k:Value) (v:AV):List (Value×AV)->Option (List (Value×AV))
 |[]=>af [(k,v)]
 |(k',I)::r=>match uX .eql k k' with
  |some (.bool ai)=>af ((k,v)::r)
  |some (.bool aj)=>(match zf k v r with|some J=>af ((k',I)::J)|none=>ah)
  |_=>ah
def zh:Bool->Value->Bool
 |false,.int _ _=>ai
 |true,.string _=>ai
 |_,_=>aj
def eQ (s:ZJ) (e:Ad) (h:oc) (nx:Nat):Option Cq:=
 match s with
 |.mv x=>match mH e x with|some v=>rv v|none=>ah
 |.pick c a b=>match mH e c with
  |some (.f (.raw (.bool t)))=>(match mH e (if t then a else b) with|some v=>rv v|none=>ah)
  |_=>ah
 |.alloc ty z=>af ⟨.ptr nx 0,[],[nx],[(nx,⟨ty,.fz (z.map .raw)⟩)],[nx]⟩
 |.box ty x=>match mH e x with
  |some v=>if gK v.cs then af ⟨.ptr nx 0,[],[nx],[(nx,⟨ty,pu v.cs⟩)],[nx]⟩ else ah
  |none=>ah
 |.build z parts=>match zD (z.map raw) e parts with|some cs=>rv (MX cs)|none=>ah
 |.bsl ty sz len z parts=>match zD ((repl z len).map .f) e parts with
  |some cs=>af ⟨if len=0 then .emp else .row nx sz len,[],[nx],[(nx,⟨ty,pu cs⟩)],[nx]⟩
  |none=>ah
 |.load sz ag x=>match mH e x with|some p=>Ea h sz ag p|none=>ah
 |.store sz x v=>match mH e x,mH e v with|some p,af y=>KV h sz y p|_,_=>ah
 |.nilc x=>match mH e x with
  |some (.ptr id off)=>rv (.ptr id off)
  |some (.f (.ptr cells off))=>rv (.f (.ptr cells off))
  |some (.clo g cap)=>rv (.clo g cap)
  |_=>ah
 |.bin op x y=>match mH e x,mH e y with
  |some (.f (.raw u)),af (.f (.raw v))=>(match uX op u v with|some r=>rv (raw r)|none=>ah)
  |_,_=>ah
 |.eqs neg ds x y=>match mH e x,mH e y with
  |some (.f (.agg a)),af (.f (.agg b))=>(match o9 ds a b with|some r=>rv (raw (.bool (r !=neg)))|none=>ah)
  |_,_=>ah
 |.eqb neg x y=>match mH e x,mH e y with
  |some (.f (.raw (.bool a))),af (.f (.raw (.bool b)))=>rv (raw (.bool ((a==b) !=neg)))
  |_,_=>ah
 |.isnil neg x=>match mH e x with
  |some (.row _ _ _)=>rv (raw (.bool neg))
  |some (.sl _ _ _)=>rv (raw (.bool neg))
  |some (.f (.sl _ (_+1)))=>rv (raw (.bool neg))
  |some (.f (.sl _ 0))=>rv .anyb
  |some .emp=>rv .anyb
  |some (.f (.raw v))=>if Ar v then rv (raw (.bool !neg)) else ah
  |_=>ah
 |.not x=>match mH e x with|some (.f (.raw (.bool b)))=>rv (raw (.bool !b))|_=>ah
 |.conv k x=>match mH e x with|some (.f (.raw (.int _ n)))=>rv (raw (.int k (bk k n)))|_=>ah
 |.mksl ty sz bytes z l c=>match mH e l,mH e c with
  |some (.f (.raw (.int _ a))),af (.f (.raw (.int _ b)))=>
   if c8 0 a&&c8 a b&&a_ b.toNat bytes then af ⟨.row nx sz a.toNat,[],[nx],[(nx,⟨ty,.fz (repl z a.toNat)⟩)],[nx]⟩ else ah
  |_,_=>ah
 |.slc sz x lo hi mx=>match mH e x with
  |some v=>match lo,hi,mx with
   |none,af (.const (.int _ 0)),af (.const (.int _ 0))=>if v.slen.isSome then rv .emp else ah
   |none,af b,ah=>match v,mH e b with
    |.row id sz' n,af (.f (.raw (.int _ j)))=>if sz'==sz&&c8 0 j&&c8 j n then (match h.get id with
     |some blk=>if blk.c.isCells&&eK (n*sz) blk.c.len then af ⟨.row nx sz j.toNat,[id],[nx,id],[(nx,⟨blk.ty,pu (blk.c.toMx.take (j.toNat*sz))⟩)],[nx]⟩ else ah
     |none=>ah) else ah
    |.f (.sl cells n),af (.f (.raw (.int _ j)))=>if c8 0 j&&c8 j n&&eK (n*sz) cells.length then rv (.f (.sl (cells.take (j.toNat*sz)) j.toNat)) else ah
    |_,_=>ah
   |some b,ah,ah=>match v,mH e b with
    |.row id sz' n,af (.f (.raw (.int _ j)))=>if sz'==sz&&c8 0 j&&fR j n then rv (.sl id (j.toNat*sz) (n-j.toNat)) else ah
    |.f (.sl cells n),af (.f (.raw (.int _ j)))=>if c8 0 j&&c8 j n&&eK (n*sz) cells.length then rv (.f (.sl ((cells.drop (j.toNat*sz)).take ((n-j.toNat)*sz)) (n-j.toNat))) else ah
    |_,_=>ah
   |_,_,_=>ah
  |none=>ah
 |.fad off x=>match mH e x with
  |some (.ptr id o)=>rv (.ptr id (o+off))
  |some (.f (.ptr cells o))=>rv (.f (.ptr cells (o+off)))
  |_=>ah
 |.fld off sz ag x=>match mH e x with
  |some (.agg l)=>(match (BC.mx l).sub? off sz ag with|some v=>rv v|none=>ah)
  |some (.f (.agg l))=>(match (BC.fz l).sub? off sz ag with|some v=>rv v|none=>ah)
  |_=>ah
 |.iad sz x i=>match mH e x,mH e i with
  |some v,af (.f (.raw (.int _ j)))=>match v with
   |.row id sz' n=>if sz'==sz&&c8 0 j&&fR j n then rv (.ptr id (j.toNat*sz)) else ah
   |.sl id off n=>if c8 0 j&&fR j n then rv (.ptr id (off+j.toNat*sz)) else ah
   |.f (.sl cells n)=>if c8 0 j&&fR j n then rv (.f (.ptr cells (j.toNat*sz))) else ah
   |_=>ah
  |_,_=>ah
 |.iada n sz x i=>match mH e x,mH e i with
  |some v,af (.f (.raw (.int _ j)))=>if c8 0 j&&fR j n then (match v with
   |.ptr id off=>rv (.ptr id (off+j.toNat*sz))
   |.f (.ptr cells off)=>rv (.f (.ptr cells (off+j.toNat*sz)))
   |_=>ah) else ah
  |_,_=>ah
 |.idx n sz ag x i=>match mH e x,mH e i with
  |some v,af (.f (.raw (.int _ j)))=>if c8 0 j&&fR j n then (match v with
   |.agg l=>(match (BC.mx l).sub? (j.toNat*sz) sz ag with|some v=>rv v|none=>ah)
   |.f (.agg l)=>(match (BC.fz l).sub? (j.toNat*sz) sz ag with|some v=>rv v|none=>ah)
   |_=>ah) else ah
  |_,_=>ah
 |.ext x i=>match mH e x with|some (.tup l)=>(match l[i]? with|some v=>rv v|none=>ah)|_=>ah
 |.len x=>match mH e x with
  |some v=>(match v.slen with|some n=>rv (raw (.int .i64 n))|none=>ah)
  |none=>ah
 |.lens x=>match mH e x with
  |some (.f (.raw (.string s)))=>rv (raw (.int .i64 s.data.toList.length))
  |_=>ah
 |.lenm x=>match mH e x with
  |some (.mp id)=>(match h.get id with|some ⟨_,.mp es⟩=>af ⟨raw (.int .i64 es.length),[id],[],[],[]⟩|_=>ah)
  |_=>ah
 |.max x y=>match mH e x,mH e y with
  |some (.f (.raw (.int k a))),af (.f (.raw (.int _ b)))=>rv (raw (.int k (if fR a b then b else a)))
  |_,_=>ah
 |.min x y=>match mH e x,mH e y with
  |some (.f (.raw (.int k a))),af (.f (.raw (.int _ b)))=>rv (raw (.int k (if fR b a then b else a)))
  |_,_=>ah
 |.sidx x i=>match mH e x,mH e i with
  |some (.f (.raw (.string s))),af (.f (.raw (.int _ j)))=>if c8 0 j then (match s.data.toList[j.toNat]? with|some b=>rv (raw (.int .u8 b.toNat))|none=>ah) else ah
  |_,_=>ah
 |.app ty sz bytes s x=>match mH e s,mH e x with
  |some b,af y=>match y.row? h sz with
   |some (src,m,rd)=>match b with
    |.row id sz' n=>match h.get id with
     |some blk=>if sz'==sz&& !(Yr id rd)&&blk.c.isCells&&eK (n*sz) blk.c.len&&blk.ty==ty&&a_ (n+m) bytes then
       af ⟨.row nx sz (n+m),id::rd,[nx,id],[(nx,⟨ty,pu (blk.c.toMx.take (n*sz)++src)⟩)],[nx]⟩ else ah
     |none=>ah
    |b=>if I4 b&&a_ m bytes then
      (if m==0 then af ⟨b,rd,[],[],[]⟩ else af ⟨.row nx sz m,rd,[nx],[(nx,⟨ty,pu src⟩)],[nx]⟩) else ah
   |none=>ah
  |_,_=>ah
 |.copy sz d x=>match mH e d,mH e x with
  |some (.row id sz' n),af y=>(match h.get id,y.row? h sz with
   |some blk,af (src,m,rd)=>if sz'==sz&& !(Yr id rd)&&eK (n*sz) blk.c.len then
     (match blk.c.put 0 (src.take (iS m n*sz)) with
     |some c=>af ⟨raw (.int .i64 (iS m n)),id::rd,[id],[(id,⟨blk.ty,c⟩)],[]⟩
     |none=>ah) else ah
   |_,_=>ah)
  |_,_=>ah
 |.clr _ z x=>match mH e x with
  |some (.sl id off n)=>(match h.get id with
   |some blk=>if gq 0 n then (match blk.c.put off ((repl z n).map .f) with
    |some c=>af ⟨.tup [],[id],[id],[(id,⟨blk.ty,c⟩)],[]⟩
    |none=>ah) else ah
   |none=>ah)
  |_=>ah
 |.mkf f caps=>match XG e caps with|some l=>rv (.clo f l)|none=>ah
 |.mkm=>af ⟨.mp nx,[],[nx],[(nx,⟨0,.mp []⟩)],[nx]⟩
 |.lku str ok z x k=>match mH e x,mH e k with
  |some (.mp id),af (.f (.raw key))=>(match h.get id with
   |some ⟨_,.mp es⟩=>if zh str key then (match tL key es with|some (af v)=>af ⟨pkV ok v ai,[id],[],[],[]⟩|some ah=>af ⟨pkV ok (raw z) aj,[id],[],[],[]⟩|none=>ah) else ah
   |_=>ah)
  |_,_=>ah
 |.mup str x k v=>match mH e x,mH e k,mH e v with
  |some (.mp id),af (.f (.raw key)),af y=>(match h.get id with
   |some ⟨ty,.mp es⟩=>if zh str key then (match zf key y es with|some es'=>af ⟨raw undef,[id],[id],[(id,⟨ty,.mp es'⟩)],[]⟩|none=>ah) else ah
   |_=>ah)
  |_,_,_=>ah
 |.rng x=>match mH e x with
  |some (.f (.raw (.string s)))=>af ⟨.ptr nx 0,[],[nx],[(nx,⟨0,.it s 0⟩)],[nx]⟩
  |_=>ah
 |.nxt x=>match mH e x with
  |some (.ptr id 0)=>(match h.get id with
   |some ⟨ty,.it s p⟩=>(match s.data.toList[p]? with
    |some b=>if gq b.toNat 128 then af ⟨.tup [raw (.bool ai),raw (.int .i64 p),raw (.int .i32 b.toNat)],[id],[id],[(id,⟨ty,.it s (p+1)⟩)],[]⟩ else ah
    |none=>af ⟨.tup [raw (.bool aj)],[id],[id],[(id,⟨ty,.it s p⟩)],[]⟩)
   |_=>ah)
  |_=>ah
 |.bad=>ah
structure sQ where
 dst:Option Nat
 op:SI
 guard:Option (Nat×Bool)
inductive SC where
 |skip
 |reg (ops:List sQ) (prs:List (Nat×Nat))
 |seq (a b:SC)
 |cond (c:Nat) (a b:SC)
 |block (id:Nat) (b:SC)
 |loop (b:SC)
 |exit (id:Nat)
 |ret
 |defer (f:FuncId) (caps:List Operand) (t:Nat)
 |bad
structure apd where
 val:AV
 h:oc
 nx:Nat
 wr:Nat
abbrev X_:=FuncId->List AV->oc->Nat->Option apd
mutual
def AV.ids:AV->Nat->Nat
 |.ptr id _,acc=>acc|||(1<<<id)
 |.sl id _ _,acc=>acc|||(1<<<id)
 |.row id _ _,acc=>acc|||(1<<<id)
 |.mp id,acc=>acc|||(1<<<id)
 |.agg l,acc=>AV.idsL l acc
 |.tup l,acc=>AV.idsL l acc
 |.clo _ l,acc=>AV.idsL l acc
 |.f _,acc=>acc
 |.emp,acc=>acc
 |.anyb,acc=>acc
def AV.idsL:List AV->Nat->Nat
 |[],acc=>acc
 |x::r,acc=>AV.idsL r (AV.ids x acc)
end
mutual
def AV.all (p:Nat->Bool):AV->Bool
 |.ptr id _=>p id
 |.sl id _ _=>p id
 |.row id _ _=>p id
 |.mp id=>p id
 |.agg l=>AV.allL p l
 |.tup l=>AV.allL p l
 |.clo _ l=>AV.allL p l
 |.f _=>ai
 |.emp=>ai
 |.anyb=>ai
def AV.allL (p:Nat->Bool):List AV->Bool
 |[]=>ai
 |x::r=>AV.all p x&&AV.allL p r
end
def BC.ids:BC->Nat->Nat
 |.mx l,acc=>AV.idsL l acc
 |.mp es,acc=>AV.idsL (es.map (·.2)) acc
 |_,acc=>acc
def BC.all (p:Nat->Bool):BC->Bool
 |.mx l=>AV.allL p l
 |.mp es=>AV.allL p (es.map (·.2))
 |_=>ai
def oc.all (p:Nat->Bool) (h:oc):Bool:=PT.all (λi b=>p i&&b.c.all p) 1 0 h
def W9:Nat->oc->Nat->Nat->Nat
 |0,_,_,Lw=>Lw
 |n+1,h,todo,Lw=>
  if aC todo 0 then Lw else
  match Nat.log2 todo with
  |id=>if aN Lw id then W9 n h (todo ^^^ (1<<<id)) Lw else
   match h.get id with
   |some b=>W9 n h (b.c.ids (todo ^^^ (1<<<id))) (Lw|||(1<<<id))
   |none=>W9 n h (todo ^^^ (1<<<id)) Lw
section force
variable {α:Type}
def sZ (n:Nat) (k:Nat->α):α:=match n with|0=>k 0|m+1=>k (m+1)
def frcI (n:Int) (k:Int->α):α:=match n with|.ofNat m=>sZ m λm=>k (.ofNat m)|.negSucc m=>sZ m λm=>k (.negSucc m)
def frcB (b:Bool) (k:Bool->α):α:=match b with|true=>k ai|false=>k aj
def frcV (v:Value) (k:Value->α):α:=match v with
 |.int kd n=>frcI n λn=>k (.int kd n)
 |.bool b=>frcB b λb=>k (.bool b)
 |v=>k v
def ams (x:FV) (k:FV->α):α:=match x with
 |.raw v=>frcV v λv=>k (.raw v)
 |.ptr cells off=>sZ off λoff=>k (.ptr cells off)
 |.sl cells n=>sZ n λn=>k (.sl cells n)
 |.agg l=>k (.agg l)
def ac7:List FV->(List FV->α)->α
 |[],k=>k []
 |x::r,k=>ams x λx=>ac7 r λr=>k (x::r)
def amr (x:FV) (k:FV->α):α:=match x with
 |.agg l=>ac7 l λl=>k (.agg l)
 |x=>ams x k
def ai0 (x:AV) (k:AV->α):α:=match x with
 |.f x=>amr x λx=>k (.f x)
 |.ptr id off=>sZ id λid=>sZ off λoff=>k (.ptr id off)
 |.sl id off n=>sZ id λid=>sZ off λoff=>sZ n λn=>k (.sl id off n)
 |.row id sz n=>sZ id λid=>sZ sz λsz=>sZ n λn=>k (.row id sz n)
 |.mp id=>sZ id λid=>k (.mp id)
 |x=>k x
def RG:List AV->(List AV->α)->α
 |[],k=>k []
 |x::r,k=>ai0 x λx=>RG r λr=>k (x::r)
def amt (x:AV) (k:AV->α):α:=match x with
 |.agg l=>RG l λl=>k (.agg l)
 |.tup l=>RG l λl=>k (.tup l)
 |.clo f l=>RG l λl=>k (.clo f l)
 |x=>ai0 x k
def frcC (c:BC) (k:BC->α):α:=match c with
 |.fz l=>ac7 l λl=>k (.fz l)
 |.mx l=>RG l λl=>k (.mx l)
 |.it s p=>sZ p λp=>k (.it s p)
 |.mp es=>k (.mp es)
def RF {β:Type}:PT β->(PT β->α)->α
 |.leaf,k=>k .leaf
 |.node v l r,k=>(match v with
  |none=>λ(k:Option β->α)=>k ah
  |some x=>λk=>k (af x)) λv=>RF l λl=>RF r λr=>k (.node v l r)
def Uo {β:Type}:Nat->PT β->Nat->Option β->(PT β->α)->α
 |0,t,_,_,k=>k t
 |f+1,t,n,x,k=>match t with
  |.leaf=>(match n with
   |0=>k (.node x .leaf .leaf)
   |m+1=>if aC (m%2) 0 then sZ (m/2) λq=>Uo f .leaf q x λu=>k (.node ah u .leaf) else sZ (m/2) λq=>Uo f .leaf q x λu=>k (.node ah .leaf u))
  |.node v l r=>(match n with
   |0=>k (.node x l r)
   |m+1=>if aC (m%2) 0 then sZ (m/2) λq=>Uo f l q x λu=>k (.node v u r) else sZ (m/2) λq=>Uo f r q x λu=>k (.node v l u))
theorem O6 {β:Type}:∀ (x:PT β) (k:PT β->α),RF x k=k x
 |.leaf,_=>rfl
 |.node v l r,k=>by cases v<;>simp only[RF,O6 l,O6 r]
end force
structure IS where
 e:Ad
 h:oc
 nx:Nat
 wr:Nat
structure aik where
 val:AV
 rd:Nat
 wr:Nat
 h:oc
 nx:Nat
def bits:List Nat->Nat->Nat
 |[],acc=>acc
 |x::r,acc=>bits r (acc|||(1<<<x))
def aiz {α:Type} (h:oc) (nw:NW):List Nat->(oc->α)->α
 |[],k=>k h
 |i::r,k=>match jf nw i with
  |none=>Uo (i+1) h i ah λh=>aiz h nw r k
  |some ⟨ty,c⟩=>frcC c λc=>Uo (i+1) h i (af ⟨ty,c⟩) λh=>aiz h nw r k
def ai7 (call:X_) (f:FuncId) (args:List AV) (h:oc) (nx:Nat):Option aik:=
 sZ (W9 1000000 h (AV.idsL args 0) 0) λids=>RF (PT.only ids 1 0 h) λhc=>
 if AV.allL (gq · nx) args&&oc.all (gq · nx) hc then
  match call f args hc nx with
  |some ⟨val,h',nx',wr⟩=>amt val λval=>sZ nx' λnx'=>sZ wr λwr=>RF (PT.merge wr 1 0 h h') λhm=>af ⟨val,ids,wr,hm,nx'⟩
  |none=>ah
 else ah
def opA (call:X_) (o:SI) (e:Ad) (h:oc) (nx:Nat):Option aik:=
 match o with
 |.call f args=>match XG e args with|some l=>ai7 call f l h nx|none=>ah
 |.callv x args=>match mH e x,XG e args with|some (.clo f cap),af l=>ai7 call f (l++cap) h nx|_,_=>ah
 |.op o=>match eQ o e h nx with
  |some ⟨val,rd,wr,nw,N⟩=>amt val λval=>sZ (bits rd 0) λrd=>sZ (bits wr 0) λI=>sZ (nx+N.length) λnx'=>aiz h nw wr λh=>af ⟨val,rd,I,h,nx'⟩
  |none=>ah
def amb (e:Ad):Option (Nat×Bool)->Option Bool
 |none=>af ai
 |some (t,want)=>match e.get t with
  |some (.f (.raw (.bool b)))=>af (b==want)
  |some (.f (.raw (.tuple _)))=>af aj
  |_=>ah
def aj7 {α:Type} (e:Ad) (dst:Option Nat) (v:AV) (k:Ad->α):α:=match dst with
 |none=>k e
 |some d=>Uo (d+1) e d (af v) k
structure FPm where
 rd:Nat
 wr:Nat
def Us (call:X_):List sQ->IS->Option (IS×List FPm)
 |[],s=>af (s,[])
 |o::r,⟨e,h,nx,wr⟩=>
  match amb e o.guard with
  |some ai=>(match opA call o.op e h nx with
   |some ⟨val,rd,w,h',nx'⟩=>aj7 e o.dst val λe'=>sZ (wr|||w) λwr'=>(match Us call r ⟨e',h',nx',wr'⟩ with
    |some (s',fs)=>af (s',⟨rd,w⟩::fs)
    |none=>ah)
   |none=>ah)
  |some aj=>aj7 e o.dst (raw undef) λe'=>(match Us call r ⟨e',h,nx,wr⟩ with
   |some (s',fs)=>af (s',⟨0,0⟩::fs)
   |none=>ah)
  |none=>ah
def YT:List FPm->Nat->Option FPm
 |[],_=>ah
 |f::_,0=>af f
 |_::r,n+1=>YT r n
def DS (a b:Nat):Bool:=aC (a&&&b) 0
def FO (fs:List FPm):List (Nat×Nat)->Bool
 |[]=>ai
 |(i,j)::r=>(match YT fs i,YT fs j with
  |some a,af b=>DS a.wr b.rd&&DS a.wr b.wr&&DS b.wr a.rd
  |_,_=>aj)&&FO fs r
inductive Ex where
 |normal
 |exit (id:Nat)
 |ret
def ahx (body:IS->Option (Ex×IS)) (e0:Ad):Nat->IS->Option (Ex×IS)
 |0,_=>ah
 |n+1,s=>match body s with
  |some (.normal,⟨e,h,nx,wr⟩)=>RF (PT.mask e e0) λe=>ahx body e0 n ⟨e,h,nx,wr⟩
  |r=>r
def run (call:X_) (inert:FuncId->Bool) (fuel:Nat):SC->IS->Option (Ex×IS)
 |.skip,s=>af (.normal,s)
 |.reg ops prs,s=>match Us call ops s with
  |some (s',fs)=>if FO fs prs then af (.normal,s') else ah
  |none=>ah
 |.seq a b,s=>match run call inert fuel a s with
  |some (.normal,s')=>run call inert fuel b s'
  |r=>r
 |.cond c a b,s=>match s.e.get c with
  |some (.f (.raw (.bool ai)))=>run call inert fuel a s
  |some (.f (.raw (.bool aj)))=>run call inert fuel b s
  |_=>ah
 |.block id b,s=>match run call inert fuel b s with
  |some (.exit i,s')=>if aC i id then af (.normal,s') else af (.exit i,s')
  |r=>r
 |.loop b,s=>ahx (run call inert fuel b) s.e fuel s
 |.exit id,s=>af (.exit id,s)
 |.ret,s=>af (.ret,s)
 |.defer f caps t,⟨e,h,nx,wr⟩=>match XG e caps with
  |some l=>if inert f then aj7 e (af t) (.clo f l) λe'=>af (.normal,⟨e',h,nx,wr⟩) else ah
  |none=>ah
 |.bad,_=>ah
inductive RV where
 |tmp (t:Nat)
 |cell (a:Nat) (sz:Nat) (ag:Bool)
structure SF where
 code:SC
 res:List RV
 nt:Nat
def Es:List AV->AV
 |[x]=>x
 |l=>.tup l
def ajv:Value->Value->Bool
 |.bool a,.bool b=>a==b
 |.int k a,.int k' b=>k==k'&&a==b
 |.string a,.string b=>sh a b
 |.slice ah n c,.slice ah I c'=>aC n I&&aC c c'
 |.pointer ah,.pointer ah=>ai
 |.tuple a,.tuple b=>a.isEmpty&&b.isEmpty
 |_,_=>aj
def fw (P:Program) (t:TypeId):Option Nat:=(P.info? t).map (·.size)
def Fw (P:Program) (t:TypeId):Option Nat:=(P.info? t).map (·.bytes)
def tf (P:Program) (t:TypeId):Option (List Value):=((P.info? t).bind (·.zero)).map (·.cells.toList)
def Eb (P:Program) (t:TypeId):Option Bool:=(P.underlying t).map λ|.struct _=>ai|.array _ _=>ai|_=>aj
def Bf (P:Program) (t:TypeId):Option TypeId:=match P.underlying t with|some (.slice e)=>af e|_=>ah
def BR (P:Program) (t:TypeId) (i:Nat):Option (Nat×Nat):=match P.underlying t with
 |some (.struct fs)=>(fs[i]?).bind λf=>(fw P f.type).map (f.offset,·)
 |some (.array _ el)=>(fw P el).map λs=>(i*s,s)
 |some (.slice el)=>(fw P el).map λs=>(i*s,s)
 |_=>ah
def xx (P:Program) (t:TypeId):List (Nat×Operand)->Option (List (Nat×Nat×Operand))
 |[]=>af []
 |(i,x)::r=>match BR P t i,xx P t r with|some (o,s),af l=>af ((o,s,x)::l)|_,_=>ah
def mF (z:List Value):Bool:=z.all λv=>v.oneCell'
def IB:TypeDesc->Bool
 |.int _=>ai
 |.bool=>ai
 |.string=>ai
 |_=>aj
def rZ (P:Program):Nat→List Field→Option (List TypeDesc)
 |_,[]=>af []
 |k,f::r=>match P.underlying f.type,rZ P (k+1) r with
  |some d,af ds=>if f.name != "_" &&f.offset==k&&IB d then af (d::ds) else ah
  |_,_=>ah
def ab1 (P:Program) (t:TypeId):Option (List TypeDesc):=match P.underlying t with
 |some (.struct fs)=>if P.stoodInHeld t then ah else rZ P 0 fs.toList
 |_=>ah
def S7 (P:Program) (c:Call):Option ZJ:=
 match c.callee with
 |.builtin .len=>(match c.args.toList,c.argTypes.toList with
  |[x],[t]=>(match P.underlying t with
   |some (.slice _)=>af (.len x)
   |some .string=>af (.lens x)
   |some (.map _ _)=>af (.lenm x)
   |_=>ah)
  |_,_=>ah)
 |.builtin .max=>(match c.args.toList with
  |[x,y]=>af (.max x y)
  |_=>ah)
 |.builtin .min=>(match c.args.toList with
  |[x,y]=>af (.min x y)
  |_=>ah)
 |.builtin .copy=>(match c.args.toList,c.argTypes.toList with
  |[d,x],[t,u]=>(match Bf P t,Bf P u with
   |some el,af _=>(fw P el).bind λsz=>if sz !=0 then af (.copy sz d x) else ah
   |_,_=>ah)
  |_,_=>ah)
 |.builtin .clear=>(match c.args.toList,c.argTypes.toList with
  |[x],[t]=>(Bf P t).bind λel=>(tf P el).bind λz=>(fw P el).bind λsz=>if mF z&&z.length==sz&&sz !=0 then af (.clr sz z x) else ah
  |_,_=>ah)
 |.builtin .append=>(match c.args.toList,c.argTypes.toList with
  |[s,x],[t,u]=>(match Bf P t,Bf P u with
   |some el,af _=>(fw P el).bind λsz=>(Fw P el).bind λb=>(tf P el).bind λz=>if sz !=0&&z.length==sz then af (.app el sz b s x) else ah
   |_,_=>ah)
  |_,_=>ah)
 |_=>ah
def du (P:Program):Op->Option ZJ
 |.move x=>af (.mv x)
 |.assign x=>af (.mv x)
 |.pick c a b=>af (.pick c a b)
 |.alloc t=>(tf P t).bind λz=>if mF z then af (.alloc t z) else ah
 |.box t x=>af (.box t x)
 |.build t ps=>match P.underlying t with
  |some (.struct fs)=>(tf P t).bind λz=>if mF z&&(fs.toList.all λf=>(fw P f.type).isSome) then (xx P t ps.toList).map (.build z) else ah
  |some (.array _ el)=>(tf P t).bind λz=>if mF z&&(fw P el).isSome then (xx P t ps.toList).map (.build z) else ah
  |_=>ah
 |.buildSlice t n ps=>(Bf P t).bind λel=>(tf P el).bind λz=>(fw P el).bind λsz=>if mF z&&z.length==sz&&eK (n*sz) 65536&&sz !=0 then (xx P t ps.toList).map (.bsl el sz n z) else ah
 |.load t x=>(fw P t).bind λsz=>(Eb P t).map λag=>.load sz ag x
 |.store t x v=>(fw P t).map λsz=>.store sz x v
 |.nilCheck x=>af (.nilc x)
 |.binOp op t x y _=>match P.underlying t with
  |some (.int _)|some .string=>af (.bin op x y)
  |some .bool=>(match op with|.eql=>af (.eqb aj x y)|.neq=>af (.eqb ai x y)|_=>ah)
  |some (.slice _)=>(match op,y with
   |.eql,.const (.slice ah 0 0)=>af (.isnil aj x)
   |.neq,.const (.slice ah 0 0)=>af (.isnil ai x)
   |_,_=>ah)
  |some (.struct _)=>(ab1 P t).bind λds=>(match op with|.eql=>af (.eqs aj ds x y)|.neq=>af (.eqs ai ds x y)|_=>ah)
  |_=>ah
 |.unOp .not _ x=>af (.not x)
 |.unOp .neg t x=>match P.underlying t with|some (.int k)=>af (.bin .sub (.const (.int k 0)) x)|_=>ah
 |.convert s d x=>match P.underlying s,P.underlying d with|some (.int _),af (.int k)=>af (.conv k x)|_,_=>ah
 |.makeSlice t l c=>(Bf P t).bind λel=>(tf P el).bind λz=>(fw P el).bind λsz=>(Fw P el).bind λb=>if mF z&&z.length==sz&&sz !=0 then af (.mksl el sz b z l c) else ah
 |.slice t x lo hi mx=>(Bf P t).bind λel=>(fw P el).map λsz=>.slc sz x lo hi mx
 |.fieldAddr t x k=>match P.underlying t with
  |some (.struct fs)=>(fs[k]?).bind λf=>(fw P f.type).bind λsz=>if sz !=0 then af (.fad f.offset x) else ah
  |_=>ah
 |.field t x k=>match P.underlying t with
  |some (.struct fs)=>(fs[k]?).bind λf=>(fw P f.type).bind λsz=>(Eb P f.type).map λag=>.fld f.offset sz ag x
  |_=>ah
 |.indexAddr t x i=>match P.underlying t with
  |some (.slice el)=>(fw P el).map λsz=>.iad sz x i
  |some (.array n el)=>(fw P el).map λsz=>.iada n sz x i
  |_=>ah
 |.index t x i=>match P.underlying t with
  |some (.array n el)=>(fw P el).bind λsz=>(Eb P el).map λag=>.idx n sz ag x i
  |some .string=>af (.sidx x i)
  |_=>ah
 |.extract x i=>af (.ext x i)
 |.makeFunc (.func f) first caps=>if first.isEmpty then af (.mkf f caps.toList) else ah
 |.makeMap t ah=>match P.underlying t with|some (.map _ _)=>af .mkm|_=>ah
 |.lookup t x k ok=>match P.underlying t with
  |some (.map I el)=>(match P.underlying I,(P.info? el).bind (·.zero) with
   |some (.int _),af z=>if z.oneCell' then af (.lku aj ok z x k) else ah
   |some .string,af z=>if z.oneCell' then af (.lku ai ok z x k) else ah
   |_,_=>ah)
  |_=>ah
 |.mapUpdate t m k v=>match P.underlying t with
  |some (.map I _)=>(match P.underlying I with
   |some (.int _)=>af (.mup aj m k v)
   |some .string=>af (.mup ai m k v)
   |_=>ah)
  |_=>ah
 |.range t x=>match P.underlying t with|some .string=>af (.rng x)|_=>ah
 |.next x ai=>af (.nxt x)
 |.call c=>S7 P c
 |_=>ah
def PK:Op->Option SI
 |.call c=>(match c.callee with
  |.value (.func f)=>af (.call f c.args.toList)
  |.value (.tmp t)=>af (.callv (.tmp t) c.args.toList)
  |_=>ah)
 |_=>ah
def yG (P:Program) (op:Op):SI:=match PK op with
 |some i=>i
 |none=>(match du P op with|some s=>.op s|none=>.op .bad)
def ZJ.still:ZJ->Bool
 |.mv _|.pick _ _ _|.build _ _|.nilc _|.bin _ _ _|.eqs _ _ _ _|.isnil _ _|.eqb _ _ _|.not _|.conv _ _|.fad _ _|.fld _ _ _ _|.iad _ _ _|.iada _ _ _ _|.idx _ _ _ _ _|.ext _ _|.max _ _|.min _ _|.sidx _ _|.mkf _ _|.bad=>ai
 |_=>aj
def SI.still:SI->Bool
 |.op s=>s.still
 |_=>aj
def sg (P:Program) (ops:Array Oper):List Oper->Option (List sQ)
 |[]=>af []
 |o::r=>match sg P ops r with
  |some l=>(match o.guard with
   |none=>af (⟨o.dst,yG P o.op,ah⟩::l)
   |some (j,want)=>(match (ops[j]?).bind (·.dst) with
    |some t=>af (⟨o.dst,yG P o.op,af (t,want)⟩::l)
    |none=>ah))
  |none=>ah
def MT (ops:Array Oper) (l:List sQ):Option (List (Nat×Nat)):=
 let B:=KQ ops.toList []
 if (cS ops.size).all λj=>((ops[j]?).all λoj=>oj.after.toList.all λe=> !Ag .any e||decide (e.on<j))&&
     (cS j).all λi=>aN (B.getD j 0) i||(match ops[i]?,ops[j]? with|some oi,af oj=>oi.apart ops oj|_,_=>aj)
 then af ((cS ops.size).flatMap λj=>(cS j).filterMap λi=>
  if aN (B.getD j 0) i||(match l[i]?,l[j]? with|some a,af b=>a.op.still||b.op.still|_,_=>aj) then ah else af (i,j))
 else ah
def DV (ops:Array Oper) (I:Bool):Option (FuncId×List Operand×Nat):=match ops.toList,I with
 |[p,q],aj=>(match p.op,p.guard,p.dst,q.op,q.guard,q.dst with
  |.makeFunc (.func f) first caps,ah,af t,.defer c,ah,ah=>(match c.callee,c.args.toList with
   |.value (.tmp t'),[]=>if aC t t'&&first.isEmpty then af (f,caps.toList,t) else ah
   |_,_=>ah)
  |_,_,_,_,_,_=>ah)
 |_,_=>ah
def ct (P:Program) (nt:Nat):Code->SC
 |.skip=>.skip
 |.region _ ops I=>if ops.toList.all λo=>match o.dst with|some d=>decide (d<nt)|none=>ai then
   (match DV ops I with
   |some (f,caps,t)=>.defer f caps t
   |none=>(match sg P ops ops.toList with
    |some l=>(match MT ops l with|some prs=>.reg l prs|none=>.bad)
    |none=>.bad)) else .bad
 |.seq a b=>.seq (ct P nt a) (ct P nt b)
 |.cond (.tmp c) a b=>.cond c (ct P nt a) (ct P nt b)
 |.cond (.const (.bool ai)) a _=>ct P nt a
 |.cond (.const (.bool aj)) _ b=>ct P nt b
 |.block id b=>.block id (ct P nt b)
 |.loop b=>.loop (ct P nt b)
 |.exit id=>.exit id
 |.ret=>.ret
 |_=>.bad
def vG (P:Program):List ResultVar->Option (List RV)
 |[]=>af []
 |.tmp t::r=>match vG P r with|some l=>af (.tmp t::l)|none=>ah
 |.cell a t::r=>match vG P r,fw P t,Eb P t with|some l,af sz,af ag=>af (.cell a sz ag::l)|_,_,_=>ah
def zW (P:Program) (f:FuncId):Option SF:=
 match P.funcs[f]? with
 |some fn=>if fn.name== "runtime.NumGoroutine" then ah else (match fn.body,vG P fn.results.toList with
  |some c,af r=>af ⟨ct P fn.ntmps c,r,fn.ntmps⟩
  |_,_=>ah)
 |none=>ah
inductive Xp where
 |mk (op n:Int) (name:List UInt8) (l:List Xp)
inductive Sx where
 |mk (op line:Int) (name arg:List UInt8) (index:List Xp) (expr:Xp) (body els:List Sx)
def Xp.op:Xp->Int|.mk a _ _ _=>a
def Xp.n:Xp->Int|.mk _ a _ _=>a
def Xp.name:Xp->List UInt8|.mk _ _ a _=>a
def Xp.l:Xp->List Xp|.mk _ _ _ a=>a
def Sx.op:Sx->Int|.mk a _ _ _ _ _ _ _=>a
def Sx.line:Sx->Int|.mk _ a _ _ _ _ _ _=>a
def Sx.name:Sx->List UInt8|.mk _ _ a _ _ _ _ _=>a
def Sx.arg:Sx->List UInt8|.mk _ _ _ a _ _ _ _=>a
def Sx.index:Sx->List Xp|.mk _ _ _ _ a _ _ _=>a
def Sx.expr:Sx->Xp|.mk _ _ _ _ _ a _ _=>a
def Sx.body:Sx->List Sx|.mk _ _ _ _ _ _ a _=>a
def Sx.els:Sx->List Sx|.mk _ _ _ _ _ _ _ a=>a
inductive Ty where
 |int (k:IntKind)
 |bool
 |str
 |sl (t:Ty)
 |st (t:Ty)
 |pr (a b:Ty)
 |un
 |ex
 |sm
 deriving DecidableEq
@[reducible] def Ty.den:Ty->Type
  |.int _=>Int
  |.bool=>Bool
  |.str=>List UInt8
  |.sl t=>List t.den
  |.st t=>t.den
  |.pr a b=>a.den×b.den
  |.un=>Unit
  |.ex=>Xp
  |.sm=>Sx
def Ty.size:Ty->Nat
 |.st t=>t.size
 |.pr a b=>a.size+b.size
 |.un=>0
 |.ex=>4
 |.sm=>11
 |_=>1
def Ty.zero:(t:Ty)->t.den
 |.int _=>(0:Int)
 |.bool=>aj
 |.str=>[]
 |.sl _=>[]
 |.st t=>t.zero
 |.pr a b=>(a.zero,b.zero)
 |.un=>()
 |.ex=>.mk 0 0 [] []
 |.sm=>.mk 0 0 [] [] [] (.mk 0 0 [] []) [] []
def Ty.one:Ty->Bool
 |.int _=>ai
 |.bool=>ai
 |.str=>ai
 |.sl _=>ai
 |_=>aj
def Nd:Ty:=.pr (.int .i64) (.pr (.int .i64) (.pr .str (.sl .ex)))
def MO:Ty:=.pr (.int .i64) (.pr (.int .i64) (.pr .str (.pr .str (.pr (.sl .ex) (.pr .ex (.pr (.sl .sm) (.sl .sm)))))))
def N9 (e:Xp):Nd.den:=(e.op,e.n,e.name,e.l)
def ec (x:Nd.den):Xp:=.mk x.1 x.2.1 x.2.2.1 x.2.2.2
def N8 (e:Sx):MO.den:=(e.op,e.line,e.name,e.arg,e.index,e.expr,e.body,e.els)
def nP (x:MO.den):Sx:=.mk x.1 x.2.1 x.2.2.1 x.2.2.2.1 x.2.2.2.2.1 x.2.2.2.2.2.1 x.2.2.2.2.2.2.1 x.2.2.2.2.2.2.2
mutual
def wT:Xp->List FV
 |.mk op n name l=>[.raw (.int .i64 op),.raw (.int .i64 n),.raw (.string ⟨name.toArray⟩),.sl (JN l) l.length]
def JN:List Xp->List FV
 |[]=>[]
 |x::r=>wT x++JN r
end
mutual
def yp:Sx->List FV
 |.mk op line name arg index expr body els=>[.raw (.int .i64 op),.raw (.int .i64 line),.raw (.string ⟨name.toArray⟩),.raw (.string ⟨arg.toArray⟩),.sl (JN index) index.length]++wT expr++[.sl (JM body) body.length,.sl (JM els) els.length]
def JM:List Sx->List FV
 |[]=>[]
 |x::r=>yp x++JM r
end
def bT:(T:Ty)->T.den->List FV
 |.int k,n=>[.raw (.int k n)]
 |.bool,b=>[.raw (.bool b)]
 |.str,s=>[.raw (.string ⟨s.toArray⟩)]
 |.sl t,xs=>[.sl (List.flatMap (bT t) xs) (al xs)]
 |.st t,v=>bT t v
 |.pr a b,v=>bT a v.1++bT b v.2
 |.un,_=>[]
 |.ex,v=>wT v
 |.sm,v=>yp v
def gL:(T:Ty)->T.den->FV
 |.int k,n=>.raw (.int k n)
 |.bool,b=>.raw (.bool b)
 |.str,s=>.raw (.string ⟨s.toArray⟩)
 |.sl t,xs=>.sl (List.flatMap (bT t) xs) (al xs)
 |.st t,v=>.agg (bT t v)
 |.pr a b,v=>.agg (bT a v.1++bT b v.2)
 |.un,_=>.agg []
 |.ex,v=>.agg (wT v)
 |.sm,v=>.agg (yp v)
def Ng:(T:Ty)->T.den->T.den->Bool
 |.int _,a,b=>decide ((a:Int)=b)
 |.bool,a,b=>(a:Bool)==b
 |.str,a,b=>decide ((a:List UInt8)=b)
 |.st t,a,b=>Ng t a b
 |.pr x y,a,b=>Ng x a.1 b.1&&Ng y a.2 b.2
 |_,_,_=>ai
def xa {S:Ty} (T:Ty) (v:S.den):Option T.den:=if h:S=T then af (h▸v) else ah
def fc (j:Int) (n:Nat):Bool:=c8 0 j&&fR j n
def aK {T:Ty} (xs:List T.den) (j:Int):T.den:=xs.getD j.toNat T.zero
def cQ {α:Type} (xs:List α) (j:Int) (x:α):List α:=xs.set j.toNat x
def Ua {α:Type} (xs I:List α):List α:=I.take xs.length++xs.drop I.length
def iE (a b:Int):Int:=if fR a b then b else a
def Hh (a b:Int):Int:=if fR b a then b else a
def AD (s:List UInt8) (j:Int):Int:=aP (s.getD j.toNat 0).toNat
def bcase {R:Type} (b:Bool) (t f:Option R):Option R:=match b with|true=>t|false=>f
def chk {R:Type} (b:Bool) (k:b=ai->Option R):Option R:=match b,k with|true,k=>k rfl|false,_=>ah
open Classical in
def Fx {R:Type} (a b:Option R):Option R:=if a=b then a else ah
open Classical in
def same {α R:Type} (a b:α) (r:Option R):Option R:=if a=b then r else ah
def obind {α R:Type} (o:Option α) (k:α->Option R):Option R:=match o with|some x=>k x|none=>ah
def lt {α R:Type} (x:α) (k:α->Option R):Option R:=k x
def jn {α R:Type} (o:Option (R⊕α)) (k:α->Option R):Option R:=match o with|some (.inr x)=>k x|some (.inl r)=>af r|none=>ah
def iterN {σ R:Type} (step:σ->Option (σ⊕R)):Nat->σ->Option R
 |0,_=>ah
 |n+1,x=>match step x with
  |some (.inl y)=>iterN step n y
  |some (.inr r)=>af r
  |none=>ah
open Classical in
def iter {σ R:Type} (step:σ->Option (σ⊕R)) (x:σ):Option R:=
 if h:∃ n,(iterN step n x).isSome=ai then iterN step (Classical.choose h) x else ah
def gg {σ R:Type} (step:σ->Option (σ⊕R)) (x:σ):Option R:=iterN step 18446744073709551616 x
abbrev yR:Type 1:=∀ σ R:Type,(σ->Option (σ⊕R))->σ->Option R
def lh {R:Type} (a b:Option R):Prop:=∀ y,a=af y->b=af y
theorem lh.rfl {R:Type} {a:Option R}:lh a a:=λ_ h=>h
theorem lh.bcase {R:Type} {b:Bool} {t f t' f':Option R} (h1:lh t t') (h2:lh f f'):lh (AI.bcase b t f) (AI.bcase b t' f'):=by cases b<;>assumption
theorem lh.chk {R:Type} {b:Bool} {k k':Option R} (h:lh k k'):lh (AI.chk b λ_=>k) (AI.chk b λ_=>k'):=by
 cases b with
 |true=>exact h
 |false=>exact λ_ h=>by cases h
theorem lh.obind {α R:Type} {o o':Option α} {k k':α->Option R} (h:lh o o') (hk:∀ x,lh (k x) (k' x)):lh (AI.obind o k) (AI.obind o' k'):=by
 intro y I;cases o with
 |none=>cases I
 |some x=>rw[h x (by exact Eq.refl _)];exact hk x y I
theorem lh.lt {α R:Type} {x:α} {k k':α->Option R} (h:∀ y,lh (k y) (k' y)):lh (AI.lt x k) (AI.lt x k'):=h x
theorem lh.jn {α R:Type} {o o':Option (R⊕α)} {k k':α->Option R} (h:lh o o') (hk:∀ x,lh (k x) (k' x)):lh (AI.jn o k) (AI.jn o' k'):=by
 intro y I;cases o with
 |none=>cases I
 |some x=>
  rw[h x (by exact Eq.refl _)];cases x with
  |inl r=>exact I
  |inr a=>exact hk a y I
theorem lh.iterN {σ R:Type} {f g:σ->Option (σ⊕R)} (h:∀ x,lh (f x) (g x)):∀ (n:Nat) (x:σ),lh (AI.iterN f n x) (AI.iterN g n x)
 |0,_=>λ_ h=>by cases h
 |n+1,x=>by
  intro y I;cases hf:f x with
  |none=>rw[AI.iterN,hf] at I;cases I
  |some s=>
   rw[AI.iterN,hf] at I;rw[AI.iterN,h x s hf];cases s with
   |inl z=>exact lh.iterN h n z y I
   |inr r=>exact I
theorem I3 {σ R:Type} {f:σ->Option (σ⊕R)}:∀ {n:Nat} {x:σ} {r:R},iterN f n x=af r->iterN f (n+1) x=af r
 |0,x,r,h=>by cases h
 |n+1,x,r,h=>by
  cases hf:f x with
  |none=>rw[iterN,hf] at h;cases h
  |some s=>
   cases s with
   |inl y=>rw[iterN,hf] at h;rw[iterN,hf];exact I3 h
   |inr q=>rw[iterN,hf] at h;rw[iterN,hf];exact h
theorem zk {σ R:Type} {f:σ->Option (σ⊕R)} {n m:Nat} {x:σ} {r:R} (h:iterN f n x=af r) (hle:n<=m):iterN f m x=af r:=by
 induction hle with
 |refl=>exact h
 |step _ I=>exact I3 I
theorem zj {σ R:Type} {f:σ->Option (σ⊕R)} {n:Nat} {x:σ} {r:R} (h:iterN f n x=af r):iter f x=af r:=by
 have J:∃ n,(iterN f n x).isSome=ai:=⟨n,by rw[h];exact Eq.refl _⟩
 unfold iter;rw[dif_pos J];have hc:=Classical.choose_spec J;obtain⟨M,I⟩:=iN.1 hc;rw[I];rcases Nat.le_total n (Classical.choose J) with hl|hl
 .rw[zk h hl] at I;exact I.symm
 .rw[zk I hl] at h;exact h
theorem lh.iter {σ R:Type} {f g:σ->Option (σ⊕R)} {x:σ} (h:∀ x,lh (f x) (g x)):lh (gg f x) (AI.iter g x):=λy I=>zj (lh.iterN h _ x y I)
def orE {R:Type} (a b:Option R):Option R:=match a with|some y=>af y|none=>b
def fuel:Nat:=Classical.choose (⟨100000,rfl⟩:∃ n:Nat,n=100000)
theorem jQ:fuel=100000:=Classical.choose_spec (⟨100000,rfl⟩:∃ n:Nat,n=100000)
def Ha (a:Ty):Ty->Ty
 |.un=>a
 |.int k=>.pr a (.int k)
 |.bool=>.pr a .bool
 |.str=>.pr a .str
 |.sl t=>.pr a (.sl t)
 |.st t=>.pr a (.st t)
 |.pr x y=>.pr a (.pr x y)
 |.ex=>.pr a .ex
 |.sm=>.pr a .sm
def spr:Ty->Ty->Ty
 |.un,b=>b
 |.int k,b=>Ha (.int k) b
 |.bool,b=>Ha .bool b
 |.str,b=>Ha .str b
 |.sl t,b=>Ha (.sl t) b
 |.st t,b=>Ha (.st t) b
 |.pr x y,b=>Ha (.pr x y) b
 |.ex,b=>Ha .ex b
 |.sm,b=>Ha .sm b
def QX (a:Ty):(b:Ty)->a.den->b.den->(Ha a b).den
 |.un,x,_=>x
 |.int _,x,y=>(x,y)
 |.bool,x,y=>(x,y)
 |.str,x,y=>(x,y)
 |.sl _,x,y=>(x,y)
 |.st _,x,y=>(x,y)
 |.pr _ _,x,y=>(x,y)
 |.ex,x,y=>(x,y)
 |.sm,x,y=>(x,y)
def fsN (a:Ty):(b:Ty)->(Ha a b).den->a.den
 |.un,z=>z
 |.int _,z=>z.1
 |.bool,z=>z.1
 |.str,z=>z.1
 |.sl _,z=>z.1
 |.st _,z=>z.1
 |.pr _ _,z=>z.1
 |.ex,z=>z.1
 |.sm,z=>z.1
def snN (a:Ty):(b:Ty)->(Ha a b).den->b.den
 |.un,_=>()
 |.int _,z=>z.2
 |.bool,z=>z.2
 |.str,z=>z.2
 |.sl _,z=>z.2
 |.st _,z=>z.2
 |.pr _ _,z=>z.2
 |.ex,z=>z.2
 |.sm,z=>z.2
def UH:(a b:Ty)->a.den->b.den->(spr a b).den
 |.un,_,_,y=>y
 |.int k,b,x,y=>QX (.int k) b x y
 |.bool,b,x,y=>QX .bool b x y
 |.str,b,x,y=>QX .str b x y
 |.sl t,b,x,y=>QX (.sl t) b x y
 |.st t,b,x,y=>QX (.st t) b x y
 |.pr u v,b,x,y=>QX (.pr u v) b x y
 |.ex,b,x,y=>QX .ex b x y
 |.sm,b,x,y=>QX .sm b x y
def O5:(a b:Ty)->(spr a b).den->a.den
 |.un,_,_=>()
 |.int k,b,z=>fsN (.int k) b z
 |.bool,b,z=>fsN .bool b z
 |.str,b,z=>fsN .str b z
 |.sl t,b,z=>fsN (.sl t) b z
 |.st t,b,z=>fsN (.st t) b z
 |.pr u v,b,z=>fsN (.pr u v) b z
 |.ex,b,z=>fsN .ex b z
 |.sm,b,z=>fsN .sm b z
def Lu:(a b:Ty)->(spr a b).den->b.den
 |.un,_,z=>z
 |.int k,b,z=>snN (.int k) b z
 |.bool,b,z=>snN .bool b z
 |.str,b,z=>snN .str b z
 |.sl t,b,z=>snN (.sl t) b z
 |.st t,b,z=>snN (.st t) b z
 |.pr u v,b,z=>snN (.pr u v) b z
 |.ex,b,z=>snN .ex b z
 |.sm,b,z=>snN .sm b z
theorem tQ (a b:Ty) (x:a.den) (y:b.den):O5 a b (UH a b x y)=x:=by cases a<;>cases b<;>rfl
theorem vk (a b:Ty) (x:a.den) (y:b.den):Lu a b (UH a b x y)=y:=by cases a<;>cases b<;>rfl
inductive TV where
 |f (T:Ty) (v:T.den)
 |fel (T:Ty) (xs:List T.den) (j:Int) (h:fc j xs.length=ai) (off:Nat)
 |pel (id sz:Nat) (j:Int) (off:Nat)
 |ptr (id off:Nat)
 |row (id:Nat)
 |csl (id sz n:Nat)
 |emp
 |nil
 |mp (id:Nat)
 |agg (l:List TV)
 |tup (l:List TV)
 |clo (g:FuncId) (l:List TV)
 |undef
 |np
 |anyb
 |rtl (id:Nat) (j:Int)
inductive iw where
 |rows (ty:TypeId) (p:Bool) (T:Ty) (xs:List T.den)
 |cells (ty:TypeId) (l:List TV)
 |dead (p:Bool) (sz n:Nat)
 |mp (K V:Ty) (es:List (K.den×V.den))
abbrev iP:=PT TV
abbrev bl:=PT iw
def cst:Value->Option TV
 |.int k n=>af (.f (.int k) n)
 |.bool b=>af (.f .bool b)
 |.string s=>af (.f .str s.data.toList)
 |.slice ah 0 0=>af .nil
 |.pointer ah=>af .np
 |_=>ah
def Kp:List Value->Option (List TV)
 |[]=>af []
 |v::r=>match cst v,Kp r with|some x,af l=>af (x::l)|_,_=>ah
def ajn:Value->Option TV
 |.agg vs=>if KL vs.toList then (match Kp vs.toList with|some l=>af (.agg l)|none=>ah) else ah
 |v=>cst v
def cellsOf:Nat->(T:Ty)->T.den->Option (List TV)
 |0,_,_=>ah
 |n+1,.st t,v=>cellsOf n t v
 |n+1,.pr a b,v=>match cellsOf n a v.1,cellsOf n b v.2 with|some x,af y=>af (x++y)|_,_=>ah
 |_+1,.un,_=>af []
 |n+1,.ex,v=>cellsOf n Nd (N9 v)
 |n+1,.sm,v=>cellsOf n MO (N8 v)
 |_+1,.int k,v=>af [.f (.int k) v]
 |_+1,.bool,v=>af [.f .bool v]
 |_+1,.str,v=>af [.f .str v]
 |_+1,.sl t,v=>af [.f (.sl t) v]
def TV.isC:TV->Bool
 |.f T _=>T.one
 |.fel _ _ _ _ _=>ai
 |.pel _ _ _ _=>ai
 |.ptr _ _=>ai
 |.row _=>ai
 |.csl _ _ _=>ai
 |.emp=>ai
 |.nil=>ai
 |.np=>ai
 |.mp _=>ai
 |.clo _ _=>ai
 |_=>aj
def kx:List TV->Bool
 |[]=>ai
 |x::r=>x.isC&&kx r
def TV.cs (v:TV):Option (List TV):=match v with
 |.agg l=>if kx l then af l else ah
 |.f T x=>cellsOf 40 T x
 |x=>if x.isC then af [x] else ah
def kQ (i:Nat):Nat:=1<<<i
def iL (h:bl) (T:Ty):TV->Option (T.den×Nat)
 |.f _ v=>match xa T v with|some x=>af (x,0)|none=>ah
 |.emp=>(match T with|.sl _=>af ([],0)|_=>ah)
 |.nil=>(match T with|.sl _=>af ([],0)|_=>ah)
 |.row id=>match h.get id with
  |some (.rows _ _ S xs)=>(match xa (S:=.sl S) T xs with|some x=>af (x,kQ id)|none=>ah)
  |_=>ah
 |_=>ah
def eY (h:bl):Nat->(T:Ty)->List TV->Option (T.den×Nat×List TV)
 |0,_,_=>ah
 |n+1,.st t,l=>eY h n t l
 |n+1,.pr a b,l=>match eY h n a l with
  |some (x,m,r)=>(match eY h n b r with|some (y,m',I)=>af ((x,y),m|||m',I)|none=>ah)
  |none=>ah
 |_+1,.un,l=>af ((),0,l)
 |n+1,.ex,l=>match eY h n Nd l with|some (x,m,r)=>af (ec x,m,r)|none=>ah
 |n+1,.sm,l=>match eY h n MO l with|some (x,m,r)=>af (nP x,m,r)|none=>ah
 |_+1,.int k,l=>match l with|c::r=>(match iL h (.int k) c with|some (x,m)=>af (x,m,r)|none=>ah)|[]=>ah
 |_+1,.bool,l=>match l with|c::r=>(match iL h .bool c with|some (x,m)=>af (x,m,r)|none=>ah)|[]=>ah
 |_+1,.str,l=>match l with|c::r=>(match iL h .str c with|some (x,m)=>af (x,m,r)|none=>ah)|[]=>ah
 |_+1,.sl t,l=>match l with|c::r=>(match iL h (.sl t) c with|some (x,m)=>af (x,m,r)|none=>ah)|[]=>ah
def D' (h:bl) (T:Ty) (v:TV):Option (T.den×Nat):=match v with
 |.agg l=>if T.one then ah else (match eY h 40 T l with|some (x,m,[])=>af (x,m)|_=>ah)
 |x=>iL h T x
def oe:Nat->(T:Ty)->T.den->Nat->Nat->Bool->Option TV
 |0,_,_,_,_,_=>ah
 |n+1,.st t,v,off,sz,ag=>if aC off 0&&aC sz t.size&&ag then af (.f (.st t) v) else oe n t v off sz ag
 |n+1,.pr a b,v,off,sz,ag=>if gq off a.size then oe n a v.1 off sz ag else oe n b v.2 (off-a.size) sz ag
 |_+1,.un,_,_,_,_=>ah
 |n+1,.ex,v,off,sz,ag=>if aC off 0&&aC sz 4&&ag then af (.f .ex v) else oe n Nd (N9 v) off sz ag
 |n+1,.sm,v,off,sz,ag=>if aC off 0&&aC sz 11&&ag then af (.f .sm v) else oe n MO (N8 v) off sz ag
 |_+1,.int k,v,off,sz,ag=>if aC off 0&&aC sz 1&& !ag then af (.f (.int k) v) else ah
 |_+1,.bool,v,off,sz,ag=>if aC off 0&&aC sz 1&& !ag then af (.f .bool v) else ah
 |_+1,.str,v,off,sz,ag=>if aC off 0&&aC sz 1&& !ag then af (.f .str v) else ah
 |_+1,.sl t,v,off,sz,ag=>if aC off 0&&aC sz 1&& !ag then af (.f (.sl t) v) else ah
def gV (h:bl) (x:TV):Nat->(T:Ty)->T.den->Nat->Nat->Option (T.den×Nat)
 |0,_,_,_,_=>ah
 |n+1,.st t,v,off,sz=>match (if aC off 0&&aC sz t.size then D' h (.st t) x else ah) with
  |some y=>af y
  |none=>gV h x n t v off sz
 |n+1,.pr a b,v,off,sz=>if gq off a.size then (match gV h x n a v.1 off sz with|some (y,m)=>af ((y,v.2),m)|none=>ah) else (match gV h x n b v.2 (off-a.size) sz with|some (y,m)=>af ((v.1,y),m)|none=>ah)
 |_+1,.un,_,_,_=>ah
 |n+1,.ex,v,off,sz=>match (if aC off 0&&aC sz 4 then D' h .ex x else ah) with
  |some y=>af y
  |none=>(match gV h x n Nd (N9 v) off sz with|some (y,m)=>af (ec y,m)|none=>ah)
 |n+1,.sm,v,off,sz=>match (if aC off 0&&aC sz 11 then D' h .sm x else ah) with
  |some y=>af y
  |none=>(match gV h x n MO (N8 v) off sz with|some (y,m)=>af (nP y,m)|none=>ah)
 |_+1,.int k,_,off,sz=>if aC off 0&&aC sz 1 then iL h (.int k) x else ah
 |_+1,.bool,_,off,sz=>if aC off 0&&aC sz 1 then iL h .bool x else ah
 |_+1,.str,_,off,sz=>if aC off 0&&aC sz 1 then iL h .str x else ah
 |_+1,.sl t,_,off,sz=>if aC off 0&&aC sz 1 then iL h (.sl t) x else ah
def yX (h:bl) (T:Ty):Nat->List TV->Option (List T.den×Nat)
 |0,[]=>af ([],0)
 |0,_::_=>ah
 |n+1,l=>match eY h 40 T l with
  |some (x,m,r)=>(match yX h T n r with|some (xs,m')=>af (x::xs,m|||m')|none=>ah)
  |none=>ah
def s_:Ty->List Value
 |.int k=>[.int k 0]
 |.bool=>[.bool aj]
 |.str=>[.string ⟨#[]⟩]
 |.sl _=>[.slice ah 0 0]
 |.st t=>s_ t
 |.pr a b=>s_ a++s_ b
 |.un=>[]
 |.ex=>[.int .i64 0,.int .i64 0,.string ⟨#[]⟩,.slice ah 0 0]
 |.sm=>[.int .i64 0,.int .i64 0,.string ⟨#[]⟩,.string ⟨#[]⟩,.slice ah 0 0,.int .i64 0,.int .i64 0,.string ⟨#[]⟩,.slice ah 0 0,.slice ah 0 0,.slice ah 0 0]
def Te:List Value->List Value->Bool
 |[],[]=>ai
 |x::xs,y::I=>ajv x y&&Te xs I
 |_,_=>aj
def Ty.flat:Ty->Bool
 |.int _=>ai
 |.bool=>ai
 |.str=>ai
 |.st t=>t.flat
 |.pr a b=>a.flat&&b.flat
 |.un=>ai
 |_=>aj
def rf:List TypeDesc->Option Ty
 |[]=>af .un
 |.int k::r=>match rf r with|some t=>af (.pr (.int k) t)|none=>ah
 |.bool::r=>match rf r with|some t=>af (.pr .bool t)|none=>ah
 |.string::r=>match rf r with|some t=>af (.pr .str t)|none=>ah
 |_=>ah
inductive PV where
 |d (T:Ty)
 |ptr (id off:Nat)
 |row (id:Nat)
 |csl (id sz n:Nat)
 |mp (id:Nat)
 |nil
 |emp
 |clo (q:FuncId) (id off:Nat)
 |agg (l:List PV)
inductive PB where
 |rows (ty:TypeId) (p:Bool) (T:Ty)
 |rowsP (ty:TypeId) (T:Ty)
 |cells (ty:TypeId) (l:List PV)
 |mp (K V:Ty)
 |gone
mutual
def PV.ty:PV->Ty
 |.d T=>T
 |.agg l=>PV.tyL l
 |.ptr _ _=>.un
 |.row _=>.un
 |.csl _ _ _=>.un
 |.clo _ _ _=>.un
 |.mp _=>.un
 |.nil=>.un
 |.emp=>.un
def PV.tyL:List PV->Ty
 |[]=>.un
 |p::r=>spr p.ty (PV.tyL r)
end
def PB.ty:PB->Ty
 |.rows _ _ T=>.sl T
 |.rowsP _ T=>.pr .bool (.sl T)
 |.cells _ l=>PV.tyL l
 |.mp K V=>.sl (.pr K V)
 |.gone=>.un
def PB.tyL:List PB->Ty
 |[]=>.un
 |p::r=>spr p.ty (PB.tyL r)
structure Tm where
 vs:List PV
 bs:List PB
def Tm.ty (t:Tm):Ty:=spr (PV.tyL t.vs) (PB.tyL t.bs)
mutual
def py (g:Nat->Nat) (h:bl):(p:PV)->List TV->Option (p.ty.den×Nat×List TV)
 |.d T,l=>eY h 40 T l
 |.ptr i o,l=>match l with|.ptr i' o'::r=>if aC (g i) i'&&aC o o' then af ((),0,r) else ah|_=>ah
 |.row i,l=>match l with|.row i'::r=>if aC (g i) i' then af ((),0,r) else ah|_=>ah
 |.csl i s n,l=>match l with|.csl i' s' n'::r=>if aC (g i) i'&&aC s s'&&aC n n' then af ((),0,r) else ah|_=>ah
 |.clo q i o,l=>match l with|.clo q' [.ptr i' o']::r=>if aC q q'&&aC (g i) i'&&aC o o' then af ((),0,r) else ah|_=>ah
 |.mp i,l=>match l with|.mp i'::r=>if aC (g i) i' then af ((),0,r) else ah|_=>ah
 |.nil,l=>match l with|.nil::r=>af ((),0,r)|_=>ah
 |.emp,l=>match l with|.nil::r=>af ((),0,r)|.emp::r=>af ((),0,r)|_=>ah
 |.agg ps,l=>zw g h ps l
def zw (g:Nat->Nat) (h:bl):(ps:List PV)->List TV->Option ((PV.tyL ps).den×Nat×List TV)
 |[],l=>af ((),0,l)
 |p::r,l=>match py g h p l with
  |some (x,m,l')=>(match zw g h r l' with|some (y,m',l'')=>af (UH p.ty (PV.tyL r) x y,m|||m',l'')|none=>ah)
  |none=>ah
end
def xK (g:Nat->Nat) (h:bl):(p:PV)->TV->Option (p.ty.den×Nat)
 |.d T,v=>D' h T v
 |.agg ps,v=>if v.isC then ah else (match v.cs with
  |some l=>(match zw g h ps l with|some (x,m,[])=>af (x,m)|_=>ah)
  |none=>ah)
 |.ptr i o,v=>match py g h (.ptr i o) [v] with|some (x,m,_)=>af (x,m)|none=>ah
 |.row i,v=>match py g h (.row i) [v] with|some (x,m,_)=>af (x,m)|none=>ah
 |.csl i s n,v=>match py g h (.csl i s n) [v] with|some (x,m,_)=>af (x,m)|none=>ah
 |.clo q i o,v=>match py g h (.clo q i o) [v] with|some (x,m,_)=>af (x,m)|none=>ah
 |.mp i,v=>match py g h (.mp i) [v] with|some (x,m,_)=>af (x,m)|none=>ah
 |.nil,v=>match py g h .nil [v] with|some (x,m,_)=>af (x,m)|none=>ah
 |.emp,v=>match py g h .emp [v] with|some (x,m,_)=>af (x,m)|none=>ah
def yl (g:Nat->Nat) (h:bl):(ps:List PV)->List TV->Option ((PV.tyL ps).den×Nat)
 |[],[]=>af ((),0)
 |p::r,v::vs=>match xK g h p v with
  |some (x,m)=>(match yl g h r vs with|some (y,m')=>af (UH p.ty (PV.tyL r) x y,m|||m')|none=>ah)
  |none=>ah
 |[],_::_=>ah
 |_::_,[]=>ah
def Fb (g:Nat->Nat) (h:bl) (i:Nat):(b:PB)->Option (b.ty.den×Nat)
 |.rows ty p T=>match h.get (g i) with
  |some (.rows ty' I S xs)=>if ty==ty'&&p==I then (match xa (S:=.sl S) (.sl T) xs with|some x=>af (x,0)|none=>ah) else ah
  |_=>ah
 |.rowsP ty T=>match h.get (g i) with
  |some (.rows ty' I S xs)=>if ty==ty' then (match xa (S:=.sl S) (.sl T) xs with|some x=>af ((I,x),0)|none=>ah) else ah
  |_=>ah
 |.cells ty ps=>match h.get (g i) with
  |some (.cells ty' l)=>if ty==ty' then (match zw g h ps l with|some (x,m,[])=>af (x,m)|_=>ah) else ah
  |_=>ah
 |.mp K V=>match h.get (g i) with
  |some (.mp K' V' es)=>(match xa (S:=.sl (.pr K' V')) (.sl (.pr K V)) es with|some x=>af (x,0)|none=>ah)
  |_=>ah
 |.gone=>af ((),0)
def Be (g:Nat->Nat) (h:bl):Nat->(bs:List PB)->Option ((PB.tyL bs).den×Nat)
 |_,[]=>af ((),0)
 |i,b::r=>match Fb g h i b with
  |some (x,m)=>(match Be g h (i+1) r with|some (y,m')=>af (UH b.ty (PB.tyL r) x y,m|||m')|none=>ah)
  |none=>ah
mutual
def pY (g:Nat->Nat):(p:PV)->p.ty.den->Option (List TV)
 |.d T,x=>cellsOf 40 T x
 |.ptr i o,_=>af [.ptr (g i) o]
 |.row i,_=>af [.row (g i)]
 |.csl i s n,_=>af [.csl (g i) s n]
 |.mp i,_=>af [.mp (g i)]
 |.clo q i o,_=>af [.clo q [.ptr (g i) o]]
 |.nil,_=>af [.nil]
 |.emp,_=>af [.emp]
 |.agg ps,x=>re g ps x
def re (g:Nat->Nat):(ps:List PV)->(PV.tyL ps).den->Option (List TV)
 |[],_=>af []
 |p::r,x=>match pY g p (O5 p.ty (PV.tyL r) x) with
  |some a=>(match re g r (Lu p.ty (PV.tyL r) x) with|some b=>af (a++b)|none=>ah)
  |none=>ah
end
def tI (g:Nat->Nat):(p:PV)->p.ty.den->Option TV
 |.d T,x=>af (.f T x)
 |.ptr i o,_=>af (.ptr (g i) o)
 |.row i,_=>af (.row (g i))
 |.csl i s n,_=>af (.csl (g i) s n)
 |.mp i,_=>af (.mp (g i))
 |.clo q i o,_=>af (.clo q [.ptr (g i) o])
 |.nil,_=>af .nil
 |.emp,_=>af .emp
 |.agg ps,x=>match re g ps x with|some l=>af (.agg l)|none=>ah
def qd (g:Nat->Nat):(ps:List PV)->(PV.tyL ps).den->Option (List TV)
 |[],_=>af []
 |p::r,x=>match tI g p (O5 p.ty (PV.tyL r) x) with
  |some a=>(match qd g r (Lu p.ty (PV.tyL r) x) with|some b=>af (a::b)|none=>ah)
  |none=>ah
def CX (g:Nat->Nat):(b:PB)->b.ty.den->Option (Option iw)
 |.rows ty p T,x=>af (af (.rows ty p T x))
 |.rowsP ty T,x=>af (af (.rows ty x.1 T x.2))
 |.cells ty ps,x=>match re g ps x with|some l=>af (af (.cells ty l))|none=>ah
 |.mp K V,x=>af (af (.mp K V x))
 |.gone,_=>af ah
def vu:iw->iw
 |.rows _ p T xs=>.dead p T.size xs.length
 |.cells _ _=>.dead ai 0 0
 |.mp _ _ _=>.dead ai 0 0
 |.dead p sz n=>.dead p sz n
def kill (h:bl) (i:Nat):bl:=match h.get i with
 |some b=>h.set i (af (vu b))
 |none=>h
def oF (g:Nat->Nat):(bs:List PB)->(PB.tyL bs).den->Option (List (Option iw))
 |[],_=>af []
 |b::r,x=>match CX g b (O5 b.ty (PB.tyL r) x) with
  |some c=>(match oF g r (Lu b.ty (PB.tyL r) x) with|some l=>af (c::l)|none=>ah)
  |none=>ah
def AL (g:Nat->Nat):Nat->List (Option iw)->bl->bl
 |_,[],h=>h
 |i,af c::r,h=>AL g (i+1) r (h.set (g i) (af c))
 |i,ah::r,h=>AL g (i+1) r (kill h (g i))
def MS (g:Nat->Nat) (bs:List PB) (x:(PB.tyL bs).den) (h:bl):Option bl:=match oF g bs x with
 |some l=>af (AL g 0 l h)
 |none=>ah
def wG {K V:Ty} (k:K.den):List (K.den×V.den)->Option V.den
 |[]=>ah
 |(k',v)::r=>if Ng K k k' then af v else wG k r
def EK {K V:Ty} (k:K.den) (v:V.den):List (K.den×V.den)->List (K.den×V.den)
 |[]=>[(k,v)]
 |(k',I)::r=>if Ng K k k' then (k,v)::r else (k',I)::EK k v r
def ajd {K V:Ty} (k:K.den) (es:List (K.den×V.den)):Bool:=match wG k es with|some _=>ai|none=>aj
def wF {K V:Ty} (k:K.den) (es:List (K.den×V.den)) (z:V.den):V.den:=match wG k es with|some v=>v|none=>z
def amh (T:Ty):Nat->Ty
 |0=>.un
 |1=>T
 |n+2=>.pr T (amh T (n+1))
def kwT:Ty:=.st (amh .str 22)
def kwV:kwT.den:=([118,97,114],[118,111,108,97,116,105,108,101],[109,117,116,101,120],[114,119,108,111,99,107],[99,111,110,100],[102,117,116,117,114,101],[116,104,114,101,97,100],[105,102],[101,108,115,101],[119,104,105,108,101],[108,111,99,107],[114,101,97,100],[119,114,105,116,101],[116,114,97,110,115,97,99,116,105,111,110],[97,116,111,109,105,99],[119,97,105,116],[110,111,116,105,102,121],[110,111,116,105,102,121,97,108,108],[115,112,97,119,110],[106,111,105,110],[115,101,116],[103,101,116])
@[simp] theorem cZ {R:Type} (t f:Option R):bcase ai t f=t:=Eq.trans rfl rfl
@[simp] theorem c4 {R:Type} (t f:Option R):bcase aj t f=f:=Eq.trans rfl rfl
@[simp] theorem chk_t {R:Type} (k:ai=ai->Option R):chk ai k=k rfl:=Eq.trans rfl rfl
theorem cu {R:Type} {b:Bool} (h:b=ai) (k:Option R):chk b (λ_=>k)=k:=by cases b with|true=>rfl|false=>cases h
@[simp] theorem cV {α R:Type} (x:α) (k:α->Option R):obind (af x) k=k x:=Eq.trans rfl rfl
@[simp] theorem jh {α R:Type} (x:α) (k:α->Option R):jn (af (.inr x)) k=k x:=Eq.trans rfl rfl
@[simp] theorem jn_l {α R:Type} (r:R) (k:α->Option R):jn (af (.inl r)) k=af r:=Eq.trans rfl rfl
theorem af9 {σ R:Type} {f:σ->Option (σ⊕R)} {n:Nat} {x:σ} {r:R} (h:iterN f n x=af r) (hn:n<=18446744073709551616):gg f x=af r:=zk h hn
theorem wM {σ R:Type} {f:σ->Option (σ⊕R)} (n:Nat) (hn:n<18446744073709551616) (st:Nat->σ) {r:R} (h0:∀ i,i<n->f (st i)=af (.inl (st (i+1)))) (h1:f (st n)=af (.inr r)):gg f (st 0)=af r:=by
 have key:∀ k i,i+k=n->iterN f (k+1) (st i)=af r:=by
  intro k;induction k with
  |zero=>intro i hi;have:i=n:=by omega
         subst this;simp only[iterN,h1]
  |succ k I=>intro i hi;rw[iterN,h0 i (by omega)];exact I (i+1) (by omega)
 exact af9 (key n 0 (by omega)) (by omega)
@[simp] theorem abs {a b:Int}:c8 a b=ai↔a<=b:=by unfold c8;simp
@[simp] theorem abr {a b:Int}:fR a b=ai↔a<b:=by unfold fR;simp
theorem qC {a b:Int} (h:a<=b):c8 a b=ai:=abs.2 h
theorem vw {a b:Int} (h:a<b):fR a b=ai:=abr.2 h
theorem M6 {a b:Int} (h:b<a):c8 a b=aj:=by unfold c8;simp;omega
theorem wO {a b:Int} (h:b<=a):fR a b=aj:=by unfold fR;simp;omega
theorem amn {j:Int} {n:Nat} (h0:0<=j) (h1:j<n):fc j n=ai:=by unfold fc;rw[qC h0,vw h1];rfl
theorem cW {j n:Nat} (h1:j<n):fc (j:Int) n=ai:=amn (by omega) (by omega)
theorem tG {n b:Nat} (h0:n<=1099511627776) (h1:n*b<=1099511627776):a_ n b=ai:=by
 unfold a_;rw[bF h0,bF h1];rfl
theorem aa8 {n:Int} (h0: -9223372036854775808<=n) (h1:n<=9223372036854775807):bk .i64 n=n:=by
 rw[HP];unfold MG;simp only[];rw[qC h0,qC h1];rfl
theorem rj {i n:Nat} (h:i<n) (hn:n<=1099511627776):bk .i64 ((i:Int)+1)=((i+1:Nat):Int):=by
 rw[aa8 (by omega) (by omega)];omega
theorem zl (a b:Nat):iE (aP a) (aP b)=((max a b:Nat):Int):=by
 unfold iE;by_cases h:a<b
 .rw[vw (by simp;omega),aE rfl];simp;omega
 .rw[wO (by simp;omega)];simp;omega
theorem sI {T:Ty} (xs:List T.den) (i:Nat):aK xs (i:Int)=xs.getD i T.zero:=by unfold aK;simp
theorem qI (xs:List (List Int)) (i:Nat):aK (T:=.sl (.int .i64)) xs (i:Int)=xs.getD i []:=sI (T:=.sl (.int .i64)) xs i
theorem ajh (xs:List Int) (i:Nat):aK (T:=.int .i64) xs (i:Int)=xs.getD i 0:=sI (T:=.int .i64) xs i
theorem fU {α:Type} (xs:List α) (i:Nat) (x:α):cQ xs (i:Int) x=xs.set i x:=by unfold cQ;simp
structure cg where
 pre:Tm
 post:Tm
 m:pre.ty.den->Option post.ty.den
mutual
def ai9:PV->List TV->PT Nat->PT Nat×List TV
 |.d T,l,σ=>(σ,l.drop T.size)
 |.ptr i _,l,σ=>match l with|.ptr a _::r=>(σ.set i (af a),r)|l=>(σ,l.drop 1)
 |.row i,l,σ=>match l with|.row a::r=>(σ.set i (af a),r)|l=>(σ,l.drop 1)
 |.csl i _ _,l,σ=>match l with|.csl a _ _::r=>(σ.set i (af a),r)|l=>(σ,l.drop 1)
 |.mp i,l,σ=>match l with|.mp a::r=>(σ.set i (af a),r)|l=>(σ,l.drop 1)
 |.clo _ i _,l,σ=>match l with|.clo _ [.ptr a _]::r=>(σ.set i (af a),r)|l=>(σ,l.drop 1)
 |.nil,l,σ=>(σ,l.drop 1)
 |.emp,l,σ=>(σ,l.drop 1)
 |.agg ps,l,σ=>Wk ps l σ
def Wk:List PV->List TV->PT Nat->PT Nat×List TV
 |[],l,σ=>(σ,l)
 |p::r,l,σ=>match ai9 p l σ with|(σ',l')=>Wk r l' σ'
end
def anc (p:PV) (v:TV) (σ:PT Nat):PT Nat:=match p with
 |.d _=>σ
 |p=>match v.cs with|some l=>(ai9 p l σ).1|none=>σ
def acz:List PV->List TV->PT Nat->PT Nat
 |p::r,v::vs,σ=>acz r vs (anc p v σ)
 |_,_,σ=>σ
def Wl (h:bl):Nat->List PB->PT Nat->PT Nat
 |_,[],σ=>σ
 |i,b::r,σ=>Wl h (i+1) r (match b with
  |.cells _ ps=>(match σ.get i with
   |some a=>(match h.get a with|some (.cells _ l)=>(Wk ps l σ).1|_=>σ)
   |none=>σ)
  |_=>σ)
def ij (σ:PT Nat) (i:Nat):Nat:=match σ.get i with|some a=>a|none=>0
def aap (σ:PT Nat):Nat->Nat->Nat->Option Nat
 |0,_,acc=>af acc
 |n+1,i,acc=>match σ.get i with
  |some a=>if aN acc a then ah else aap σ n (i+1) (acc|||kQ a)
  |none=>ah
def idn:Nat->PT Nat
 |0=>.leaf
 |n+1=>(idn n).set n (af n)
def XD (σ:PT Nat):Nat->Bool
 |0=>ai
 |n+1=>(match σ.get n with|some a=>aC a n|none=>aj)&&XD σ n
structure aim (t:Tm) where
 x:t.ty.den
 m:Nat
 σ:PT Nat
 sm:Nat
def EL (np:Nat) (t:Tm) (vs:List TV) (h:bl):Option (aim t):=
 RF (Wl h 0 t.bs (Wl h 0 t.bs (acz t.vs vs (idn np)))) λσ=>
 match aap σ t.bs.length 0 0 with
 |some sm=>(match yl (ij σ) h t.vs vs with
  |some (x,m)=>(match Be (ij σ) h 0 t.bs with
   |some (y,m')=>if DS (m|||m') sm&&XD σ np then af ⟨UH _ _ x y,m|||m',σ,sm⟩ else ah
   |none=>ah)
  |none=>ah)
 |none=>ah
def PT.updI {α:Type} (f:Nat->α->α):Nat->Nat->PT α->PT α
 |_,_,.leaf=>.leaf
 |a,b,.node v l r=>.node (match v with|some x=>af (f b x)|none=>ah) (PT.updI f (2*a) (a+b) l) (PT.updI f (2*a) (2*a+b) r)
def eD (m:Nat) (h:bl):bl:=if aC m 0 then h else PT.updI (λi b=>if aN m i then vu b else b) 1 0 h
def UO:Operand->Bool
 |.const (.agg _)=>ai
 |_=>aj
def fP (e:iP):Operand->Option TV
 |.tmp t=>e.get t
 |.const v=>ajn v
 |.func g=>af (.clo g [])
 |.global g=>match G g with|some _=>af (.fel kwT [kwV] 0 (Eq.refl ai) 0)|none=>ah
def FP (e:iP):List Operand->Option (List TV)
 |[]=>af []
 |x::xs=>match fP e x with|some y=>(match FP e xs with|some I=>af (y::I)|none=>ah)|none=>ah
def JB (cells:List TV) (e:iP):List (Nat×Nat×Operand)->Option (List TV)
 |[]=>af cells
 |(off,sz,x)::r=>match fP e x with
  |some v=>(match v.cs with
   |some cs=>if cs.length==sz&&eK (off+sz) cells.length then JB (splice cells off cs) e r else ah
   |none=>ah)
  |none=>ah
def Ul (l:List TV) (off sz:Nat):Bool->Option TV
 |false=>if aC sz 1 then l[off]? else ah
 |true=>if eK (off+sz) l.length then af (.agg ((l.drop off).take sz)) else ah
def eC (h:bl) (id:Nat):Option (Bool×Nat×Nat):=match h.get id with
 |some (.rows _ p T xs)=>af (p,T.size,xs.length)
 |some (.dead p sz n)=>af (p,sz,n)
 |_=>ah
def lenOf (h:bl):TV->Option Nat
 |.f (.sl _) xs=>af (al xs)
 |.emp=>af 0
 |.nil=>af 0
 |.row id=>match eC h id with|some (_,_,n)=>af n|none=>ah
 |.csl _ _ n=>af n
 |_=>ah
mutual
def LB (h:bl):TV->Bool
 |.row id=>(eC h id).isSome
 |.rtl id _=>(eC h id).isSome
 |.agg l=>kS h l
 |.tup l=>kS h l
 |.clo _ l=>kS h l
 |.f _ _=>ai
 |.fel _ _ _ _ _=>ai
 |.pel _ _ _ _=>ai
 |.ptr _ _=>ai
 |.csl _ _ _=>ai
 |.emp=>ai
 |.nil=>ai
 |.mp _=>ai
 |.undef=>ai
 |.np=>ai
 |.anyb=>ai
def kS (h:bl):List TV->Bool
 |[]=>ai
 |x::r=>LB h x&&kS h r
end
mutual
def LD (n:Nat):TV->Bool
 |.row id=>gq id n
 |.rtl id _=>gq id n
 |.pel id _ _ _=>gq id n
 |.ptr id _=>gq id n
 |.csl id _ _=>gq id n
 |.mp id=>gq id n
 |.agg l=>rK n l
 |.tup l=>rK n l
 |.clo _ l=>rK n l
 |.f _ _=>ai
 |.fel _ _ _ _ _=>ai
 |.emp=>ai
 |.nil=>ai
 |.undef=>ai
 |.np=>ai
 |.anyb=>ai
def rK (n:Nat):List TV->Bool
 |[]=>ai
 |x::r=>LD n x&&rK n r
end
def Dc (t:Tm) (x:t.ty.den):Option (List TV×bl):=
 match qd (λi=>i) t.vs (O5 _ _ x) with
 |some vs=>(match MS (λi=>i) t.bs (Lu _ _ x) PT.leaf with
  |some h=>if kS h vs&&rK t.bs.length vs&&PT.all (λ_ b=>match b with|.cells _ l=>kS h l&&rK t.bs.length l|_=>ai) 1 0 h then af (vs,h) else ah
  |none=>ah)
 |none=>ah
abbrev KO (R:Type):=TV->Nat->Nat->bl->Nat->Option R
def QE:List TV->TV
 |[x]=>x
 |l=>.tup l
def BY:List PB->Bool
 |[]=>ai
 |.gone::_=>aj
 |_::r=>BY r
def If:List PB->Bool
 |[]=>ai
 |.rows _ _ _::r=>If r
 |_::_=>aj
def uc (h h2:bl) (g:Nat->Nat):Nat->Bool
 |0=>ai
 |n+1=>(match eC h (g n) with
  |some (p,s,k)=>(match eC h2 (g n) with|some (I,s',k')=>(p==I)&&aC s s'&&aC k k'|none=>aj)
  |none=>ai)&&uc h h2 g n
def XV {R:Type} (con:FuncId->Option cg) (f:FuncId) (l:List TV) (h:bl) (nx:Nat) (K:KO R):Option R:=
 match con f with
 |some c=>(match EL 0 c.pre l h with
  |some ⟨x,m,σ,sm⟩=>(match Dc c.pre x with
   |some _=>obind (c.m x) λy=>(match Dc c.post y with
    |some _=>if eK c.pre.bs.length c.post.bs.length&&BY c.pre.bs then
      let np:=c.pre.bs.length
      let I:=c.post.bs.length-np
      let g:=λi=>if gq i np then ij σ i else nx+(i-np)
      (match qd g c.post.vs (O5 _ _ y) with
      |some rs=>if !(aC m 0)&&aC c.post.bs.length 0&&(PV.tyL c.post.vs).flat then K (QE rs) m 0 h nx else
       (match MS g c.post.bs (Lu _ _ y) (eD m h) with
       |some h2=>chk (uc h h2 g np) λ_=>K (QE rs) (sm|||m) (sm|||m|||(((1<<<I)-1)<<<nx)) h2 (nx+I)
       |none=>ah)
      |none=>ah) else if aC c.post.bs.length 0&&If c.pre.bs then
      let np:=c.pre.bs.length
      let g:=λi=>if gq i np then ij σ i else nx+(i-np)
      (match qd g c.post.vs (O5 _ _ y) with
      |some rs=>(match MS g c.pre.bs (Lu _ _ x) (eD m h) with
       |some h2=>K (QE rs) (sm|||m) m h2 nx
       |none=>ah)
      |none=>ah) else ah
    |none=>ah)
   |none=>ah)
  |none=>ah)
 |none=>ah
def aju {R:Type} (op:BinOp) (x y:TV) (q:TV->Option R):Option R:=
 match x,y with
 |.f (.int k) a,.f (.int k') b=>if k==k' then
   (match op with
   |.add=>q (.f (.int k) (bk k (a+b)))
   |.sub=>q (.f (.int k) (bk k (a-b)))
   |.mul=>q (.f (.int k) (bk k (a*b)))
   |.rem=>chk (!decide ((b:Int)=0)) λ_=>q (.f (.int k) (Ak a b))
   |.quo=>chk (!decide ((b:Int)=0)) λ_=>q (.f (.int k) (bk k (Int.tdiv a b)))
   |.eql=>q (.f .bool (decide ((a:Int)=b)))
   |.neq=>q (.f .bool (!decide ((a:Int)=b)))
   |.lss=>q (.f .bool (fR a b))
   |.leq=>q (.f .bool (c8 a b))
   |.gtr=>q (.f .bool (fR b a))
   |.geq=>q (.f .bool (c8 b a))
   |_=>ah)
  else ah
 |.f .str a,.f .str b=>match op with
   |.eql=>q (.f .bool (decide ((a:List UInt8)=b)))
   |.neq=>q (.f .bool (!decide ((a:List UInt8)=b)))
   |_=>ah
 |_,_=>ah
def Ys:Bool->Ty->Bool
 |false,.int _=>ai
 |true,.str=>ai
 |_,_=>aj
abbrev itK:Ty:=.st (.pr .str (.int .i64))
def isIt:Ty->Bool
 |.st (.pr .str (.int .i64))=>ai
 |_=>aj
def UF (K:Ty):Bool:= !isIt K
def Qe:List ((List UInt8×Int)×Unit)->List UInt8
 |[]=>[]
 |e::_=>e.1.1
def OD:List ((List UInt8×Int)×Unit)->Nat
 |[]=>0
 |e::_=>aU e.1.2
def itE:(K V:Ty)->List (K.den×V.den)->Option (List UInt8×Nat)
 |.st (.pr .str (.int .i64)),.un,es=>af (Qe es,OD es)
 |_,_,_=>ah
def mpE:(K V:Ty)->List (K.den×V.den)->Bool
 |.un,.un,[]=>ai
 |_,_,_=>aj
def yP (T:Ty):List TV->Option (List T.den)
 |[]=>af []
 |.f S v::r=>match xa (S:=S) T v with
  |some x=>(match yP T r with|some l=>af (x::l)|none=>ah)
  |none=>ah
 |_::_=>ah
def ad3:List TV->Option ((T:Ty)×List T.den)
 |.f T v::r=>match yP T (.f T v::r) with|some l=>af ⟨T,l⟩|none=>ah
 |_=>ah
def amp (n sz:Nat) (v:TV):Bool->Option ((T:Ty)×List T.den)
 |true=>ah
 |false=>if aC sz 1&& !v.isC then (match v.cs with|some l=>if aC l.length n then ad3 l else ah|none=>ah) else ah
def arrB (n sz off:Nat):Option iw->Option ((T:Ty)×List T.den)
 |some (.cells _ l)=>if aC sz 1&&aC off 0&&aC l.length n then ad3 l else ah
 |_=>ah
def ai2:Ty->Nat
 |.pr .un t=>ai2 t+1
 |_=>0
def D2:Option Ty->Option Nat
 |some (.pr .un t)=>af (ai2 t)
 |_=>ah
def ai6 {R:Type} (ty:TypeId) (sz bytes:Nat) (b y:TV) (h:bl) (nx:Nat) (K:KO R):Option R:=match y with
 |.csl id2 sz2 m=>(match h.get id2 with
  |some (.cells _ l2)=>if aC sz2 sz&&aC l2.length (m*sz)&& !(aC m 0) then (match b with
   |.csl id sz1 n=>(match h.get id with
    |some (.cells ty1 l)=>if aC sz1 sz&&ty1==ty&&aC l.length (n*sz)&& !(aC id id2) then
      chk (a_ (n+m) bytes) λ_=>K (.csl nx sz (n+m)) (kQ id|||kQ id2) (kQ id|||kQ nx) ((h.set id (af (.dead ai 0 0))).set nx (af (.cells ty (l++l2)))) (nx+1) else ah
    |_=>ah)
   |.nil=>chk (a_ m bytes) λ_=>K (.csl nx sz m) (kQ id2) (0|||kQ nx) ((eD 0 h).set nx (af (.cells ty l2))) (nx+1)
   |_=>ah) else ah
  |_=>ah)
 |_=>ah
def pkT (ok:Bool) (v b:TV):TV:=match ok with|true=>.tup [v,b]|false=>v
def dX {R:Type} (con:FuncId->Option cg) (bY:TypeId->Option Ty) (o:SI) (e:iP) (h:bl) (nx:Nat) (K:KO R):Option R:=
 match o with
 |.call f args=>match FP e args with|some l=>XV con f l h nx K|none=>ah
 |.callv x args=>match fP e x,FP e args with
  |some (.clo f cap),af l=>XV con f (l++cap) h nx K
  |_,_=>ah
 |.op s=>match s with
  |.mksl ty sz bytes z l c=>match D2 (bY ty) with
   |some n=>(match Kp z,fP e l,fP e c with
    |some J,af (.f (.int _) a),af (.f (.int _) b)=>chk (c8 0 a&&c8 a b&&a_ (aU b) bytes&&decide ((a:Int)=aP n)) λ_=>K (.csl nx sz n) 0 (0|||kQ nx) ((eD 0 h).set nx (af (.cells ty (aG n J).flatten))) (nx+1)
    |_,_,_=>ah)
   |none=>match bY ty,fP e l,fP e c with
   |some T,af (.f (.int _) a),af (.f (.int _) b)=>if aC sz T.size&&Te z (s_ T) then
     chk (c8 0 a&&c8 a b&&a_ (aU b) bytes) λ_=>K (.row nx) 0 (kQ nx) (h.set nx (af (.rows ty aj T (aG (aU a) T.zero)))) (nx+1) else ah
   |_,_,_=>ah
  |.bsl ty sz len z parts=>match D2 (bY ty) with
   |some _=>(match Kp z with
    |some J=>(match JB ((aG len J).flatten) e parts with
     |some cs=>if aC len 0 then ah else K (.csl nx sz len) 0 (0|||kQ nx) ((eD 0 h).set nx (af (.cells ty cs))) (nx+1)
     |none=>ah)
    |none=>ah)
   |none=>match bY ty,Kp z with
   |some T,af J=>if aC sz T.size then (match JB ((aG len J).flatten) e parts with
    |some cs=>(match yX h T len cs with
     |some (xs,m)=>K (.row nx) m (m|||kQ nx) ((eD m h).set nx (af (.rows ty (aC len 0) T xs))) (nx+1)
     |none=>ah)
    |none=>ah) else ah
   |_,_=>ah
  |.app ty sz bytes s x=>match D2 (bY ty) with
   |some _=>(match fP e s,fP e x with
    |some b,af y=>ai6 ty sz bytes b y h nx K
    |_,_=>ah)
   |none=>match bY ty,fP e s,fP e x with
   |some T,af b,af y=>if aC sz T.size then (match D' h (.sl T) y with
    |some (I,m)=>(match b with
     |.row id=>(match h.get id with
      |some (.rows ty' p S xs)=>(match xa (S:=.sl S) (.sl T) xs with
       |some xs=>if ty'==ty&& !(aN m id) then
         chk (a_ (al xs+al I) bytes) λ_=>K (.row nx) (kQ id|||m) (kQ id|||kQ nx) ((h.set id (af (.dead p sz (al xs)))).set nx (af (.rows ty p T (xs++I)))) (nx+1)
        else ah
       |none=>ah)
      |_=>ah)
     |.emp=>chk (a_ (al I) bytes) λ_=>K (.row nx) m (kQ nx) (h.set nx (af (.rows ty ai T I))) (nx+1)
     |.nil=>chk (a_ (al I) bytes) λ_=>K (.row nx) m (kQ nx) (h.set nx (af (.rows ty ai T I))) (nx+1)
     |_=>ah)
    |none=>ah) else ah
   |_,_,_=>ah
  |.copy sz d x=>match fP e d,fP e x with
   |some (.row id),af y=>(match h.get id with
    |some (.rows ty p T xs)=>if aC sz T.size then (match D' h (.sl T) y with
     |some (I,m)=>if !(aN m id)&& !p then
       K (.f (.int .i64) (aP (iS (al I) (al xs)))) (kQ id|||m) (kQ id) (h.set id (af (.rows ty p T (Ua xs I)))) nx else ah
     |none=>ah) else ah
    |_=>ah)
   |_,_=>ah
  |.clr sz z x=>match fP e x with
   |some (.rtl id j)=>(match h.get id with
    |some (.rows ty p T xs)=>if (aC sz T.size&&Te z (s_ T))&&mF z then
      chk (c8 0 j&&fR j (al xs)) λ_=>K (.tup []) (kQ id) (0|||kQ id) ((eD 0 h).set id (af (.rows ty p T (dQ (aU j) xs++aG (al xs-aU j) T.zero)))) nx
     else ah
    |_=>ah)
   |_=>ah
  |.mv x=>match fP e x with|some v=>K v 0 0 h nx|none=>ah
  |.pick c a b=>match fP e c with
   |some (.f .bool t)=>bcase t (match fP e a with|some v=>K v 0 0 h nx|none=>ah) (match fP e b with|some v=>K v 0 0 h nx|none=>ah)
   |_=>ah
  |.alloc ty z=>match Kp z with
   |some l=>K (.ptr nx 0) 0 (kQ nx) (h.set nx (af (.cells ty l))) (nx+1)
   |none=>ah
  |.box ty x=>match fP e x with
   |some v=>(match v.cs with|some l=>K (.ptr nx 0) 0 (kQ nx) (h.set nx (af (.cells ty l))) (nx+1)|none=>ah)
   |none=>ah
  |.build z parts=>match Kp z with
   |some l=>(match JB l e parts with|some cs=>K (.agg cs) 0 0 h nx|none=>ah)
   |none=>ah
  |.load sz ag x=>match fP e x with
   |some (.ptr id off)=>(match h.get id with
    |some (.cells _ l)=>(match Ul l off sz ag with|some v=>K v (kQ id) 0 h nx|none=>ah)
    |_=>ah)
   |some (.pel id sz' j off)=>(match h.get id with
    |some (.rows _ _ T xs)=>if aC sz' T.size then chk (fc j xs.length) λ_=>(match oe 40 T (aK xs j) off sz ag with|some v=>K v (kQ id) 0 h nx|none=>ah) else ah
    |some (.cells _ l)=>(match ag with
     |true=>ah
     |false=>if aC sz 1&&aC sz' 1&&aC off 0 then (match ad3 l with
      |some ⟨T,xs⟩=>chk (fc j l.length) λ_=>K (.f T (aK xs j)) (kQ id) 0 h nx
      |none=>ah) else ah)
    |_=>ah)
   |some (.fel T xs j _ off)=>(match oe 40 T (aK xs j) off sz ag with|some v=>K v 0 0 h nx|none=>ah)
   |_=>ah
  |.store sz x v=>match fP e x,fP e v with
   |some (.ptr id off),af y=>(match h.get id with
    |some (.cells ty l)=>(match y.cs with
     |some cs=>if cs.length==sz&&eK (off+sz) l.length then K .undef (kQ id) (kQ id) (h.set id (af (.cells ty (splice l off cs)))) nx else ah
     |none=>ah)
    |_=>ah)
   |some (.pel id sz' j off),af y=>(match h.get id with
    |some (.rows ty p T xs)=>if aC sz' T.size then chk (fc j xs.length) λ_=>(match gV h y 40 T (aK xs j) off sz with
     |some (z,m)=>if aN m id then ah else K .undef (m|||kQ id) (m|||kQ id) ((eD m h).set id (af (.rows ty p T (cQ xs j z)))) nx
     |none=>ah) else ah
    |some (.cells ty l)=>if aC sz 1&&(aC sz' 1&&aC off 0) then chk (fc j l.length) λ_=>(match y.cs with
     |some cs=>if aC cs.length 1 then K .undef (kQ id) (kQ id) (h.set id (af (.cells ty (splice l j.toNat cs)))) nx else ah
     |none=>ah) else ah
    |_=>ah)
   |_,_=>ah
  |.nilc x=>match fP e x with
   |some (.ptr id off)=>K (.ptr id off) 0 0 h nx
   |some (.pel id sz j off)=>K (.pel id sz j off) 0 0 h nx
   |some (.fel T xs j hj off)=>K (.fel T xs j hj off) 0 0 h nx
   |some (.clo g cap)=>K (.clo g cap) 0 0 h nx
   |_=>ah
  |.bin op x y=>match fP e x,fP e y with
   |some u,af v=>aju op u v λr=>K r 0 0 h nx
   |_,_=>ah
  |.eqs neg ds x y=>match rf ds,fP e x,fP e y with
   |some T,af u,af v=>if u.isC||v.isC||UO x||UO y then ah else (match u.cs,v.cs with
    |some lu,af lv=>(match eY PT.leaf 40 T lu,eY PT.leaf 40 T lv with
     |some (a,_,[]),af (b,_,[])=>K (.f .bool (Ng T a b !=neg)) 0 0 h nx
     |_,_=>ah)
    |_,_=>ah)
   |_,_,_=>ah
  |.isnil neg x=>match fP e x with
   |some .nil=>K (.f .bool (!neg)) 0 0 h nx
   |some .emp=>K .anyb 0 0 h nx
   |some (.f (.sl _) xs)=>bcase (aC (al xs) 0) (K .anyb 0 0 h nx) (K (.f .bool neg) 0 0 h nx)
   |some (.row id)=>(match h.get id with
    |some (.rows _ aj _ _)=>K (.f .bool neg) 0 0 h nx
    |_=>ah)
   |_=>ah
  |.eqb neg x y=>match fP e x,fP e y with
   |some (.f .bool a),af (.f .bool b)=>K (.f .bool ((a==b) !=neg)) 0 0 h nx
   |_,_=>ah
  |.not x=>match fP e x with|some (.f .bool b)=>K (.f .bool (!b)) 0 0 h nx|_=>ah
  |.conv k x=>match fP e x with|some (.f (.int _) n)=>K (.f (.int k) (bk k n)) 0 0 h nx|_=>ah
  |.slc sz x lo hi mx=>match fP e x with
   |some v=>(match lo,hi,mx with
    |none,af (.const (.int _ 0)),af (.const (.int _ 0))=>if (lenOf h v).isSome then K .emp 0 0 h nx else ah
    |none,af b,ah=>(match v,fP e b with
     |.f (.sl T) xs,af (.f (.int _) j)=>if aC sz T.size then chk (c8 0 j&&c8 j (al xs)) λ_=>K (.f (.sl T) (dQ (aU j) xs)) 0 0 h nx else ah
     |.row id,af (.f (.int _) j)=>(match h.get id with
      |some (.rows ty p T xs)=>if aC sz T.size then
        chk (c8 0 j&&fR j (al xs)) λ_=>K (.row nx) (kQ id) (kQ id|||kQ nx) ((h.set id (af (.dead p sz (al xs)))).set nx (af (.rows ty aj T (dQ (aU j) xs)))) (nx+1)
       else ah
      |_=>ah)
     |_,_=>ah)
    |some b,ah,ah=>(match v,fP e b with
     |.f (.sl T) xs,af (.f (.int _) j)=>if aC sz T.size then chk (c8 0 j&&c8 j (al xs)) λ_=>K (.f (.sl T) (List.drop (aU j) xs)) 0 0 h nx else ah
     |.row id,af (.f (.int _) j)=>(match h.get id with
      |some (.rows _ _ T xs)=>if aC sz T.size then chk (c8 0 j&&fR j (al xs)) λ_=>K (.rtl id j) 0 0 h nx else ah
      |_=>ah)
     |_,_=>ah)
    |_,_,_=>ah)
   |none=>ah
  |.fad off x=>match fP e x with
   |some (.ptr id o)=>K (.ptr id (o+off)) 0 0 h nx
   |some (.pel id sz j o)=>K (.pel id sz j (o+off)) 0 0 h nx
   |some (.fel T xs j hj o)=>K (.fel T xs j hj (o+off)) 0 0 h nx
   |_=>ah
  |.fld off sz ag x=>match fP e x with
   |some (.agg l)=>(match Ul l off sz ag with|some v=>K v 0 0 h nx|none=>ah)
   |some (.f T v)=>if T.one then ah else (match oe 40 T v off sz ag with|some v=>K v 0 0 h nx|none=>ah)
   |_=>ah
  |.iad sz x i=>match fP e x,fP e i with
   |some (.row id),af (.f (.int _) j)=>(match h.get id with
    |some (.rows _ _ T xs)=>if aC sz T.size then chk (fc j xs.length) λ_=>K (.pel id sz j 0) 0 0 h nx else ah
    |_=>ah)
   |some (.f (.sl T) xs),af (.f (.int _) j)=>if aC sz T.size then chk (fc j (al xs)) λhj=>K (.fel T xs j hj 0) 0 0 h nx else ah
   |some (.csl id sz' n),af (.f (.int _) j)=>if aC sz' sz then chk (c8 0 j&&fR j n) λ_=>K (.ptr id (aU j*sz)) 0 0 h nx else ah
   |_,_=>ah
  |.iada n sz x i=>match fP e x,fP e i with
   |some (.ptr id off),af (.f (.int _) j)=>(match arrB n sz off (h.get id) with
    |some _=>chk (c8 0 j&&fR j n) λ_=>K (.pel id sz j off) 0 0 h nx
    |none=>chk (c8 0 j&&fR j n) λ_=>K (.ptr id (off+aU j*sz)) 0 0 h nx)
   |_,_=>ah
  |.idx n sz ag x i=>match fP e x,fP e i with
   |some v,af (.f (.int _) j)=>(match amp n sz v ag with
    |some ⟨T,xs⟩=>chk (c8 0 j&&fR j n) λ_=>K (.f T (aK xs j)) 0 0 h nx
    |none=>(match v with
     |.agg l=>chk (c8 0 j&&fR j n) λ_=>(match Ul l (aU j*sz) sz ag with|some v=>K v 0 0 h nx|none=>ah)
     |.f T v=>if T.one then ah else chk (c8 0 j&&fR j n) λ_=>(match oe 40 T v (aU j*sz) sz ag with|some v=>K v 0 0 h nx|none=>ah)
     |_=>ah))
   |_,_=>ah
  |.ext x i=>match fP e x with|some (.tup l)=>(match l[i]? with|some v=>K v 0 0 h nx|none=>ah)|_=>ah
  |.len x=>match fP e x with
   |some v=>(match lenOf h v with|some n=>K (.f (.int .i64) (aP n)) 0 0 h nx|none=>ah)
   |none=>ah
  |.lens x=>match fP e x with
   |some (.f .str s)=>K (.f (.int .i64) (aP (al s))) 0 0 h nx
   |_=>ah
  |.max x y=>match fP e x,fP e y with
   |some (.f (.int k) a),af (.f (.int k') b)=>if k==k' then K (.f (.int k) (iE a b)) 0 0 h nx else ah
   |_,_=>ah
  |.min x y=>match fP e x,fP e y with
   |some (.f (.int k) a),af (.f (.int k') b)=>if k==k' then K (.f (.int k) (Hh a b)) 0 0 h nx else ah
   |_,_=>ah
  |.sidx x i=>match fP e x,fP e i with
   |some (.f .str s),af (.f (.int _) j)=>chk (fc j (al s)) λ_=>K (.f (.int .u8) (AD s j)) 0 0 h nx
   |_,_=>ah
  |.rng x=>match fP e x with
   |some (.f .str s)=>K (.ptr nx 0) 0 (0|||kQ nx) ((eD 0 h).set nx (af (.mp itK .un [((s,0),())]))) (nx+1)
   |_=>ah
  |.nxt x=>match fP e x with
   |some (.ptr id 0)=>(match h.get id with
    |some (.mp K' V es)=>(match itE K' V es with
     |some (s,p)=>bcase (gq p (al s)) (chk (fR (AD s (aP p)) 128) λ_=>K (.tup [.f .bool ai,.f (.int .i64) (aP p),.f (.int .i32) (AD s (aP p))]) (kQ id) (0|||kQ id) ((eD 0 h).set id (af (.mp itK .un [((s,aP (p+1)),())]))) nx)
       (K (.tup [.f .bool aj]) (kQ id) (0|||kQ id) ((eD 0 h).set id (af (.mp itK .un [((s,aP p),())]))) nx)
     |none=>ah)
    |_=>ah)
   |_=>ah
  |.mkm=>K (.mp nx) 0 (0|||kQ nx) ((eD 0 h).set nx (af (.mp .un .un []))) (nx+1)
  |.lku str ok z x k=>match fP e x,fP e k with
   |some (.mp id),af (.f KT M)=>(match h.get id with
    |some (.mp K' V es)=>if Ys str KT&&UF K' then (match mpE K' V es with
     |true=>(match cst z with|some v=>K (pkT ok v (.f .bool aj)) (kQ id) 0 h nx|none=>ah)
     |false=>(match xa (S:=KT) K' M,cst z with
      |some kv',af (.f Z Y)=>(match xa (S:=Z) V Y with
       |some zv'=>K (pkT ok (.f V (wF kv' es zv')) (.f .bool (ajd kv' es))) (kQ id) 0 h nx
       |none=>ah)
      |_,_=>ah)) else ah
    |_=>ah)
   |_,_=>ah
  |.mup str x k v=>match fP e x,fP e k,fP e v with
   |some (.mp id),af (.f KT M),af (.f VT U)=>(match h.get id with
    |some (.mp K' V es)=>if (Ys str KT&&VT.one)&&UF K' then (match mpE K' V es with
     |true=>K .undef (kQ id) (0|||kQ id) ((eD 0 h).set id (af (.mp KT VT [(M,U)]))) nx
     |false=>(match xa (S:=KT) K' M,xa (S:=VT) V U with
      |some kv',af vv'=>K .undef (kQ id) (0|||kQ id) ((eD 0 h).set id (af (.mp K' V (EK kv' vv' es)))) nx
      |_,_=>ah)) else ah
    |_=>ah)
   |_,_,_=>ah
  |.lenm x=>match fP e x with
   |some (.mp id)=>(match h.get id with
    |some (.mp K' _ es)=>if UF K' then K (.f (.int .i64) (aP es.length)) (kQ id) 0 h nx else ah
    |_=>ah)
   |_=>ah
  |.mkf f caps=>match FP e caps with|some l=>K (.clo f l) 0 0 h nx|none=>ah
  |_=>ah
def aab {R:Type} (e:iP) (g:Option (Nat×Bool)) (K:Bool->iP->Option R):Option R:=match g with
 |none=>K ai e
 |some (t,want)=>match e.get t with
  |some (.f .bool b)=>(match want with
   |true=>bcase b (K ai (e.set t (af (.f .bool ai)))) (K aj (e.set t (af (.f .bool aj))))
   |false=>bcase b (K aj (e.set t (af (.f .bool ai)))) (K ai (e.set t (af (.f .bool aj)))))
  |some .undef=>K aj e
  |_=>ah
def Ez (e:iP) (d:Option Nat) (v:TV):iP:=match d with
 |none=>e
 |some d=>e.set d (af v)
structure TS where
 e:iP
 h:bl
 nx:Nat
def Ly {R:Type} (con:FuncId->Option cg) (bY:TypeId->Option Ty):List sQ->TS->List FPm->(TS->List FPm->Option R)->Option R
 |[],s,fs,K=>K s fs.reverse
 |o::r,s,fs,K=>aab s.e o.guard λrun e=>match run with
  |true=>dX con bY o.op e s.h s.nx λv rd wr h nx=>if LB h v then Ly con bY r ⟨Ez e o.dst v,h,nx⟩ (⟨rd,wr⟩::fs) K else ah
  |false=>Ly con bY r ⟨Ez e o.dst .undef,s.h,s.nx⟩ (⟨0,0⟩::fs) K
inductive Adj where
 |nil (k:Nat) (ty:TypeId) (T:Ty)
 |cel (k:Nat) (off:Nat) (ty:TypeId) (T:Ty)
 |mpt (k:Nat) (K V:Ty)
 |pk (k:Nat) (off:Nat) (T:Ty)
 |ren (k:Nat) (off:Nat)
mutual
def Lt (id sz n:Nat):TV->TV
 |.csl i s m=>if aC i id&&aC s sz&&aC m n then .row id else .csl i s m
 |.agg l=>.agg (CH id sz n l)
 |.tup l=>.tup (CH id sz n l)
 |.clo g l=>.clo g (CH id sz n l)
 |.f T v=>.f T v
 |.fel T xs j h off=>.fel T xs j h off
 |.pel a b c d=>.pel a b c d
 |.ptr a b=>.ptr a b
 |.row a=>.row a
 |.rtl a j=>.rtl a j
 |.emp=>.emp
 |.nil=>.nil
 |.mp a=>.mp a
 |.undef=>.undef
 |.np=>.np
 |.anyb=>.anyb
def CH (id sz n:Nat):List TV->List TV
 |[]=>[]
 |x::r=>Lt id sz n x::CH id sz n r
end
def Yd (id sz n:Nat):iw->iw
 |.cells ty l=>.cells ty (CH id sz n l)
 |.rows ty p T xs=>.rows ty p T xs
 |.dead p s m=>.dead p s m
 |.mp K V es=>.mp K V es
def an8 (s:TS) (k off:Nat):Option (Nat×Nat×Nat):=match s.e.get k with
 |some (.csl id sz n)=>af (id,sz,n)
 |some (.agg l)=>(match l[off]? with|some (.csl id sz n)=>af (id,sz,n)|_=>ah)
 |some (.ptr a o)=>(match s.h.get a with
  |some (.cells _ l)=>(match l[o+off]? with|some (.csl id sz n)=>af (id,sz,n)|_=>ah)
  |_=>ah)
 |_=>ah
def pkS (s:TS) (T:Ty) (id sz n:Nat):Option TS:=match s.h.get id with
 |some (.cells ty l)=>if aC sz T.size then (match yX s.h T n l with
  |some (xs,m)=>if aN m id then ah else af ⟨PT.updI (λ_ v=>Lt id sz n v) 1 0 s.e,(PT.updI (λ_ b=>Yd id sz n b) 1 0 (eD m s.h)).set id (af (.rows ty aj T xs)),s.nx⟩
  |none=>ah) else ah
 |_=>ah
def afa:TV->Bool
 |.nil=>ai
 |.emp=>ai
 |_=>aj
def amg:Option TV->Option (Nat×Nat)
 |some (.ptr id o)=>af (id,o)
 |some (.csl id _ _)=>af (id,0)
 |_=>ah
def PU (s:TS):Adj->Option TS
 |.nil k ty T=>match s.e.get k with
  |some v=>if afa v then af ⟨s.e.set k (af (.row s.nx)),s.h.set s.nx (af (.rows ty ai T [])),s.nx+1⟩ else af s
  |none=>ah
 |.cel k off ty T=>match amg (s.e.get k) with
  |some (id,o)=>(match s.h.get id with
   |some (.cells cty l)=>(match l[o+off]? with
    |some v=>if afa v then af ⟨s.e,(s.h.set s.nx (af (.rows ty ai T []))).set id (af (.cells cty (splice l (o+off) [.row s.nx]))),s.nx+1⟩ else af s
    |none=>ah)
   |_=>ah)
  |_=>ah
 |.mpt k K V=>match s.e.get k with
  |some (.mp id)=>(match s.h.get id with
   |some (.mp K' V' es)=>(match mpE K' V' es&&UF K with
    |true=>af ⟨s.e,s.h.set id (af (.mp K V [])),s.nx⟩
    |false=>af s)
   |_=>ah)
  |_=>ah
 |.pk k off T=>match an8 s k off with
  |some (id,sz,n)=>pkS s T id sz n
  |none=>ah
 |.ren k off=>match s.e.get k with
  |some (.ptr b o)=>(match s.h.get b with
   |some (.cells cty l)=>(match l[o+off]? with
    |some (.row id)=>(match s.h.get id with
     |some (.rows ty p T xs)=>af ⟨s.e,((s.h.set id (af (.dead p T.size xs.length))).set s.nx (af (.rows ty p T xs))).set b (af (.cells cty (splice l (o+off) [.row s.nx]))),s.nx+1⟩
     |_=>ah)
    |_=>ah)
   |_=>ah)
  |some (.row id)=>(match s.h.get id with
   |some (.rows ty p T xs)=>af ⟨s.e.set k (af (.row s.nx)),(s.h.set id (af (.dead p T.size xs.length))).set s.nx (af (.rows ty p T xs)),s.nx+1⟩
   |_=>ah)
  |_=>ah
def Zr (s:TS):List Adj->Option TS
 |[]=>af s
 |a::r=>match PU s a with|some s'=>Zr s' r|none=>ah
structure Ann where
 keep:List Nat
 ks:List Nat
 t:Tm
 pre:List Adj
abbrev Ann.D (A:Ann):Type:=A.t.ty.den
mutual
def ux:TV->Bool
 |.f _ _=>ai
 |.fel _ _ _ _ _=>ai
 |.emp=>ai
 |.nil=>ai
 |.undef=>ai
 |.np=>ai
 |.anyb=>ai
 |.agg l=>qD l
 |.tup l=>qD l
 |.pel _ _ _ _=>aj
 |.ptr _ _=>aj
 |.csl _ _ _=>aj
 |.row _=>aj
 |.rtl _ _=>aj
 |.mp _=>aj
 |.clo _ _=>aj
def qD:List TV->Bool
 |[]=>ai
 |x::r=>ux x&&qD r
end
def Da (am:Nat) (e:iP):List Nat->iP
 |[]=>PT.leaf
 |k::r=>match e.get k with|some v=>if ux v&& !(aN am k) then (Da am e r).set k (af v) else Da am e r|none=>Da am e r
def nY (e:iP):List Nat->Option (List TV)
 |[]=>af []
 |k::r=>match e.get k with|some v=>(match nY e r with|some l=>af (v::l)|none=>ah)|none=>ah
def Yf (e:iP):List Nat->List TV->iP
 |k::r,v::l=>(Yf e r l).set k (af v)
 |_,_=>e
def H0 (am:Nat) (e0 e:iP):List Nat->Bool
 |[]=>ai
 |k::r=>(match e0.get k with
  |some v=> !(ux v)||aN am k||(match e.get k with|some _=>ai|none=>aj)
  |none=>ai)&&H0 am e0 e r
def L6 (np:Nat) (A:Ann) (am:Nat) (I s:TS):Option A.D:=if eK np A.t.bs.length&&H0 am I.e s.e A.keep then (match Zr s A.pre with
 |some s=>(match nY s.e A.ks with
  |some vs=>(match EL np A.t vs s.h with
   |some ⟨x,_,_,_⟩=>af x
   |none=>ah)
  |none=>ah)
 |none=>ah) else ah
def Hb (A:Ann) (am:Nat) (s:TS) (x:A.D):Option TS:=match Dc A.t x with
 |some (vs,h)=>if aC vs.length A.ks.length then af ⟨Yf (Da am s.e A.keep) A.ks vs,h,A.t.bs.length⟩ else ah
 |none=>ah
inductive TC where
 |skip
 |reg (ops:List sQ) (prs:List (Nat×Nat))
 |seq (a b:TC)
 |jseq (A:Ann) (a b:TC)
 |cond (c:Nat) (a b:TC)
 |block (id:Nat) (b:TC)
 |jblock (A:Ann) (id:Nat) (b:TC)
 |loop (A:Ann) (b:TC)
 |exit (id:Nat)
 |ret
 |defer (f:FuncId) (caps:List Operand) (t:Nat)
 |adj (l:List Adj) (c:TC)
 |split (k off lo n:Nat) (c:TC)
 |unl (n:Nat) (b:TC)
 |bad
def PO:List sQ->Nat->Nat
 |[],acc=>acc
 |o::r,acc=>PO r (match o.dst with|some d=>acc|||kQ d|none=>acc)
def LF:List Nat->Nat->Nat
 |[],acc=>acc
 |k::r,acc=>LF r (acc|||kQ k)
def oz:List Adj->Nat->Nat
 |[],acc=>acc
 |.nil k _ _::r,acc=>oz r (acc|||kQ k)
 |.cel _ _ _ _::r,acc=>oz r acc
 |.mpt _ _ _::r,acc=>oz r acc
 |.pk _ _ _::r,acc=>oz r acc
 |.ren k _::r,acc=>oz r (acc|||kQ k)
def TC.asg:TC->Nat->Nat
 |.reg ops _,acc=>PO ops acc
 |.seq a b,acc=>b.asg (a.asg acc)
 |.jseq A a b,acc=>b.asg (a.asg (LF A.ks acc))
 |.cond _ a b,acc=>b.asg (a.asg acc)
 |.block _ b,acc=>b.asg acc
 |.jblock A _ b,acc=>b.asg (LF A.ks acc)
 |.loop A b,acc=>b.asg (LF A.ks acc)
 |.defer _ _ t,acc=>acc|||kQ t
 |.adj l c,acc=>c.asg (oz l acc)
 |.split _ _ _ _ c,acc=>c.asg acc
 |.unl _ b,acc=>b.asg acc
 |.skip,acc=>acc
 |.exit _,acc=>acc
 |.ret,acc=>acc
 |.bad,acc=>acc
inductive adz where
 |j (A:Ann)
 |a (l:List Adj)
 |s (k off lo n:Nat)
 |u (n:Nat)
def Ik (H:PT adz) (n:Nat) (c:TC):TC:=match H.get n with|some (.a l)=>.adj l c|some (.s k off lo m)=>.split k off lo m c|_=>c
def DW (H:PT adz):SC->Nat->TC×Nat
 |.skip,n=>(Ik H n .skip,n+1)
 |.reg o p,n=>(Ik H n (.reg o p),n+1)
 |.seq a b,n=>match DW H a (n+1) with
  |(a',k)=>(match DW H b k with|(b',k')=>((match H.get n with|some (.j A)=>.jseq A a' b'|_=>.seq a' b'),k'))
 |.cond c a b,n=>match DW H a (n+1) with
  |(a',k)=>(match DW H b k with|(b',k')=>(Ik H n (.cond c a' b'),k'))
 |.block id b,n=>match DW H b (n+1) with|(b',k)=>((match H.get n with|some (.j A)=>.jblock A id b'|_=>.block id b'),k)
 |.loop b,n=>match DW H b (n+1) with|(b',k)=>((match H.get n with|some (.j A)=>.loop A b'|some (.u m)=>.unl m b'|_=>.bad),k)
 |.exit id,n=>(Ik H n (.exit id),n+1)
 |.ret,n=>(Ik H n .ret,n+1)
 |.defer f c t,n=>(.defer f c t,n+1)
 |.bad,n=>(.bad,n+1)
def abn (s:TS) (k off:Nat):Option (IntKind×Int):=match s.e.get k with
 |some (.f (.int kd) v)=>af (kd,v)
 |some (.ptr a o)=>(match s.h.get a with
  |some (.cells _ l)=>(match l[o+off]? with|some (.f (.int kd) v)=>af (kd,v)|_=>ah)
  |_=>ah)
 |_=>ah
def Up (s:TS) (k off:Nat) (kd:IntKind) (v:Int):Option TS:=match s.e.get k with
 |some (.f (.int _) _)=>af ⟨s.e.set k (af (.f (.int kd) v)),s.h,s.nx⟩
 |some (.ptr a o)=>(match s.h.get a with
  |some (.cells ty l)=>af ⟨s.e,s.h.set a (af (.cells ty (splice l (o+off) [.f (.int kd) v]))),s.nx⟩
  |_=>ah)
 |_=>ah
def spl {R:Type} (v:Int) (f:Nat->Option R):Nat->Nat->Option R
 |_,0=>ah
 |i,m+1=>bcase (decide ((v:Int)=aP i)) (f i) (spl v f (i+1) m)
def aej {R:Type} (f:TS->(Ex->TS->Option R)->Option R):Nat->TS->(Ex->TS->Option R)->Option R
 |0,_,_=>ah
 |m+1,s,K=>f s λex s'=>match ex with
  |.normal=>aej f m s' K
  |ex=>K ex s'
def pd {R:Type} (np:Nat) (con:FuncId->Option cg) (bY:TypeId->Option Ty) (inert:FuncId->Bool):TC->TS->(Ex->TS->Option R)->Option R
 |.skip,s,K=>K .normal s
 |.reg ops prs,s,K=>Ly con bY ops s [] λs' fs=>if FO fs prs then K .normal s' else ah
 |.seq a b,s,K=>pd np con bY inert a s λex s'=>match ex with|.normal=>pd np con bY inert b s' K|ex=>K ex s'
 |.jseq A a b,s,K=>jn (pd np con bY inert a s λex s'=>match ex with
   |.normal=>obind (L6 np A (a.asg 0) s s') λx=>af (.inr x)
   |ex=>obind (K ex s') λr=>af (.inl r)) λx=>(match Hb A (a.asg 0) s x with|some s'=>pd np con bY inert b s' K|none=>ah)
 |.cond c a b,s,K=>match s.e.get c with
  |some (.f .bool t)=>bcase t (pd np con bY inert a s K) (pd np con bY inert b s K)
  |some .anyb=>Fx (pd np con bY inert a s K) (pd np con bY inert b s K)
  |_=>ah
 |.block id b,s,K=>pd np con bY inert b s λex s'=>match ex with
  |.exit i=>if aC i id then K .normal s' else K (.exit i) s'
  |ex=>K ex s'
 |.jblock A id b,s,K=>jn (pd np con bY inert b s λex s'=>match ex with
   |.normal=>obind (L6 np A (b.asg 0) s s') λx=>af (.inr x)
   |.exit i=>if aC i id then obind (L6 np A (b.asg 0) s s') λx=>af (.inr x) else obind (K (.exit i) s') λr=>af (.inl r)
   |.ret=>obind (K .ret s') λr=>af (.inl r)) λx=>(match Hb A (b.asg 0) s x with|some s'=>K .normal s'|none=>ah)
 |.loop A b,s,K=>obind (L6 np A (b.asg 0) s s) λx=>iter (λx=>match Hb A (b.asg 0) s x with
   |some s'=>pd np con bY inert b s' λex s'=>(match ex with
    |.normal=>obind (L6 np A (b.asg 0) s s') λy=>af (.inl y)
    |ex=>obind (K ex s') λr=>af (.inr r))
   |none=>ah) x
 |.exit id,s,K=>K (.exit id) s
 |.ret,s,K=>K .ret s
 |.defer f caps t,s,K=>match FP s.e caps with
  |some l=>if inert f then K .normal ⟨s.e.set t (af (.clo f l)),s.h,s.nx⟩ else ah
  |none=>ah
 |.adj l c,s,K=>match Zr s l with|some s'=>pd np con bY inert c s' K|none=>ah
 |.split k off lo n c,s,K=>match abn s k off with
  |some (kd,v)=>spl v (λi=>match Up s k off kd (aP i) with|some s'=>pd np con bY inert c s' K|none=>ah) lo n
  |none=>ah
 |.unl n b,s,K=>aej (λs K=>pd np con bY inert b s K) n s K
 |.bad,_,_=>ah
def KY:Nat->List TV->iP
 |_,[]=>PT.leaf
 |k,x::r=>(KY (k+1) r).set k (af x)
def rvT (s:TS):RV->Option TV
 |.tmp t=>s.e.get t
 |.cell a sz ag=>match s.e.get a with
  |some (.ptr id off)=>(match s.h.get id with|some (.cells _ l)=>Ul l off sz ag|_=>ah)
  |_=>ah
def Ur (s:TS):List RV->Option (List TV)
 |[]=>af []
 |x::r=>match rvT s x with|some v=>(match Ur s r with|some l=>af (v::l)|none=>ah)|none=>ah
structure FT where
 pre:Tm
 post:Tm
 hints:PT adz
def aaj (con:FuncId->Option cg) (bY:TypeId->Option Ty) (inert:FuncId->Bool) (F:Option SF) (D:FT) (x:D.pre.ty.den):Option D.post.ty.den:=
 match F with
 |some I=>(match Dc D.pre x with
  |some (args,h)=>if eK args.length I.nt&&eK D.pre.bs.length D.post.bs.length then
    pd D.pre.bs.length con bY inert (DW D.hints I.code 0).1 ⟨KY 0 args,h,D.pre.bs.length⟩ λex s=>(match ex with
    |.exit _=>ah
    |_=>(match Ur s I.res with
     |some l=>(match EL D.pre.bs.length D.post l s.h with
      |some ⟨y,_,_,_⟩=>(match Dc D.post y with|some _=>af y|none=>ah)
      |none=>ah)
     |none=>ah)) else ah
  |none=>ah)
 |none=>ah
abbrev aM:Ty:=(.int .i64)
abbrev ky:Ty:=(.st (.pr .str (.pr aM (.pr aM (.pr .bool aM)))))
abbrev q_:Ty:=(.st (.pr .str .bool))
abbrev lm:Ty:=(.st (.pr .str aM))
abbrev oB:Ty:=(.st (.pr aM (.pr aM aM)))
abbrev md:Ty:=(.st (.pr (.sl ky) (.pr (.sl q_) (.pr (.sl lm) (.pr (.sl .str) (.pr (.sl .str) (.sl oB)))))))
abbrev uO:Ty:=(.sl (.sl aM))
abbrev eU:Ty:=(.st (.pr aM (.pr (.sl aM) (.pr uO aM))))
abbrev qY:Ty:=(.st (.pr aM (.pr aM (.pr aM (.pr aM (.pr aM aM))))))
abbrev d_:Ty:=(.st (.pr aM (.sl aM)))
abbrev p_:Ty:=(.sl .bool)
abbrev ie:Ty:=(.st (.pr aM (.pr aM .bool)))
abbrev HI:Ty:=(.st (.pr (.sl d_) (.pr aM (.pr p_ (.sl ie)))))
abbrev fH:Ty:=(.st (.pr aM (.pr aM (.pr aM (.pr aM (.pr aM (.pr (.sl aM) (.sl aM))))))))
abbrev G_:Ty:=(.st (.pr aM (.pr aM (.pr .str (.pr aM (.pr aM .str))))))
abbrev s8:Ty:=(.st (.pr .str (.pr aM (.pr (.sl .str) (.sl .sm)))))
abbrev NT:Ty:=(.st (.pr (.sl G_) (.sl s8)))
abbrev xi:Ty:=(.st (.pr aM (.sl qY)))
abbrev uN:Ty:=(.st (.pr md (.sl xi)))
abbrev vZ:Ty:=(.st (.pr HI (.pr (.sl aM) (.pr (.sl aM) (.sl eU)))))
abbrev iQ:Ty:=(.st (.pr HI (.pr (.sl aM) (.pr (.sl aM) (.sl aM)))))
abbrev Ef:Ty:=(.sl (.int .u8))
abbrev yQ:Ty:=(.st (.pr Ef aM))
abbrev gR:Ty:=(.st (.pr aM aM))
abbrev oA:Ty:=(.st (.pr md (.sl fH)))
abbrev Tn:=((List UInt8)×Int×Int×Bool×Int)
abbrev gP:=(List Tn)
abbrev gC:=(List ((List UInt8)×Bool))
abbrev fm:=((List UInt8)×Int)
abbrev cf:=(List (List UInt8))
abbrev dz:=(gP×gC×(List fm)×cf×cf×List (Int×Int×Int))
abbrev rU:=(gP×gC×(List fm)×cf×cf×(List (Int×Int×Int))×cf×Int×Int)
abbrev gI:=(List (Int×List Int))
abbrev dy:=(Int×Int×Bool)
abbrev pa:=(gI×Int×(List Bool)×List dy)
abbrev ua:=(Int×(List Int)×(List (List Int))×Int)
abbrev jR:=(Int×Int×Int×Int×Int×Int)
abbrev gh:=(Int×Int×Int×Int×Int×(List Int)×List Int)
abbrev ad9:=(Int×Int×(List UInt8)×Int×Int×List UInt8)
abbrev sq:=(List ad9)
abbrev sk:=((List UInt8)×Int×cf×List Sx)
abbrev yS:=(Int×Int×Bool×Bool×Bool×Bool)
abbrev Ab:=(dz×List (Int×List jR))
abbrev vW:=(Int×Int×Int×Int×Int)
abbrev eH:=(pa×(List Int)×(List Int)×List Int)
abbrev fE:=((List Int)×Int)
abbrev xg:=(pa×(List Int)×(List Int)×List ua)
abbrev HC:=(Int×Int×(List UInt8)×(List UInt8)×Int×Int×List UInt8)
abbrev qZ:=(sq×(List sk)×Int)
abbrev To:=(Bool×List (List UInt8))
abbrev Ya23:=(Int×Int×ua×ua×Int×(List Int)×(List (List Int))×Int)
abbrev Ya24:=(ua×Int×Int×ua×Int×(List Int)×(List (List Int))×Int)
abbrev Ya25:=(ua×ua×Int×Int×Int×(List Int)×(List (List Int))×Int)
abbrev adb:=((List Sx)×yS×fE×Bool×List (List UInt8))
abbrev Ya27:=(Int×Int×ua×Int×(List Int)×(List (List Int))×Int)
abbrev Ya28:=(ua×Int×Int×Int×(List Int)×(List (List Int))×Int)
abbrev Ya29:=(Int×Int×Int×(List Int)×(List (List Int))×Int)
abbrev Zu:=(Int×yS×fE×Bool×List (List UInt8))
abbrev ada:=(Sx×yS×fE×Bool×List (List UInt8))
abbrev agq:=((Int×Int)×qZ×(Bool×List Sx)×cf×List (List UInt8))
abbrev Mv:=(Sx×rU×List jR)
abbrev Ec:=(xg×gh×Bool)
abbrev ad8:=((Sx×Int×Int×Int)×rU×List jR)
abbrev agp:=((Int×Int)×yS×fE×Bool×List (List UInt8))
abbrev ago:=(fm×yS×fE×Bool×List (List UInt8))
abbrev Zt:=(yS×fE×To×List Sx)
abbrev agn:=(Xp×yS×fE×Bool×List (List UInt8))
abbrev Ya42:=(ua×ua×ua×Int×Int)
abbrev ad7:=((List Sx)×rU×List jR)
abbrev aZ {α:Type} (l:List α):Int:=aP (al l)
abbrev cD (n:Int):Int:=bk .i64 (n+1)
abbrev aF {R α:Type} (x:α):Option (R⊕α):=af (bP x)
abbrev cK {R α:Type} (x:R):Option (R⊕α):=af (lz x)
abbrev bB {R:Type} (T:Ty) (l:List T.den) (j:Int) (k:T.den->Option R):Option R:=chk (fc j (al l)) λ_=>lt (aK (T:=T) l j) k
abbrev kB {R:Type} (T:Ty) (l:List T.den) (j:Int) (k:T.den->Option R):Option R:=chk (fc j (al l)) λ_=>chk (fc j (al l)) λ_=>lt (aK (T:=T) l j) k
abbrev wa {R α:Type} (j:Int) (l:List α) (k:Option R):Option R:=chk (fc j (al l)) λ_=>k
abbrev bC {R:Type} (b:Bool) (k:Option R):Option R:=chk b λ_=>k
abbrev be {R:Type} (a b:Int) (t f:Option R):Option R:=bcase (decide (a=b)) t f
abbrev iV {R:Type} (a b:Int) (t f:Option R):Option R:=bcase (!decide (a=b)) t f
abbrev bz {R:Type} (a b:Int) (t f:Option R):Option R:=bcase (fR a b) t f
abbrev iW {R:Type} (a b:Int) (t f:Option R):Option R:=bcase (c8 a b) t f
def ck {R:Type} (b:Bool) (k:Option R):Option R:=chk b λ_=>chk b λ_=>k
def em (s:Sx):Sx:=nP (Sx.op s,Sx.line s,Sx.name s,Sx.arg s,Sx.index s,ec (Xp.op (Sx.expr s),Xp.n (Sx.expr s),Xp.name (Sx.expr s),Xp.l (Sx.expr s)),Sx.body s,Sx.els s)
def kr (x:Unit):Option cf:=
 (af ([[118,97,114],[118,111,108,97,116,105,108,101],[109,117,116,101,120],[114,119,108,111,99,107],[99,111,110,100],[102,117,116,117,114,101],[116,104,114,101,97,100],[105,102],[101,108,115,101],[119,104,105,108,101],[108,111,99,107],[114,101,97,100],[119,114,105,116,101],[116,114,97,110,115,97,99,116,105,111,110],[97,116,111,109,105,99],[119,97,105,116],[110,111,116,105,102,121],[110,111,116,105,102,121,97,108,108],[115,112,97,119,110],[106,111,105,110],[115,101,116],[103,101,116]]))
def jF (x:List UInt8):Option (Bool):=
 (obind (kr ()) λJ=>(iter (σ:=Int) (λI=>(bz I (aZ J) (bB (.str) J I λM=>(bcase (decide ((M:List UInt8)=x)) (aF ai) (cK (cD I)))) (aF aj))) 0))
def lx (x:Int):Option (Bool):=
 (jn (α:=Bool) (iW 97 x (iW x 122 (aF ai) (iW 65 x (aF (c8 x 90)) (aF aj))) (iW 65 x (aF (c8 x 90)) (aF aj))) λI=>(af I))
def rE (x:Int):Option (Bool):=
 (jn (α:=Bool) (iW 48 x (aF (c8 x 57)) (aF aj)) λI=>(af I))
def pq (x:Int):Option (Bool):=
 (jn (α:=Bool) (obind (lx x) λJ=>(bcase J (aF ai) (obind (rE x) λI=>(bcase I (aF ai) (aF (decide ((x:Int)=95))))))) λM=>(af M))
def fe (x:List UInt8):Option (Bool):=
 (jn (α:=Bool) (bz (aZ x) 1 (aF ai) (bz 12 (aZ x) (aF ai) (wa 0 x (obind (lx (AD x 0)) λU=>(bcase (!U) (aF ai) (obind (jF x) λM=>(aF M))))))) λY=>(bcase Y (af aj) (iter (σ:=Int) (λI=>(bz I (aZ x) (wa I x (obind (pq (AD x I)) λJ=>(bcase (!J) (aF aj) (cK (cD I))))) (aF ai))) 0)))
def fY (x:Bool):Option (Int):=
 (bcase x (af 1) (af 0))
def ur (x:Int×Int):Option (Int×Bool):=
 (be x.1 4 (af ((bk .i64 (0-x.2)),ai)) (be x.1 5 (obind (fY (decide ((x.2:Int)=0))) λI=>(af (I,ai))) (af (0,aj))))
def sB (x:Int×Int×Int):Option (Int×Bool):=
 (be x.1 6 (af ((bk .i64 (x.2.1+x.2.2)),ai)) (be x.1 7 (af ((bk .i64 (x.2.1-x.2.2)),ai)) (be x.1 8 (af ((bk .i64 (x.2.1*x.2.2)),ai)) (be x.1 9 (be x.2.2 0 (af (0,ai)) (bC (!decide ((x.2.2:Int)=0)) (af ((bk .i64 (Int.tdiv x.2.1 x.2.2)),ai)))) (be x.1 10 (be x.2.2 0 (af (0,ai)) (bC (!decide ((x.2.2:Int)=0)) (af ((Ak x.2.1 x.2.2),ai)))) (be x.1 11 (obind (fY (decide ((x.2.1:Int)=x.2.2))) λy1=>(af (y1,ai))) (be x.1 12 (obind (fY (!decide ((x.2.1:Int)=x.2.2))) λy2=>(af (y2,ai))) (be x.1 13 (obind (fY (fR x.2.1 x.2.2)) λy3=>(af (y3,ai))) (be x.1 14 (obind (fY (c8 x.2.1 x.2.2)) λy4=>(af (y4,ai))) (be x.1 15 (obind (fY (fR x.2.2 x.2.1)) λy5=>(af (y5,ai))) (be x.1 16 (obind (fY (c8 x.2.2 x.2.1)) λZ=>(af (Z,ai))) (be x.1 17 (jn (α:=Int×Bool) (iV x.2.1 0 (obind (fY (!decide ((x.2.2:Int)=0))) λY=>(aF (Y,ai))) (obind (fY aj) λU=>(aF (U,ai)))) λx7=>(af x7)) (be x.1 18 (jn (α:=Int×Bool) (iV x.2.1 0 (obind (fY ai) λJ=>(aF (J,ai))) (obind (fY (!decide ((x.2.2:Int)=0))) λI=>(aF (I,ai)))) λM=>(af M)) (af (0,aj)))))))))))))))
def rC (x:Int×Int):Option (Int):=
 (bz x.2 1 (af 0) (bC (!decide ((x.2:Int)=0)) (jn (α:=Int) (bz (Ak x.1 x.2) 0 (aF (bk .i64 ((Ak x.1 x.2)+x.2))) (aF (Ak x.1 x.2))) λI=>(af I))))
def mm (x:Int):Option (Int):=
 (jn (α:=Bool) (be x 1 (aF ai) (aF (decide ((x:Int)=2)))) λM=>(bcase M (af 0) (jn (α:=Bool) (iW 3 x (aF (c8 x 5)) (aF aj)) λJ=>(bcase J (af 1) (jn (α:=Bool) (iW 6 x (aF (c8 x 18)) (aF aj)) λI=>(bcase I (af 2) (af (-1))))))))
def l_ (rr02_ShapedExpr:Xp->Option (Bool)) (x:Xp):Option (Bool):=
 (jn (α:=Bool×Xp) (be (Xp.op x) 2 (aF (ai,ec ((Xp.op x),(Xp.n x),(Xp.name x),(Xp.l x)))) (aF ((decide (((Xp.op x):Int)=3)),ec ((Xp.op x),(Xp.n x),(Xp.name x),(Xp.l x))))) λI=>(jn (α:=Bool×Xp) (obind (mm (Xp.op I.2)) λy3=>(iV y3 (aP (al (Xp.l I.2))) (aF (ai,ec ((Xp.op I.2),(Xp.n I.2),(Xp.name I.2),(Xp.l I.2)))) (bcase ((I.1==(!decide (((Xp.name I.2):List UInt8)=([])))) !=ai) (aF (ai,ec ((Xp.op I.2),(Xp.n I.2),(Xp.name I.2),(Xp.l I.2)))) (bcase I.1 (obind (fe (Xp.name I.2)) λZ=>(bcase (!Z) (aF (ai,ec ((Xp.op I.2),(Xp.n I.2),(Xp.name I.2),(Xp.l I.2)))) (bz (Xp.n I.2) 0 (aF (ai,ec ((Xp.op I.2),(Xp.n I.2),(Xp.name I.2),(Xp.l I.2)))) (iV (Xp.op I.2) 1 (aF ((!decide (((Xp.n I.2):Int)=0)),ec ((Xp.op I.2),(Xp.n I.2),(Xp.name I.2),(Xp.l I.2)))) (aF (aj,ec ((Xp.op I.2),(Xp.n I.2),(Xp.name I.2),(Xp.l I.2)))))))) (bz (Xp.n I.2) 0 (aF (ai,ec ((Xp.op I.2),(Xp.n I.2),(Xp.name I.2),(Xp.l I.2)))) (iV (Xp.op I.2) 1 (aF ((!decide (((Xp.n I.2):Int)=0)),ec ((Xp.op I.2),(Xp.n I.2),(Xp.name I.2),(Xp.l I.2)))) (aF (aj,ec ((Xp.op I.2),(Xp.n I.2),(Xp.name I.2),(Xp.l I.2)))))))))) λM=>(bcase M.1 (af aj) (iter (σ:=Int×Xp) (λJ=>(bz J.1 (aP (al (Xp.l J.2))) (bB (.ex) (Xp.l J.2) J.1 λU=>(obind (rr02_ShapedExpr U) λY=>(bcase (!Y) (aF aj) (cK ((cD J.1),ec ((Xp.op J.2),(Xp.n J.2),(Xp.name J.2),(Xp.l J.2))))))) (aF ai))) (0,ec ((Xp.op M.2),(Xp.n M.2),(Xp.name M.2),(Xp.l M.2)))))))
def ib:Nat->Xp->Option (Bool)
 |0,_=>ah
 |n+1,x=>l_ (ib n) x
theorem sJ (n:Nat) (x:Xp):ib (n+1) x=l_ (ib n) x:=rfl
def jb (x:Xp):Option (Bool):=ib fuel x
def po (x:Xp):Option (Bool):=
 (jn (α:=Bool) (be (Xp.op x) 0 (be (Xp.n x) 0 (bcase (decide (((Xp.name x):List UInt8)=([]))) (aF (decide (((aP (al (Xp.l x))):Int)=0))) (aF aj)) (aF aj)) (aF aj)) λI=>(af I))
def j7 (rr02_ShapedStmt:Sx->Option (Bool)) (rr02_ShapedStmts:(List Sx)->Option (Bool)) (x:Sx):Option (Bool):=
 (jn (α:=Bool×Sx) (bz (Sx.op x) 1 (aF (ai,em x)) (aF ((fR 15 (Sx.op x)),em x))) λx1=>(bcase x1.1 (af aj) (jn (α:=Bool×Sx) (be (Sx.op x1.2) 2 (aF (ai,em x1.2)) (be (Sx.op x1.2) 3 (aF (ai,em x1.2)) (be (Sx.op x1.2) 7 (aF (ai,em x1.2)) (aF ((decide (((Sx.op x1.2):Int)=8)),em x1.2))))) λY=>(jn (α:=Bool×Sx) (bcase Y.1 (bcase (!decide (((Sx.name Y.2):List UInt8)=([]))) (aF (ai,em Y.2)) (bcase (!Y.1) (obind (fe (Sx.name Y.2)) λy4=>(aF ((!y4),em Y.2))) (aF (aj,em Y.2)))) (bcase (!Y.1) (obind (fe (Sx.name Y.2)) λy5=>(aF ((!y5),em Y.2))) (aF (aj,em Y.2)))) λU=>(bcase U.1 (af aj) (jn (α:=Bool×Sx) (be (Sx.op U.2) 15 (obind (fe (Sx.arg U.2)) λy7=>(bcase (!y7) (aF (ai,em U.2)) (iV (Sx.op U.2) 15 (aF ((!decide (((Sx.arg U.2):List UInt8)=([]))),em U.2)) (aF (aj,em U.2))))) (iV (Sx.op U.2) 15 (aF ((!decide (((Sx.arg U.2):List UInt8)=([]))),em U.2)) (aF (aj,em U.2)))) λM=>(bcase M.1 (af aj) (jn (α:=Bool×Sx) (bz 1 (aP (al (Sx.index M.2))) (aF (ai,em M.2)) (iV (Sx.op M.2) 1 (bz 0 (aP (al (Sx.index M.2))) (aF (ai,em M.2)) (be (aP (al (Sx.index M.2))) 1 (bB (.ex) (Sx.index M.2) 0 λz9=>(obind (jb z9) λy10=>(aF ((!y10),em M.2)))) (aF (aj,em M.2)))) (be (aP (al (Sx.index M.2))) 1 (bB (.ex) (Sx.index M.2) 0 λz11=>(obind (jb z11) λy12=>(aF ((!y12),em M.2)))) (aF (aj,em M.2))))) λx8=>(bcase x8.1 (af aj) (jn (α:=Bool×Sx) (be (Sx.op x8.2) 1 (aF (ai,em x8.2)) (be (Sx.op x8.2) 2 (aF (ai,em x8.2)) (be (Sx.op x8.2) 3 (aF (ai,em x8.2)) (aF ((decide (((Sx.op x8.2):Int)=14)),em x8.2))))) λI=>(jn (α:=Bool×Sx) (bcase I.1 (obind (jb (ec ((Xp.op (Sx.expr I.2)),(Xp.n (Sx.expr I.2)),(Xp.name (Sx.expr I.2)),(Xp.l (Sx.expr I.2))))) λy15=>(bcase (!y15) (aF (ai,em I.2)) (bcase (!I.1) (obind (po (ec ((Xp.op (Sx.expr I.2)),(Xp.n (Sx.expr I.2)),(Xp.name (Sx.expr I.2)),(Xp.l (Sx.expr I.2))))) λy16=>(aF ((!y16),em I.2))) (aF (aj,em I.2))))) (bcase (!I.1) (obind (po (ec ((Xp.op (Sx.expr I.2)),(Xp.n (Sx.expr I.2)),(Xp.name (Sx.expr I.2)),(Xp.l (Sx.expr I.2))))) λy17=>(aF ((!y17),em I.2))) (aF (aj,em I.2)))) λZ=>(bcase Z.1 (af aj) (jn (α:=Bool×Sx) (iW 2 (Sx.op Z.2) (aF ((c8 (Sx.op Z.2) 8),em Z.2)) (aF (aj,em Z.2))) λJ=>(jn (α:=Bool×Sx) (bcase (!J.1) (bz 0 (aP (al (Sx.body J.2))) (aF (ai,em J.2)) (iV (Sx.op J.2) 2 (aF ((fR 0 (aP (al (Sx.els J.2)))),em J.2)) (aF (aj,em J.2)))) (iV (Sx.op J.2) 2 (aF ((fR 0 (aP (al (Sx.els J.2)))),em J.2)) (aF (aj,em J.2)))) λx19=>(bcase x19.1 (af aj) (jn (α:=Bool) (obind (rr02_ShapedStmts (Sx.body x19.2)) λy21=>(bcase y21 (obind (rr02_ShapedStmts (Sx.els x19.2)) λy22=>(aF y22)) (aF aj))) λx20=>(af x20)))))))))))))))))
def jx (rr02_ShapedStmt:Sx->Option (Bool)) (rr02_ShapedStmts:(List Sx)->Option (Bool)) (x:List Sx):Option (Bool):=
 (iter (σ:=Int) (λI=>(bz I (aZ x) (wa I x (obind (rr02_ShapedStmt (aK (T:=.sm) x I)) λJ=>(bcase (!J) (aF aj) (cK (cD I))))) (aF ai))) 0)
mutual
def eB:Nat->Sx->Option (Bool)
 |0,_=>ah
 |n+1,x=>j7 (eB n) (dH n) x
def dH:Nat->(List Sx)->Option (Bool)
 |0,_=>ah
 |n+1,x=>jx (eB n) (dH n) x
end
theorem zB (n:Nat) (x:Sx):eB (n+1) x=j7 (eB n) (dH n) x:=rfl
theorem yN (n:Nat) (x:List Sx):dH (n+1) x=jx (eB n) (dH n) x:=rfl
def nN (x:List Sx):Option (Bool):=dH fuel x
def jZ (x:Int×Int×(List UInt8)×Int×Int×List UInt8):Option (Bool):=
 (jn (α:=Bool×Int×Int×(List UInt8)×Int×Int×List UInt8) (bz x.1 1 (aF (ai,x)) (bz 6 x.1 (aF (ai,x)) (obind (fe x.p2) λU=>(bcase (!U) (aF (ai,x)) (bz x.p3 0 (aF (ai,x)) (iV x.1 1 (aF ((!decide ((x.p3:Int)=0)),x)) (aF (aj,x)))))))) λI=>(bcase I.1 (af aj) (jn (α:=Bool×Int×Int×(List UInt8)×Int×Int×List UInt8) (be I.2.1 5 (obind (fe I.q6) λM=>(bcase (!M) (aF (ai,I.2)) (iV I.2.1 5 (aF ((!decide ((I.q6:List UInt8)=([]))),I.2)) (aF (aj,I.2))))) (iV I.2.1 5 (aF ((!decide ((I.q6:List UInt8)=([]))),I.2)) (aF (aj,I.2)))) λJ=>(bcase J.1 (af aj) (jn (α:=Bool) (bz (-9223372036854775808) J.p5 (be J.p5 0 (aF ai) (be J.2.1 1 (aF ai) (aF (decide ((J.2.1:Int)=2))))) (aF aj)) λY=>(af Y))))))
def pN (x:sq×List sk):Option (Bool):=
 (iter (σ:=Int×sq×List sk) (λM=>(bz M.1 (aZ M.2.1) (bB G_ M.2.1 M.1 λz2=>(obind (jZ z2) λy3=>(bcase (!y3) (aF aj) (cK ((cD M.1),M.2))))) (obind (iter (σ:=Int×sq×List sk) (λJ=>(bz J.1 (aZ J.2.2) (bB s8 J.2.2 J.1 λz5=>(iter (σ:=Int×(sq×List sk)×(List UInt8)×Int×cf×List Sx) (λI=>(bz I.1 (aZ I.p4) (bB (.str) I.p4 I.1 λz7=>(obind (fe z7) λy8=>(bcase (!y8) (aF (bP aj)) (cK ((cD I.1),I.2))))) (obind (jn (α:=Bool×sq×List sk) (obind (fe I.p2) λY=>(bcase (!Y) (aF (ai,I.2.1)) (obind (nN I.q5) λU=>(aF ((!U),I.2.1))))) λZ=>(bcase Z.1 (aF aj) (cK ((cD J.1),Z.2)))) λr=>af (bP r)))) (0,J.2,z5))) (aF (fR 0 (aZ J.2.2))))) (0,M.2)) λr=>af (bP r)))) (0,x))
def iZ (x:cf×List UInt8):Option (Int):=
 (iter (σ:=Int) (λI=>(bz I (aZ x.1) (bB (.str) x.1 I λJ=>(bcase (decide ((J:List UInt8)=x.2)) (aF I) (cK (cD I)))) (aF (-1)))) 0)
def ia (x:sq×List UInt8):Option (Int):=
 (iter (σ:=Int) (λI=>(bz I (aZ x.1) (bB G_ x.1 I λJ=>(bcase (decide ((J.2.2.1:List UInt8)=x.2)) (aF I) (cK (cD I)))) (aF (-1)))) 0)
def gU (x:(List sk)×List UInt8):Option (Int):=
 (iter (σ:=Int) (λI=>(bz I (aZ x.1) (bB s8 x.1 I λJ=>(bcase (decide ((J.1:List UInt8)=x.2)) (aF I) (cK (cD I)))) (aF (-1)))) 0)
def pM (x:(sq×List sk)×Int×List UInt8):Option (Int):=
 (jn (α:=Bool×sq×List sk) (iW 0 x.2.1 (bz x.2.1 (aZ x.1.2) (bB s8 x.1.2 x.2.1 λz2=>(obind (iZ (z2.2.2.1,x.2.2)) λy3=>(aF ((c8 0 y3),x.1)))) (aF (aj,x.1))) (aF (aj,x.1))) λI=>(bcase I.1 (af 8) (obind (ia (I.2.1,x.2.2)) λM=>(bz M 0 (obind (gU (I.2.2,x.2.2)) λy5=>(iW 0 y5 (af 7) (af 0))) (wa M I.2.1 (lt ((aK (T:=G_) I.2.1 M).1) λJ=>(be J 1 (bB G_ I.2.1 M λZ=>(iV Z.2.2.2.1 0 (af 2) (af 1))) (be J 2 (af 1) (jn (α:=Bool×sq×List sk) (be J 3 (aF ((decide ((J:Int)=3)),I.2)) (be J 4 (aF ((decide ((J:Int)=4)),I.2)) (be J 5 (aF ((decide ((J:Int)=5)),I.2)) (aF ((decide ((J:Int)=6)),I.2))))) λU=>(bcase U.1 (bB G_ U.2.1 M λY=>(af Y.1)) (af 9)))))))))))
def gG (x:(sq×List sk)×Int×(List UInt8)×Int×Int):Option (Int):=
 (obind (pM (x.1,x.2.1,x.p2)) λI=>(be I 0 (af 5) (jn (α:=Bool) (iV I x.p3 (aF (!decide ((I:Int)=x.q4))) (aF aj)) λJ=>(bcase J (af 6) (af 0)))))
def uC (rr04_Nodes:Xp->Option (Int×Int)) (x:Xp):Option (Int×Int):=
 (iter (σ:=(Int×Int×Int)×Xp) (λI=>(bz I.1.2.2 (aP (al (Xp.l I.2))) (bB (.ex) (Xp.l I.2) I.1.2.2 λM=>(obind (rr04_Nodes M) λJ=>(cK (((bk .i64 (I.1.1+J.1)),(iE I.1.2.1 J.2),(cD I.1.2.2)),ec ((Xp.op I.2),(Xp.n I.2),(Xp.name I.2),(Xp.l I.2)))))) (aF (I.1.1,(cD I.1.2.1))))) ((1,0,0),ec ((Xp.op x),(Xp.n x),(Xp.name x),(Xp.l x))))
def nk:Nat->Xp->Option (Int×Int)
 |0,_=>ah
 |n+1,x=>uC (nk n) x
theorem yn (n:Nat) (x:Xp):nk (n+1) x=uC (nk n) x:=rfl
def B5 (x:Xp):Option (Int×Int):=nk fuel x
def uB (rr04_names:((sq×List sk)×Int×Xp)->Option (Int)) (x:(sq×List sk)×Int×Xp):Option (Int):=
 (jn (α:=Int×(sq×List sk)×Xp) (be (Xp.op x.2.2) 2 (obind (gG (x.1,x.2.1,(Xp.name x.2.2),8,1)) λy2=>(aF (y2,x.1,ec ((Xp.op x.2.2),(Xp.n x.2.2),(Xp.name x.2.2),(Xp.l x.2.2))))) (be (Xp.op x.2.2) 3 (obind (gG (x.1,x.2.1,(Xp.name x.2.2),2,2)) λZ=>(aF (Z,x.1,ec ((Xp.op x.2.2),(Xp.n x.2.2),(Xp.name x.2.2),(Xp.l x.2.2))))) (aF (0,x.1,ec ((Xp.op x.2.2),(Xp.n x.2.2),(Xp.name x.2.2),(Xp.l x.2.2)))))) λM=>(iter (σ:=(Int×Int)×(sq×List sk)×Xp) (λI=>(jn (α:=Bool×(sq×List sk)×Xp) (bz I.1.2 (aP (al (Xp.l I.2.2))) (aF ((decide ((I.1.1:Int)=0)),I.2.1,ec ((Xp.op I.2.2),(Xp.n I.2.2),(Xp.name I.2.2),(Xp.l I.2.2)))) (aF (aj,I.2.1,ec ((Xp.op I.2.2),(Xp.n I.2.2),(Xp.name I.2.2),(Xp.l I.2.2))))) λJ=>(bcase J.1 (bB (.ex) (Xp.l J.2.2) I.1.2 λU=>(obind (rr04_names (J.2.1,x.2.1,U)) λY=>(cK ((Y,(cD I.1.2)),J.2.1,ec ((Xp.op J.2.2),(Xp.n J.2.2),(Xp.name J.2.2),(Xp.l J.2.2)))))) (aF I.1.1)))) ((M.1,0),M.2.1,ec ((Xp.op M.2.2),(Xp.n M.2.2),(Xp.name M.2.2),(Xp.l M.2.2)))))
def nj:Nat->((sq×List sk)×Int×Xp)->Option (Int)
 |0,_=>ah
 |n+1,x=>uB (nj n) x
theorem ym (n:Nat) (x:(sq×List sk)×Int×Xp):nj (n+1) x=uB (nj n) x:=rfl
def B4 (x:(sq×List sk)×Int×Xp):Option (Int):=nj fuel x
def ml (x:(sq×List sk)×Int×Xp):Option (Int):=
 (obind (jb (ec ((Xp.op x.2.2),(Xp.n x.2.2),(Xp.name x.2.2),(Xp.l x.2.2)))) λU=>(bcase (!U) (af 3) (obind (B5 (ec ((Xp.op x.2.2),(Xp.n x.2.2),(Xp.name x.2.2),(Xp.l x.2.2)))) λJ=>(jn (α:=Bool×(sq×List sk)×Xp) (bz 24 J.1 (aF (ai,x.1,ec ((Xp.op x.2.2),(Xp.n x.2.2),(Xp.name x.2.2),(Xp.l x.2.2)))) (aF ((fR 6 J.2),x.1,ec ((Xp.op x.2.2),(Xp.n x.2.2),(Xp.name x.2.2),(Xp.l x.2.2))))) λI=>(bcase I.1 (af 2) (obind (B4 (I.2.1,x.2.1,ec ((Xp.op I.2.2),(Xp.n I.2.2),(Xp.name I.2.2),(Xp.l I.2.2)))) λM=>(af M)))))))
def c9 (x:Bool):Option (Int):=
 (bcase x (af 7) (af 0))
def iY (x:Int×Int):Option (Int):=
 (iV x.1 0 (af x.1) (af x.2))
def dV (x:(Int×Int×List UInt8)×qZ×(Bool×List Sx)×cf×List (List UInt8)):Option (Bool×qZ×(Bool×List Sx)×cf×List (List UInt8)):=
 (iter (σ:=Int×qZ×(Bool×List Sx)×cf×List (List UInt8)) (λI=>(bz I.1 (aZ I.p2.2) (kB (.sm) I.p2.2 I.1 λJ=>(jn (α:=Bool×qZ×(Bool×List Sx)×cf×List (List UInt8)) (be (Sx.op J) x.1.1 (bcase (decide ((x.1.2.2:List UInt8)=([]))) (aF (ai,I.2)) (aF ((decide (((Sx.name J):List UInt8)=x.1.2.2)),I.2))) (be (Sx.op J) x.1.2.1 (bcase (decide ((x.1.2.2:List UInt8)=([]))) (aF (ai,I.2)) (aF ((decide (((Sx.name J):List UInt8)=x.1.2.2)),I.2))) (aF (aj,I.2)))) λM=>(bcase M.1 (aF (ai,M.2)) (cK ((cD I.1),M.2))))) (aF (aj,I.2)))) (0,x.2))
def mj (x:Sx×qZ×(Bool×List Sx)×cf×List (List UInt8)):Option (Int×qZ×(Bool×List Sx)×cf×List (List UInt8)):=
 (obind (dV ((7,7,[]),x.2)) λy1=>(bC (aC (al x.q4) (al y1.q4)&&(aC (al x.p3) (al y1.p3)&&(((x.p2.1==y1.p2.1)&&ai)&&aC (al x.p2.2) (al y1.p2.2)&&ai))) (obind (dV ((8,8,[]),y1.2)) λy2=>(bC (aC (al y1.q4) (al y2.q4)&&(aC (al y1.p3) (al y2.p3)&&(((y1.p2.1==y2.p2.1)&&ai)&&aC (al y1.p2.2) (al y2.p2.2)&&ai))) (obind (dV ((3,3,[]),y2.2)) λy3=>(bC (aC (al y2.q4) (al y3.q4)&&(aC (al y2.p3) (al y3.p3)&&(((y2.p2.1==y3.p2.1)&&ai)&&aC (al y2.p2.2) (al y3.p2.2)&&ai))) (be (Sx.op x.1) 1 (be (aP (al (Sx.index x.1))) 0 (obind (gG ((x.2.1.1,x.2.1.2.1),x.2.1.2.2,(Sx.name x.1),8,1)) λy4=>(obind (ml ((x.2.1.1,x.2.1.2.1),x.2.1.2.2,ec ((Xp.op (Sx.expr x.1)),(Xp.n (Sx.expr x.1)),(Xp.name (Sx.expr x.1)),(Xp.l (Sx.expr x.1))))) λy5=>(obind (iY (y4,y5)) λy6=>(af (y6,y3.2))))) (obind (gG ((x.2.1.1,x.2.1.2.1),x.2.1.2.2,(Sx.name x.1),2,2)) λy7=>(bB (.ex) (Sx.index x.1) 0 λz8=>(obind (ml ((x.2.1.1,x.2.1.2.1),x.2.1.2.2,z8)) λy9=>(obind (ml ((x.2.1.1,x.2.1.2.1),x.2.1.2.2,ec ((Xp.op (Sx.expr x.1)),(Xp.n (Sx.expr x.1)),(Xp.name (Sx.expr x.1)),(Xp.l (Sx.expr x.1))))) λy10=>(obind (iY (y9,y10)) λy11=>(obind (iY (y7,y11)) λy12=>(af (y12,y3.2))))))))) (jn (α:=Bool×qZ×(Bool×List Sx)×Sx×(sq×List sk)×cf×List (List UInt8)) (be (Sx.op x.1) 2 (aF ((decide (((Sx.op x.1):Int)=2)),y3.2.1,y3.p2,em x.1,(x.2.1.1,x.2.1.2.1),y3.q3)) (aF ((decide (((Sx.op x.1):Int)=3)),y3.2.1,y3.p2,em x.1,(x.2.1.1,x.2.1.2.1),y3.q3))) λM=>(bcase M.1 (obind (ml (M.p4,x.2.1.2.2,ec ((Xp.op (Sx.expr M.p3)),(Xp.n (Sx.expr M.p3)),(Xp.name (Sx.expr M.p3)),(Xp.l (Sx.expr M.p3))))) λy14=>(af (y14,M.2.1,M.p2,M.q5))) (be (Sx.op x.1) 4 (jn (α:=Int×qZ×(Bool×List Sx)×cf×List (List UInt8)) (obind (gG (M.p4,x.2.1.2.2,(Sx.name M.p3),3,3)) λy16=>(bcase y1.1 (obind (c9 ai) λy17=>(obind (iY (y16,y17)) λy18=>(aF (y18,M.2.1,M.p2,M.q5)))) (obind (dV ((4,4,(Sx.name M.p3)),M.2.1,M.p2,M.q5)) λy19=>(bC (aC (al M.q6) (al y19.q4)&&(aC (al M.p5) (al y19.p3)&&(((M.p2.1==y19.p2.1)&&ai)&&aC (al M.p2.2) (al y19.p2.2)&&ai))) (obind (c9 y19.1) λy20=>(obind (iY (y16,y20)) λy21=>(aF (y21,y19.2)))))))) λx15=>(af x15)) (jn (α:=Bool×qZ×(Bool×List Sx)×Sx×(sq×List sk)×cf×List (List UInt8)) (be (Sx.op x.1) 5 (aF ((decide (((Sx.op x.1):Int)=5)),M.2.1,M.p2,em M.p3,M.q4)) (aF ((decide (((Sx.op x.1):Int)=6)),M.2.1,M.p2,em M.p3,M.q4))) λJ=>(bcase J.1 (jn (α:=Int×qZ×(Bool×List Sx)×cf×List (List UInt8)) (obind (gG (J.p4,x.2.1.2.2,(Sx.name J.p3),4,4)) λy24=>(bcase y1.1 (obind (c9 ai) λy25=>(obind (iY (y24,y25)) λy26=>(aF (y26,J.2.1,J.p2,J.q5)))) (obind (dV ((5,6,(Sx.name J.p3)),J.2.1,J.p2,J.q5)) λy27=>(bC (aC (al J.q6) (al y27.q4)&&(aC (al J.p5) (al y27.p3)&&(((J.p2.1==y27.p2.1)&&ai)&&aC (al J.p2.2) (al y27.p2.2)&&ai))) (obind (c9 y27.1) λy28=>(obind (iY (y24,y28)) λy29=>(aF (y29,y27.2)))))))) λx23=>(af x23)) (be (Sx.op x.1) 7 (obind (c9 y1.1) λy30=>(af (y30,J.2.1,J.p2,J.q5))) (be (Sx.op x.1) 8 (jn (α:=Int×qZ×(Bool×List Sx)×cf×List (List UInt8)) (bcase y1.1 (obind (c9 ai) λy32=>(aF (y32,J.2.1,J.p2,J.q5))) (obind (c9 y2.1) λy33=>(aF (y33,J.2.1,J.p2,J.q5)))) λx31=>(af x31)) (jn (α:=Bool×qZ×(Bool×List Sx)×Sx×(sq×List sk)×cf×List (List UInt8)) (be (Sx.op x.1) 9 (aF ((decide (((Sx.op x.1):Int)=9)),J.2.1,J.p2,em J.p3,J.q4)) (be (Sx.op x.1) 10 (aF ((decide (((Sx.op x.1):Int)=10)),J.2.1,J.p2,em J.p3,J.q4)) (aF ((decide (((Sx.op x.1):Int)=11)),J.2.1,J.p2,em J.p3,J.q4)))) λI=>(bcase I.1 (obind (gG (I.p4,x.2.1.2.2,(Sx.name I.p3),5,5)) λy35=>(iV y35 0 (af (y35,I.2.1,I.p2,I.q5)) (obind (ia (I.p4.1,(Sx.name I.p3))) λy36=>(bB G_ I.p4.1 y36 λz37=>(obind (dV ((4,4,z37.2.2.2.2.2),I.2.1,I.p2,I.q5)) λy38=>(bC (aC (al I.q6) (al y38.q4)&&(aC (al I.p5) (al y38.p3)&&(((I.p2.1==y38.p2.1)&&ai)&&aC (al I.p2.2) (al y38.p2.2)&&ai))) (jn (α:=Int×qZ×(Bool×List Sx)×cf×List (List UInt8)) (bcase y1.1 (obind (c9 ai) λy40=>(aF (y40,y38.2))) (bcase (!y38.1) (obind (c9 ai) λy41=>(aF (y41,y38.2))) (be (Sx.op I.p3) 9 (obind (c9 y2.1) λy42=>(aF (y42,y38.2))) (obind (c9 aj) λy43=>(aF (y43,y38.2)))))) λx39=>(af x39)))))))) (be (Sx.op x.1) 12 (obind (gG (I.p4,x.2.1.2.2,(Sx.name I.p3),7,7)) λy44=>(iV y44 0 (af (y44,I.2.1,I.p2,I.q5)) (obind (gU (I.p4.2,(Sx.name I.p3))) λy45=>(jn (α:=Bool×qZ×(Bool×List Sx)×Sx×cf×List (List UInt8)) (bcase y1.1 (aF (ai,I.2.1,I.p2,em I.p3,I.q5)) (bcase y2.1 (aF (ai,I.2.1,I.p2,em I.p3,I.q5)) (bcase y3.1 (aF (ai,I.2.1,I.p2,em I.p3,I.q5)) (be y45 x.2.1.2.2 (aF (ai,I.2.1,I.p2,em I.p3,I.q5)) (aF ((decide ((y45:Int)=0)),I.2.1,I.p2,em I.p3,I.q5)))))) λU=>(bcase U.1 (af (7,U.2.1,U.p2,U.q4)) (obind (iZ (U.p4,(Sx.name U.p3))) λy47=>(iW 0 y47 (af (8,U.2.1,U.p2,U.q4)) (bC (a_ (al U.p4+al ([(Sx.name U.p3)])) 16) (af (0,U.2.1,U.p2,(U.p4++([(Sx.name U.p3)])),U.q5)))))))))) (be (Sx.op x.1) 13 (jn (α:=Int×qZ×(Bool×List Sx)×cf×List (List UInt8)) (obind (gG (I.p4,x.2.1.2.2,(Sx.name I.p3),7,7)) λy49=>(bcase y1.1 (obind (c9 ai) λy50=>(obind (iY (y49,y50)) λy51=>(aF (y51,I.2.1,I.p2,I.q5)))) (bcase y2.1 (obind (c9 ai) λy52=>(obind (iY (y49,y52)) λy53=>(aF (y53,I.2.1,I.p2,I.q5)))) (obind (gU (I.p4.2,(Sx.name I.p3))) λy54=>(obind (c9 (decide ((y54:Int)=x.2.1.2.2))) λy55=>(obind (iY (y49,y55)) λy56=>(aF (y56,I.2.1,I.p2,I.q5)))))))) λx48=>(af x48)) (be (Sx.op x.1) 14 (jn (α:=Int×qZ×(Bool×List Sx)×Sx×(sq×List sk)×cf×List (List UInt8)) (obind (gG (I.p4,x.2.1.2.2,(Sx.name I.p3),6,6)) λy58=>(bcase y1.1 (obind (c9 ai) λy59=>(obind (iY (y58,y59)) λy60=>(aF (y60,I.2.1,I.p2,em I.p3,I.q4)))) (obind (c9 y3.1) λy61=>(obind (iY (y58,y61)) λy62=>(aF (y62,I.2.1,I.p2,em I.p3,I.q4)))))) λZ=>(jn (α:=Int×qZ×(Bool×List Sx)×Sx×(sq×List sk)×cf×List (List UInt8)) (jn (α:=Bool×qZ×(Bool×List Sx)×Sx×(sq×List sk)×cf×List (List UInt8)) (be Z.1 0 (obind (iZ (Z.q6,(Sx.name Z.p3))) λy65=>(aF ((c8 0 y65),Z.2.1,Z.p2,em Z.p3,Z.q4))) (aF (aj,Z.2.1,Z.p2,em Z.p3,Z.q4))) λx64=>(bcase x64.1 (aF (8,x64.2.1,x64.p2,em x64.p3,x64.q4)) (aF (Z.1,x64.2.1,x64.p2,em x64.p3,x64.q4)))) λY=>(bC (a_ (al Y.q6+al ([(Sx.name Y.p3)])) 16) (obind (ml (Y.p4,x.2.1.2.2,ec ((Xp.op (Sx.expr Y.p3)),(Xp.n (Sx.expr Y.p3)),(Xp.name (Sx.expr Y.p3)),(Xp.l (Sx.expr Y.p3))))) λy66=>(obind (iY (Y.1,y66)) λy67=>(af (y67,Y.2.1,Y.p2,Y.p5,(Y.q6++([(Sx.name Y.p3)]))))))))) (obind (gG (I.p4,x.2.1.2.2,(Sx.name I.p3),8,8)) λy68=>(obind (gG (I.p4,x.2.1.2.2,(Sx.arg I.p3),6,6)) λy69=>(obind (c9 y1.1) λy70=>(obind (iY (y69,y70)) λy71=>(obind (iY (y68,y71)) λy72=>(af (y72,I.2.1,I.p2,I.q5))))))))))))))))))))))))))
def mq (rr04_walk_all:((List Sx)×qZ×(Bool×List Sx)×cf×List (List UInt8))->Option agq) (x:(List Sx)×qZ×(Bool×List Sx)×cf×List (List UInt8)):Option agq:=
 (iter (σ:=Int×qZ×(Bool×List Sx)×cf×List (List UInt8)) (λU=>(bz U.1 (aZ x.1) (bB (.sm) x.1 U.1 λZ=>(obind (mj (em Z,U.2)) λY=>(bC (aC (al U.q4) (al U.q4)&&(aC (al U.p3) (al U.p3)&&(((U.p2.1==Y.p2.1)&&ai)&&aC (al U.p2.2) (al Y.p2.2)&&ai))) (jn (α:=Int×qZ×Sx×(Bool×List Sx)×cf×List (List UInt8)) (bz 6 (bk .i64 ((aZ Y.p2.2)+1)) (aF (2,Y.2.1,em Z,Y.2.2)) (aF (Y.1,Y.2.1,em Z,Y.2.2))) λI=>(iV I.1 0 (aF ((I.1,(Sx.line I.p2)),I.2.1,I.q3)) (bC (a_ (al I.p3.2+al ([nP (0,0,[],[],([]:List Xp),ec (0,0,[],([]:List Xp)),([]:List Sx),([]:List Sx))])) 176) (ck (fc (aZ I.p3.2) (al (I.p3.2++([nP (0,0,[],[],([]:List Xp),ec (0,0,[],([]:List Xp)),([]:List Sx),([]:List Sx))])))) (obind (rr04_walk_all ((Sx.body I.p2),I.2.1,(I.p3.1,(cQ (I.p3.2++([nP (0,0,[],[],([]:List Xp),ec (0,0,[],([]:List Xp)),([]:List Sx),([]:List Sx))])) (aZ I.p3.2) (em I.p2))),I.q4)) λM=>(bC (aC (al I.q5) (al I.q5)&&(aC (al I.p4) (al I.p4)&&(((I.p3.1==I.p3.1)&&ai)&&aC (al (cQ (I.p3.2++([nP (0,0,[],[],([]:List Xp),ec (0,0,[],([]:List Xp)),([]:List Sx),([]:List Sx))])) (aZ I.p3.2) (em I.p2))) (al (cQ (I.p3.2++([nP (0,0,[],[],([]:List Xp),ec (0,0,[],([]:List Xp)),([]:List Sx),([]:List Sx))])) (aZ I.p3.2) (em I.p2)))&&ai))) (jn (α:=(Int×Int)×qZ×(Bool×List Sx)×cf×List (List UInt8)) (be M.1.1 0 (obind (rr04_walk_all ((Sx.els I.p2),M.2)) λy7=>(bC (aC (al M.q4) (al M.q4)&&(aC (al M.p3) (al M.p3)&&(((M.p2.1==M.p2.1)&&ai)&&aC (al M.p2.2) (al M.p2.2)&&ai))) (aF y7))) (aF M)) λJ=>(bC (c8 0 (bk .i64 ((aZ J.p2.2)-1))&&fR (bk .i64 ((aZ J.p2.2)-1)) (al J.p2.2)) (iV J.1.1 0 (aF (J.1,J.2.1,(aj,(dQ (aU (bk .i64 ((aZ J.p2.2)-1))) J.p2.2)),J.q3)) (cK ((cD U.1),J.2.1,(aj,(dQ (aU (bk .i64 ((aZ J.p2.2)-1))) J.p2.2)),J.q3)))))))))))))) (aF ((0,0),U.2)))) (0,x.2))
def iG:Nat->((List Sx)×qZ×(Bool×List Sx)×cf×List (List UInt8))->Option agq
 |0,_=>ah
 |n+1,x=>mq (iG n) x
theorem Cf (n:Nat) (x:(List Sx)×qZ×(Bool×List Sx)×cf×List (List UInt8)):iG (n+1) x=mq (iG n) x:=rfl
def vP (x:(List Sx)×qZ×(Bool×List Sx)×cf×List (List UInt8)):Option agq:=iG fuel x
def uD (rr04_Count:(List Sx)->Option (Int)) (x:List Sx):Option (Int):=
 (iter (σ:=Int×Int) (λI=>(bz I.2 (aZ x) (wa I.2 x (lt (Sx.body (aK (T:=.sm) x I.2)) λM=>(obind (rr04_Count M) λY=>(wa I.2 x (lt (Sx.els (aK (T:=.sm) x I.2)) λJ=>(obind (rr04_Count J) λU=>(cK ((bk .i64 ((bk .i64 (I.1+Y))+U)),(cD I.2))))))))) (aF I.1))) ((aZ x),0))
def nl:Nat->(List Sx)->Option (Int)
 |0,_=>ah
 |n+1,x=>uD (nl n) x
theorem yo (n:Nat) (x:List Sx):nl (n+1) x=uD (nl n) x:=rfl
def B6 (x:List Sx):Option (Int):=nl fuel x
def rD (x:List ad9):Option (Int×Int):=
 (iter (σ:=Int×Int×Int×Int×Int) (λI=>(bz I.q4 (aZ x) (jn (α:=Int×Int×Int×Int) (bB G_ x I.q4 λJ=>(bC (c8 0 I.q4&&c8 I.q4 (al x)) (obind (ia ((dQ (aU I.q4) x),J.p2)) λy4=>(iW 0 y4 (cK (bP (4,J.2.1))) (bz 4 J.p3 (cK (bP (2,J.2.1))) (jn (α:=(Int×Int×Int×Int)×Int×Int×(List UInt8)×Int×Int×List UInt8) (jn (α:=Bool×Int×Int×(List UInt8)×Int×Int×List UInt8) (be J.1 1 (aF ((decide ((J.1:Int)=1)),J)) (aF ((decide ((J.1:Int)=2)),J))) λY=>(bcase Y.1 (aF (((bk .i64 (I.1+(iE Y.p4 1))),I.2.1,I.p2,I.p3),Y.2)) (jn (α:=Bool×Int×Int×(List UInt8)×Int×Int×List UInt8) (be J.1 3 (aF ((decide ((J.1:Int)=3)),Y.2)) (aF ((decide ((J.1:Int)=4)),Y.2))) λZ=>(bcase Z.1 (aF ((I.1,(cD I.2.1),I.p2,I.p3),Z.2)) (be J.1 5 (aF ((I.1,I.2.1,(cD I.p2),I.p3),Z.2)) (aF ((I.1,I.2.1,I.p2,(cD I.p3)),Z.2))))))) λM=>(jn (α:=Bool×Int×Int×(List UInt8)×Int×Int×List UInt8) (bz 12 M.1.1 (aF (ai,M.2)) (bz 4 M.1.2.1 (aF (ai,M.2)) (bz 2 M.1.p2 (aF (ai,M.2)) (aF ((fR 2 M.1.q3),M.2))))) λU=>(bcase U.1 (cK (bP (2,U.p2))) (be U.2.1 5 (bC (c8 0 I.q4&&c8 I.q4 (al x)) (obind (ia ((dQ (aU I.q4) x),U.q6)) λy9=>(bz y9 0 (cK (bP (5,U.p2))) (bB G_ x y9 λz10=>(iV z10.1 3 (cK (bP (6,U.p2))) (aF M.1)))))) (aF M.1)))))))))) λx2=>(cK (x2.1,x2.2.1,x2.p2,x2.q3,(cD I.q4)))) (aF (0,0)))) (0,0,0,0,0))
def nM (x:sq×List sk):Option (Int×Int):=
 (iter (σ:=Int×sq×List sk) (λJ=>(bz J.1 (aZ J.2.2) (bB s8 J.2.2 J.1 λY=>(jn (α:=Bool×(sq×List sk)×(List UInt8)×Int×cf×List Sx) (obind (ia (J.2.1,Y.1)) λy4=>(iW 0 y4 (aF (ai,J.2,Y)) (bC (c8 0 J.1&&c8 J.1 (al J.2.2)) (obind (gU ((dQ (aU J.1) J.2.2),Y.1)) λy5=>(aF ((c8 0 y5),J.2,Y)))))) λx3=>(bcase x3.1 (aF (4,x3.p3)) (cK ((cD J.1),x3.2.1))))) (obind (iter (σ:=Int×sq×List sk) (λU=>(bz U.1 (aZ U.2.2) (bB s8 U.2.2 U.1 λz7=>(bz 4 (aZ z7.p2) (aF (2,z7.2.1)) (iter (σ:=Int×(sq×List sk)×(List UInt8)×Int×cf×List Sx) (λI=>(bz I.1 (aZ I.p4) (bB (.str) I.p4 I.1 λZ=>(jn (α:=Bool×(sq×List sk)×(List UInt8)×Int×cf×List Sx) (obind (ia (I.2.1.1,Z)) λy11=>(iW 0 y11 (aF (ai,I.2)) (obind (gU (I.2.1.2,Z)) λy12=>(iW 0 y12 (aF (ai,I.2)) (bC (c8 0 I.1&&c8 I.1 (al I.p4)) (obind (iZ ((dQ (aU I.1) I.p4),Z)) λy13=>(aF ((c8 0 y13),I.2)))))))) λM=>(bcase M.1 (aF (bP (4,M.p3))) (cK ((cD I.1),M.2))))) (aF (lz ((cD U.1),I.2.1))))) (0,U.2,z7)))) (aF (0,0)))) (0,J.2)) λr=>af (bP r)))) (0,x))
def fk (x:sq×List sk):Option (Int×Int):=
 (obind (pN x) λy1=>(bcase (!y1) (af (3,0)) (obind (rD x.1) λY=>(iV Y.1 0 (af Y) (bz 4 (aZ x.2) (af (2,0)) (obind (nM x) λU=>(iV U.1 0 (af U) (iter (σ:=(Int×Int)×sq×List sk) (λJ=>(bz J.1.2 (aZ J.2.2) (bB s8 J.2.2 J.1.2 λz5=>(obind (B6 z5.2.2.2) λy6=>(cK (((bk .i64 (J.1.1+y6)),(cD J.1.2)),J.2)))) (obind (bz 60 J.1.1 (af (2,0)) (iter (σ:=Int×(sq×List sk)×qZ×(Bool×List Sx)×cf×List (List UInt8)) (λI=>(bz I.1 (aZ I.2.1.2) (bB s8 I.2.1.2 I.1 λZ=>(obind (vP (Z.2.2.2,(I.p2.1,I.p2.2.1,I.1),I.q3)) λM=>(bC (aC (al I.q5) (al I.q5)&&(aC (al I.p4) (al I.p4)&&(((I.p3.1==I.p3.1)&&ai)&&aC (al I.p3.2) (al I.p3.2)&&ai))) (iV M.1.1 0 (aF M.1) (cK ((cD I.1),I.2.1,M.2)))))) (aF (0,0)))) (0,J.2,(J.2.1,J.2.2,0),(ai,([]:List Sx)),([]:List (List UInt8)),([]:List (List UInt8))))) λr=>af (bP r)))) ((0,0),x)))))))))
def xG (rr06_sites:((Int×Int×List Sx)×List (Int×Int×Int))->Option (Int×List (Int×Int×Int))) (x:(Int×Int×List Sx)×List (Int×Int×Int)):Option (Int×List (Int×Int×Int)):=
 (iter (σ:=(Int×Int)×List (Int×Int×Int)) (λI=>(bz I.1.2 (aZ x.1.2.2) (wa I.1.2 x.1.2.2 (lt (Sx.line (aK (T:=.sm) x.1.2.2 I.1.2)) λJ=>(bC (a_ (al I.2+al ([(x.1.1,I.1.1,J)])) 24) (wa I.1.2 x.1.2.2 (lt (Sx.body (aK (T:=.sm) x.1.2.2 I.1.2)) λZ=>(obind (rr06_sites ((x.1.1,(cD I.1.1),Z),(I.2++([(x.1.1,I.1.1,J)])))) λM=>(bC (aC (al (I.2++([(x.1.1,I.1.1,J)]))) (al (I.2++([(x.1.1,I.1.1,J)])))&&ai) (wa I.1.2 x.1.2.2 (lt (Sx.els (aK (T:=.sm) x.1.2.2 I.1.2)) λY=>(obind (rr06_sites ((x.1.1,M.1,Y),M.2)) λU=>(bC (aC (al M.2) (al M.2)&&ai) (cK ((U.1,(cD I.1.2)),U.2))))))))))))) (aF (I.1.1,I.2)))) ((x.1.2.1,0),x.2))
def pA:Nat->((Int×Int×List Sx)×List (Int×Int×Int))->Option (Int×List (Int×Int×Int))
 |0,_=>ah
 |n+1,x=>xG (pA n) x
theorem Hp (n:Nat) (x:(Int×Int×List Sx)×List (Int×Int×Int)):pA (n+1) x=xG (pA n) x:=rfl
def IL (x:(Int×Int×List Sx)×List (Int×Int×Int)):Option (Int×List (Int×Int×Int)):=pA fuel x
def kf (x:gC×List UInt8):Option (Int):=
 (iter (σ:=Int) (λI=>(bz I (aZ x.1) (bB q_ x.1 I λJ=>(bcase (decide ((J.1:List UInt8)=x.2)) (aF I) (cK (cD I)))) (aF (-1)))) 0)
def lw (x:dz×List UInt8):Option (Int):=
 (iter (σ:=Int×gP×gC×(List fm)×cf×cf×List (Int×Int×Int)) (λI=>(bz I.1 (aZ I.2.1) (bB ky I.2.1 I.1 λJ=>(bcase (decide ((J.1:List UInt8)=x.2)) (aF I.1) (cK ((cD I.1),I.2)))) (aF (-1)))) (0,x.1))
def uq (x:sq×List sk):Option dz:=
 (obind (fk x) λy1=>(iV y1.1 0 (af (([]:List Tn),([]:List ((List UInt8)×Bool)),([]:List fm),([]:List (List UInt8)),([]:List (List UInt8)),([]:List (Int×Int×Int)))) (iter (σ:=Int×(sq×List sk)×gP×gC×(List fm)×List (List UInt8)) (λU=>(bz U.1 (aZ U.2.1.1) (bB G_ U.2.1.1 U.1 λY=>(jn (α:=(sq×List sk)×gP×gC×(List fm)×List (List UInt8)) (jn (α:=Bool×(sq×List sk)×ad9×gP×gC×(List fm)×List (List UInt8)) (be Y.1 1 (aF ((decide ((Y.1:Int)=1)),U.2.1,Y,U.2.2)) (aF ((decide ((Y.1:Int)=2)),U.2.1,Y,U.2.2))) λx5=>(bcase x5.1 (iter (σ:=Int×(sq×List sk)×ad9×gP×gC×(List fm)×List (List UInt8)) (λJ=>(bz J.1 (iE J.p2.p3 1) (bC (a_ (al J.p3+al ([(J.p2.p2,J.1,J.p2.p3,(decide ((J.p2.1:Int)=2)),J.p2.p4)])) 48) (cK ((cD J.1),J.2.1,J.p2,(J.p3++([(J.p2.p2,J.1,J.p2.p3,(decide ((J.p2.1:Int)=2)),J.p2.p4)])),J.q4))) (aF (bP (J.2.1,J.q3))))) (0,x5.2)) (jn (α:=Bool×(sq×List sk)×ad9×gP×gC×(List fm)×List (List UInt8)) (be Y.1 3 (aF ((decide ((Y.1:Int)=3)),x5.2)) (aF ((decide ((Y.1:Int)=4)),x5.2))) λI=>(bcase I.1 (bC (a_ (al I.p4+al ([(I.p2.p2,(decide ((I.p2.1:Int)=4)))])) 24) (aF (I.2.1,I.p3,(I.p4++([(I.p2.p2,(decide ((I.p2.1:Int)=4)))])),I.q5))) (be Y.1 5 (obind (kf (I.p4,I.p2.q5)) λy8=>(bC (a_ (al I.p5+al ([(I.p2.p2,y8)])) 24) (aF (I.2.1,I.p3,I.p4,(I.p5++([(I.p2.p2,y8)])),I.q6)))) (bC (a_ (al I.q6+al ([I.p2.p2])) 16) (aF (I.2.1,I.p3,I.p4,I.p5,(I.q6++([I.p2.p2])))))))))) λx4=>(cK ((cD U.1),x4)))) (obind (iter (σ:=Int×(sq×List sk)×gP×gC×(List fm)×cf×cf×List (Int×Int×Int)) (λM=>(bz M.1 (aZ M.2.1.2) (bB s8 M.2.1.2 M.1 λZ=>(bC (a_ (al M.p6+al ([Z.1])) 16) (bB s8 M.2.1.2 M.1 λz11=>(obind (IL ((M.1,0,z11.2.2.2),M.q7)) λy12=>(bC (aC (al M.q7) (al M.q7)&&ai) (cK ((cD M.1),M.2.1,M.p2,M.p3,M.p4,M.p5,(M.p6++([Z.1])),y12.2))))))) (aF M.2.2))) (0,U.2.1,U.p2,U.p3,U.p4,U.q5,([]:List (List UInt8)),([]:List (Int×Int×Int)))) λr=>af (bP r)))) (0,x,([]:List Tn),([]:List ((List UInt8)×Bool)),([]:List fm),([]:List (List UInt8))))))
def pm (x:gP×gC×(List fm)×cf×cf×List (Int×Int×Int)):Option (cf×Bool):=
 (iter (σ:=Int×dz×List (List UInt8)) (λJ=>(bz J.1 (aZ J.2.1.1) (jn (α:=Int×dz×List (List UInt8)) (bB ky J.2.1.1 J.1 λU=>(bC (a_ (al J.2.2+al ([U.1])) 16) (be U.p2 0 (iV U.2.1 0 (cK (bP (([]:List (List UInt8)),aj))) (aF ((cD J.1),J.2.1,(J.2.2++([U.1]))))) (jn (α:=Bool×dz×cf×(List UInt8)×Int×Int×Bool×Int) (bz U.p2 1 (aF (ai,J.2.1,(J.2.2++([U.1])),U)) (bz 4 U.p2 (aF (ai,J.2.1,(J.2.2++([U.1])),U)) (aF ((fR (bk .i64 ((aZ J.2.1.1)-J.1)) U.p2),J.2.1,(J.2.2++([U.1])),U)))) λx4=>(bcase x4.1 (cK (bP (([]:List (List UInt8)),aj))) (iter (σ:=Int×dz×cf×(List UInt8)×Int×Int×Bool×Int) (λM=>(bz M.1 M.p5 (bB ky M.2.1.1 (bk .i64 (J.1+M.1)) λZ=>(jn (α:=Bool×dz×cf×(List UInt8)×Int×Int×Bool×Int) (iV Z.2.1 M.1 (aF (ai,M.2)) (bcase (!decide ((Z.1:List UInt8)=M.p3)) (aF (ai,M.2)) (iV Z.p2 M.p5 (aF (ai,M.2)) (iV Z.q4 M.q7 (aF (ai,M.2)) (aF (Z.p3,M.2)))))) λx7=>(bcase x7.1 (aF (lz (bP (([]:List (List UInt8)),aj)))) (cK ((cD M.1),x7.2))))) (aF (bP ((bk .i64 (J.1+M.p5)),M.2.1,M.p2))))) (0,x4.2))))))) λx2=>(cK x2)) (obind (iter (σ:=Int×dz×List (List UInt8)) (λY=>(bz Y.1 (aZ Y.2.1.2.1) (bB q_ Y.2.1.2.1 Y.1 λz9=>(bC (a_ (al Y.2.2+al ([z9.1])) 16) (cK ((cD Y.1),Y.2.1,(Y.2.2++([z9.1])))))) (obind (iter (σ:=Int×dz×List (List UInt8)) (λI=>(bz I.1 (aZ I.2.1.p2) (bB lm I.2.1.p2 I.1 λz11=>(bC (a_ (al I.2.2+al ([z11.1])) 16) (cK ((cD I.1),I.2.1,(I.2.2++([z11.1])))))) (obind (bC (a_ (al I.2.2+al I.2.1.p3) 16) (bC (a_ (al (I.2.2++I.2.1.p3)+al I.2.1.p4) 16) (af (((I.2.2++I.2.1.p3)++I.2.1.p4),ai)))) λr=>af (bP r)))) (0,Y.2)) λr=>af (bP r)))) (0,J.2)) λr=>af (bP r)))) (0,x,([]:List (List UInt8))))
def h_ (x:gP×gC×(List fm)×cf×cf×List (Int×Int×Int)):Option (Bool):=
 (jn (α:=Bool×gP×gC×(List fm)×cf×cf×List (Int×Int×Int)) (bz 12 (aZ x.1) (aF (ai,x)) (bz 4 (aZ x.2.1) (aF (ai,x)) (bz 2 (aZ x.p2) (aF (ai,x)) (bz 2 (aZ x.p3) (aF (ai,x)) (bz (aZ x.p4) 1 (aF (ai,x)) (bz 4 (aZ x.p4) (aF (ai,x)) (aF ((fR 60 (aZ x.q5)),x)))))))) λx1=>(bcase x1.1 (af aj) (obind (pm x1.2) λy2=>(bcase (!y2.2) (af aj) (iter (σ:=Int×gP×gC×(List fm)×cf×cf×List (Int×Int×Int)) (λY=>(bz Y.1 (aZ y2.1) (jn (α:=Bool×gP×gC×(List fm)×cf×cf×List (Int×Int×Int)) (bB (.str) y2.1 Y.1 λz5=>(obind (fe z5) λy6=>(bcase (!y6) (aF (ai,Y.2)) (bC (c8 0 Y.1&&c8 Y.1 (al y2.1)) (bB (.str) y2.1 Y.1 λz7=>(obind (iZ ((dQ (aU Y.1) y2.1),z7)) λy8=>(aF ((c8 0 y8),Y.2)))))))) λx4=>(bcase x4.1 (aF aj) (cK ((cD Y.1),x4.2)))) (obind (iter (σ:=Int×gP×gC×(List fm)×cf×cf×List (Int×Int×Int)) (λM=>(bz M.1 (aZ M.p3) (bB lm M.p3 M.1 λz10=>(jn (α:=Bool×gP×gC×(List fm)×cf×cf×List (Int×Int×Int)) (bz z10.2 0 (aF (ai,M.2)) (iW (aZ M.p2) z10.2 (aF (ai,M.2)) (bB q_ M.p2 z10.2 λz12=>(aF (z12.2,M.2))))) λx11=>(bcase x11.1 (aF aj) (cK ((cD M.1),x11.2))))) (obind (iter (σ:=Int×gP×gC×(List fm)×cf×cf×List (Int×Int×Int)) (λI=>(bz I.1 (aZ I.q6) (jn (α:=gP×gC×(List fm)×cf×cf×List (Int×Int×Int)) (bB oB I.q6 I.1 λZ=>(jn (α:=Bool×dz×Int×Int×Int) (bz Z.1 0 (aF (ai,I.2,Z)) (aF ((c8 (aZ I.p5) Z.1),I.2,Z))) λU=>(bcase U.1 (cK (bP aj)) (jn (α:=Bool×dz×Int×Int×Int) (be I.1 0 (aF (ai,U.2)) (bB oB U.2.1.q5 (bk .i64 (I.1-1)) λz18=>(aF ((!decide ((z18.1:Int)=U.p2)),U.2)))) λJ=>(bcase J.1 (jn (α:=Bool×gP×gC×(List fm)×cf×cf×List (Int×Int×Int)) (iV J.p3 0 (aF (ai,J.2.1)) (bz 0 I.1 (bB oB J.2.1.q5 (bk .i64 (I.1-1)) λz20=>(aF ((fR J.p2 z20.1),J.2.1))) (aF (aj,J.2.1)))) λx19=>(bcase x19.1 (cK (bP aj)) (aF x19.2))) (bB oB J.2.1.q5 (bk .i64 (I.1-1)) λz21=>(iV J.p3 (cD z21.2.1) (cK (bP aj)) (aF J.2.1)))))))) λx14=>(cK ((cD I.1),x14))) (aF ai))) (0,M.2)) λr=>af (bP r)))) (0,Y.2)) λr=>af (bP r)))) (0,x1.2))))))
def jE (x:Int×Int×Int×Int×Int×Int):Option (List Int):=
 (jn (α:=Bool×Int×Int×Int×Int×Int×Int) (be x.1 1 (aF ((decide ((x.1:Int)=1)),x)) (be x.1 6 (aF ((decide ((x.1:Int)=6)),x)) (be x.1 10 (aF ((decide ((x.1:Int)=10)),x)) (aF ((decide ((x.1:Int)=27)),x))))) λM=>(bcase M.1 (af ([M.p2])) (jn (α:=Bool×Int×Int×Int×Int×Int×Int) (be x.1 2 (aF ((decide ((x.1:Int)=2)),M.2)) (aF ((decide ((x.1:Int)=3)),M.2))) λI=>(bcase I.1 (af ([I.p2,I.p3])) (be x.1 4 (af ([I.p2,I.p3,I.p4])) (be x.1 7 (af ([I.p2,I.p4])) (jn (α:=Bool×Int×Int×Int×Int×Int×Int) (be x.1 8 (aF ((decide ((x.1:Int)=8)),I.2)) (aF ((decide ((x.1:Int)=26)),I.2))) λJ=>(bcase J.1 (af ([J.p3])) (be x.1 9 (af ([J.p3,J.p4])) (af ([]:List Int)))))))))))
def pK (x:Int):Option (Bool):=
 (jn (α:=Bool) (iW 1 x (aF (c8 x 5)) (aF aj)) λI=>(af I))
def pn (x:(List jR)×Int):Option (Bool):=
 (iter (σ:=Int×Int) (λI=>(iW I.2 (aZ x.1) (jn (α:=Int) (jn (α:=Bool) (bz I.1 0 (aF ai) (aF (c8 (aZ x.1) I.1))) λZ=>(bcase Z (cK (bP aj)) (bB qY x.1 I.1 λU=>(obind (pK U.1) λY=>(bcase (!Y) (cK (bP ai)) (bB qY x.1 I.1 λM=>(be M.1 5 (bB qY x.1 I.1 λJ=>(aF J.2.1)) (aF (cD I.1))))))))) λx2=>(cK (x2,(cD I.2)))) (aF aj))) (x.2,0))
def jp (x:Int×Int):Option (Bool):=
 (jn (α:=Bool) (iW 0 x.1 (aF (fR x.1 x.2)) (aF aj)) λI=>(af I))
def m_ (x:dz×Int×Int):Option (Bool):=
 (jn (α:=Bool) (obind (jp (x.2.1,(aZ x.1.1))) λU=>(bcase U (bB ky x.1.1 x.2.1 λM=>(be M.2.1 0 (bB ky x.1.1 x.2.1 λJ=>(iV J.2.2.1 0 (bB ky x.1.1 x.2.1 λI=>(aF (decide ((I.2.2.1:Int)=x.2.2)))) (aF aj))) (aF aj))) (aF aj))) λY=>(af Y))
def lH (x:dz×Int×Int×Int×Int×Int×Int):Option (Bool):=
 (be x.2.1 6 (jn (α:=Bool) (obind (jp (x.p3,(aZ x.1.1))) λy2=>(bcase y2 (bB ky x.1.1 x.p3 λz3=>(aF (decide ((z3.2.2.1:Int)=0)))) (aF aj))) λx1=>(af x1)) (be x.2.1 8 (jn (α:=Bool) (obind (jp (x.p2,(aZ x.1.1))) λy5=>(bcase y5 (bB ky x.1.1 x.p2 λz6=>(aF (decide ((z6.2.2.1:Int)=0)))) (aF aj))) λx4=>(af x4)) (be x.2.1 7 (obind (m_ (x.1,x.p3,x.p5)) λy7=>(af y7)) (be x.2.1 9 (obind (m_ (x.1,x.p2,x.p5)) λy8=>(af y8)) (jn (α:=Bool×dz×Int×Int×Int×Int×Int×Int) (be x.2.1 11 (aF ((decide ((x.2.1:Int)=11)),x)) (aF ((decide ((x.2.1:Int)=12)),x))) λU=>(bcase U.1 (jn (α:=Bool) (obind (jp (U.p3,(aZ U.2.1.2.1))) λy11=>(bcase y11 (bB q_ U.2.1.2.1 U.p3 λZ=>(aF (!Z.2))) (aF aj))) λx10=>(af x10)) (jn (α:=Bool×dz×Int×Int×Int×Int×Int×Int) (be x.2.1 13 (aF ((decide ((x.2.1:Int)=13)),U.2)) (be x.2.1 14 (aF ((decide ((x.2.1:Int)=14)),U.2)) (be x.2.1 15 (aF ((decide ((x.2.1:Int)=15)),U.2)) (aF ((decide ((x.2.1:Int)=16)),U.2))))) λJ=>(bcase J.1 (jn (α:=Bool) (obind (jp (J.p3,(aZ J.2.1.2.1))) λy15=>(bcase y15 (bB q_ J.2.1.2.1 J.p3 λY=>(aF Y.2)) (aF aj))) λx14=>(af x14)) (jn (α:=Bool×dz×Int×Int×Int×Int×Int×Int) (be x.2.1 21 (aF ((decide ((x.2.1:Int)=21)),J.2)) (be x.2.1 22 (aF ((decide ((x.2.1:Int)=22)),J.2)) (aF ((decide ((x.2.1:Int)=23)),J.2)))) λM=>(bcase M.1 (obind (jp (M.p3,(aZ M.2.1.p2))) λy18=>(af y18)) (jn (α:=Bool×dz×Int×Int×Int×Int×Int×Int) (be x.2.1 24 (aF ((decide ((x.2.1:Int)=24)),M.2)) (aF ((decide ((x.2.1:Int)=25)),M.2))) λI=>(bcase I.1 (obind (jp (I.p3,(aZ I.2.1.p4))) λy20=>(af y20)) (be x.2.1 26 (obind (jp (I.p3,(aZ I.2.1.p3))) λy21=>(af y21)) (be x.2.1 27 (obind (jp (I.p4,(aZ I.2.1.p3))) λy22=>(af y22)) (be x.2.1 3 (jn (α:=Bool) (be I.p6 4 (aF ai) (aF (decide ((I.p6:Int)=5)))) λx23=>(af x23)) (be x.2.1 4 (jn (α:=Bool) (iW 6 I.p6 (aF (c8 I.p6 18)) (aF aj)) λx24=>(af x24)) (af ai)))))))))))))))))
def ip (x:dz×Int×Int×List jR):Option (Bool):=
 (jn (α:=Bool×dz×Int×List jR) (bz x.p2 0 (aF (ai,x.1,x.2.2)) (bz 32 x.p2 (aF (ai,x.1,x.2.2)) (aF ((decide (((aZ x.q3):Int)=0)),x.1,x.2.2)))) λx1=>(bcase x1.1 (af aj) (iter (σ:=Int×dz×Int×List jR) (λJ=>(bz J.1 (aZ x.q3) (bB qY J.q3 J.1 λY=>(jn (α:=Bool×dz×(Int×List jR)×Int×Int×Int×Int×Int×Int) (bz Y.1 1 (aF (ai,J.2.1,J.2.2,Y)) (bz 28 Y.1 (aF (ai,J.2.1,J.2.2,Y)) (bcase (((decide ((Y.1:Int)=28))==(decide ((J.1:Int)=(bk .i64 ((aZ x.q3)-1))))) !=ai) (aF (ai,J.2.1,J.2.2,Y)) (obind (lH (J.2.1,Y)) λy5=>(bcase (!y5) (aF (ai,J.2.1,J.2.2,Y)) (obind (pn (J.q3,J.1)) λy6=>(aF ((!y6),J.2.1,J.2.2,Y)))))))) λI=>(bcase I.1 (aF aj) (jn (α:=Bool×dz×(Int×List jR)×Int×Int×Int×Int×Int×Int) (be I.p3 28 (iV I.q8 (-1) (aF (ai,I.2)) (iV I.p3 28 (obind (jp (I.q8,(aZ I.2.1.q5))) λy8=>(bcase (!y8) (aF (ai,I.2)) (bB oB I.2.1.q5 I.q8 λz9=>(aF ((!decide ((z9.1:Int)=x.2.1)),I.2))))) (aF (aj,I.2)))) (iV I.p3 28 (obind (jp (I.q8,(aZ I.2.1.q5))) λy10=>(bcase (!y10) (aF (ai,I.2)) (bB oB I.2.1.q5 I.q8 λz11=>(aF ((!decide ((z11.1:Int)=x.2.1)),I.2))))) (aF (aj,I.2)))) λU=>(bcase U.1 (aF aj) (jn (α:=Bool×dz×(Int×List jR)×Int×Int×Int×Int×Int×Int) (be U.p3 5 (obind (jp (U.p4,(aZ x.q3))) λy13=>(bcase (!y13) (aF (ai,U.2)) (be U.p3 10 (obind (jp (U.p5,(aZ x.q3))) λy14=>(aF ((!y14),U.2))) (aF (aj,U.2))))) (be U.p3 10 (obind (jp (U.p5,(aZ x.q3))) λy15=>(aF ((!y15),U.2))) (aF (aj,U.2)))) λZ=>(bcase Z.1 (aF aj) (obind (jE Z.q3) λy16=>(iter (σ:=Int×dz×Int×List jR) (λM=>(bz M.1 (aZ y16) (bB aM y16 M.1 λz18=>(obind (jp (z18,M.p2)) λy19=>(bcase (!y19) (aF (bP aj)) (cK ((cD M.1),M.2))))) (aF (lz ((cD J.1),M.2))))) (0,Z.2.1,Z.p2)))))))))) (aF ai))) (0,x1.2))))
def jD (x:dz×List (Int×List jR)):Option (Bool):=
 (jn (α:=Bool×dz×List (Int×List jR)) (obind (h_ x.1) λY=>(bcase (!Y) (aF (ai,x)) (aF ((!decide (((aZ x.2):Int)=(aZ x.1.p4))),x)))) λJ=>(bcase J.1 (af aj) (iter (σ:=Int×dz×List (Int×List jR)) (λI=>(bz I.1 (aZ I.2.2) (bB xi I.2.2 I.1 λM=>(obind (ip (I.2.1,I.1,M)) λU=>(bcase (!U) (aF aj) (cK ((cD I.1),I.2))))) (aF ai))) (0,J.2))))
def cF (x:jR×rU×List jR):Option (rU×List jR):=
 (bC (a_ (al x.2.2+al ([(x.1.1,x.1.2.1,x.1.p2,x.1.p3,x.1.p4,x.2.1.p7)])) 48) (af (x.2.1,(x.2.2++([(x.1.1,x.1.2.1,x.1.p2,x.1.p3,x.1.p4,x.2.1.p7)])))))
def qF (rr06_gen_value:((Xp×Int)×rU×List jR)->Option (rU×List jR)) (x:(Xp×Int)×rU×List jR):Option (rU×List jR):=
 (jn (α:=rU×List jR) (be (Xp.op x.1.1) 1 (obind (cF ((1,x.1.2,0,0,(Xp.n x.1.1),0),x.2)) λy2=>(bC (aC (al x.2.2) (al x.2.2)&&ai) (aF y2))) (be (Xp.op x.1.1) 2 (obind (iZ (x.2.1.p6,(Xp.name x.1.1))) λy3=>(iW 0 y3 (obind (cF ((2,x.1.2,y3,0,0,0),x.2)) λy4=>(bC (aC (al x.2.2) (al x.2.2)&&ai) (aF y4))) (obind (lw ((x.2.1.1,x.2.1.2.1,x.2.1.p2,x.2.1.p3,x.2.1.p4,x.2.1.p5),(Xp.name x.1.1))) λy5=>(obind (cF ((6,x.1.2,y5,0,0,0),x.2)) λy6=>(bC (aC (al x.2.2) (al x.2.2)&&ai) (aF y6)))))) (be (Xp.op x.1.1) 3 (bB (.ex) (Xp.l x.1.1) 0 λz7=>(obind (rr06_gen_value ((z7,x.1.2),x.2)) λI=>(bC (aC (al x.2.2) (al x.2.2)&&ai) (obind (lw ((I.1.1,I.1.2.1,I.1.p2,I.1.p3,I.1.p4,I.1.p5),(Xp.name x.1.1))) λy9=>(bB ky I.1.1 y9 λz10=>(obind (cF ((7,x.1.2,y9,x.1.2,z10.2.2.1,0),I)) λy11=>(bC (aC (al I.2) (al I.2)&&ai) (aF y11)))))))) (be (aP (al (Xp.l x.1.1))) 1 (bB (.ex) (Xp.l x.1.1) 0 λz12=>(obind (rr06_gen_value ((z12,x.1.2),x.2)) λU=>(bC (aC (al x.2.2) (al x.2.2)&&ai) (obind (cF ((3,x.1.2,x.1.2,0,(Xp.op x.1.1),0),U)) λy14=>(bC (aC (al U.2) (al U.2)&&ai) (aF y14)))))) (bB (.ex) (Xp.l x.1.1) 0 λZ=>(obind (rr06_gen_value ((Z,x.1.2),x.2)) λM=>(bC (aC (al x.2.2) (al x.2.2)&&ai) (bB (.ex) (Xp.l x.1.1) 1 λY=>(obind (rr06_gen_value ((Y,(cD x.1.2)),M)) λJ=>(bC (aC (al M.2) (al M.2)&&ai) (obind (cF ((4,x.1.2,x.1.2,(cD x.1.2),(Xp.op x.1.1),0),J)) λy19=>(bC (aC (al J.2) (al J.2)&&ai) (aF y19))))))))))))) λx1=>(af x1))
def iK:Nat->((Xp×Int)×rU×List jR)->Option (rU×List jR)
 |0,_=>ah
 |n+1,x=>qF (iK n) x
theorem AT (n:Nat) (x:(Xp×Int)×rU×List jR):iK (n+1) x=qF (iK n) x:=rfl
def iJ (x:(Xp×Int)×rU×List jR):Option (rU×List jR):=iK fuel x
def lZ (x:Sx×rU×List jR):Option (rU×List jR):=
 (bz 0 (aP (al (Sx.index x.1))) (bB (.ex) (Sx.index x.1) 0 λz1=>(obind (iJ ((z1,(aZ x.2.1.p6)),x.2)) λM=>(bC (aC (al x.2.2) (al x.2.2)&&ai) (obind (iJ ((ec ((Xp.op (Sx.expr x.1)),(Xp.n (Sx.expr x.1)),(Xp.name (Sx.expr x.1)),(Xp.l (Sx.expr x.1))),(bk .i64 ((aZ x.2.1.p6)+1))),M)) λJ=>(bC (aC (al M.2) (al M.2)&&ai) (obind (lw ((J.1.1,J.1.2.1,J.1.p2,J.1.p3,J.1.p4,J.1.p5),(Sx.name x.1))) λy4=>(bB ky J.1.1 y4 λz5=>(obind (cF ((9,y4,(bk .i64 ((aZ x.2.1.p6)+1)),(aZ x.2.1.p6),z5.2.2.1,0),J)) λy6=>(bC (aC (al J.2) (al J.2)&&ai) (af y6)))))))))) (obind (iJ ((ec ((Xp.op (Sx.expr x.1)),(Xp.n (Sx.expr x.1)),(Xp.name (Sx.expr x.1)),(Xp.l (Sx.expr x.1))),(aZ x.2.1.p6)),x.2)) λI=>(bC (aC (al x.2.2) (al x.2.2)&&ai) (obind (iZ (I.1.p6,(Sx.name x.1))) λZ=>(iW 0 Z (obind (cF ((2,Z,(aZ x.2.1.p6),0,0,0),I)) λy9=>(bC (aC (al I.2) (al I.2)&&ai) (af y9))) (obind (lw ((I.1.1,I.1.2.1,I.1.p2,I.1.p3,I.1.p4,I.1.p5),(Sx.name x.1))) λY=>(obind (cF ((8,Y,(aZ x.2.1.p6),0,0,0),I)) λU=>(bC (aC (al I.2) (al I.2)&&ai) (af U)))))))))
def jt (x:(List UInt8)×rU×List jR):Option (Int×rU×List jR):=
 (iter (σ:=Int×rU×List jR) (λI=>(bz I.1 (aZ I.2.1.p2) (bB lm I.2.1.p2 I.1 λJ=>(bcase (decide ((J.1:List UInt8)=x.1)) (aF I) (cK ((cD I.1),I.2)))) (aF ((-1),I.2)))) (0,x.2))
def qG (rr06_gen_stmts:ad7->Option (rU×List jR)) (rr06_gen_stmt:Mv->Option (rU×List jR)) (rr06_gen_branches:Mv->Option (rU×List jR)) (rr06_gen_around:ad8->Option (rU×List jR)) (x:(List Sx)×rU×List jR):Option (rU×List jR):=
 (iter (σ:=Int×rU×List jR) (λI=>(bz I.1 (aZ x.1) (bB (.sm) x.1 I.1 λJ=>(obind (rr06_gen_stmt (J,I.2)) λM=>(bC (aC (al I.2.2) (al I.2.2)&&ai) (cK ((cD I.1),M))))) (aF I.2))) (0,x.2))
def r_ (rr06_gen_stmts:ad7->Option (rU×List jR)) (rr06_gen_stmt:Mv->Option (rU×List jR)) (rr06_gen_branches:Mv->Option (rU×List jR)) (rr06_gen_around:ad8->Option (rU×List jR)) (x:Sx×rU×List jR):Option (rU×List jR):=
 (jn (α:=rU×List jR) (be (Sx.op x.1) 1 (obind (lZ (em x.1,(x.2.1.1,x.2.1.2.1,x.2.1.p2,x.2.1.p3,x.2.1.p4,x.2.1.p5,x.2.1.p6,x.2.1.q8,(cD x.2.1.q8)),x.2.2)) λy2=>(bC (aC (al x.2.2) (al x.2.2)&&ai) (aF y2))) (jn (α:=Bool×rU×Sx×List jR) (be (Sx.op x.1) 2 (aF ((decide (((Sx.op x.1):Int)=2)),(x.2.1.1,x.2.1.2.1,x.2.1.p2,x.2.1.p3,x.2.1.p4,x.2.1.p5,x.2.1.p6,x.2.1.q8,(cD x.2.1.q8)),em x.1,x.2.2)) (aF ((decide (((Sx.op x.1):Int)=3)),(x.2.1.1,x.2.1.2.1,x.2.1.p2,x.2.1.p3,x.2.1.p4,x.2.1.p5,x.2.1.p6,x.2.1.q8,(cD x.2.1.q8)),em x.1,x.2.2))) λI=>(bcase I.1 (obind (rr06_gen_branches (em I.p2,I.2.1,I.q3)) λy4=>(bC (aC (al I.q3) (al I.q3)&&ai) (aF y4))) (be (Sx.op x.1) 4 (obind (kf (I.2.1.2.1,(Sx.name I.p2))) λy5=>(obind (rr06_gen_around ((em I.p2,11,12,y5),I.2.1,I.q3)) λy6=>(bC (aC (al I.q3) (al I.q3)&&ai) (aF y6)))) (be (Sx.op x.1) 5 (obind (kf (I.2.1.2.1,(Sx.name I.p2))) λy7=>(obind (rr06_gen_around ((em I.p2,13,14,y7),I.2.1,I.q3)) λy8=>(bC (aC (al I.q3) (al I.q3)&&ai) (aF y8)))) (be (Sx.op x.1) 6 (obind (kf (I.2.1.2.1,(Sx.name I.p2))) λy9=>(obind (rr06_gen_around ((em I.p2,15,16,y9),I.2.1,I.q3)) λy10=>(bC (aC (al I.q3) (al I.q3)&&ai) (aF y10)))) (be (Sx.op x.1) 7 (obind (rr06_gen_around ((em I.p2,17,18,0),I.2.1,I.q3)) λy11=>(bC (aC (al I.q3) (al I.q3)&&ai) (aF y11))) (be (Sx.op x.1) 8 (obind (rr06_gen_around ((em I.p2,19,20,0),I.2.1,I.q3)) λy12=>(bC (aC (al I.q3) (al I.q3)&&ai) (aF y12))) (be (Sx.op x.1) 9 (obind (jt ((Sx.name I.p2),I.2.1,I.q3)) λU=>(bC (aC (al I.q3) (al U.2.2)&&ai) (obind (cF ((21,U.1,0,0,0,0),U.2)) λy14=>(bC (aC (al U.2.2) (al U.2.2)&&ai) (aF y14))))) (be (Sx.op x.1) 10 (obind (jt ((Sx.name I.p2),I.2.1,I.q3)) λM=>(bC (aC (al I.q3) (al M.2.2)&&ai) (obind (cF ((22,M.1,0,0,0,0),M.2)) λy16=>(bC (aC (al M.2.2) (al M.2.2)&&ai) (aF y16))))) (be (Sx.op x.1) 11 (obind (jt ((Sx.name I.p2),I.2.1,I.q3)) λJ=>(bC (aC (al I.q3) (al J.2.2)&&ai) (obind (cF ((23,J.1,0,0,0,0),J.2)) λy18=>(bC (aC (al J.2.2) (al J.2.2)&&ai) (aF y18))))) (be (Sx.op x.1) 12 (obind (iZ (I.2.1.p4,(Sx.name I.p2))) λy19=>(obind (cF ((24,y19,0,0,0,0),I.2.1,I.q3)) λy20=>(bC (aC (al I.q3) (al I.q3)&&ai) (aF y20)))) (be (Sx.op x.1) 13 (obind (iZ (I.2.1.p4,(Sx.name I.p2))) λy21=>(obind (cF ((25,y21,0,0,0,0),I.2.1,I.q3)) λy22=>(bC (aC (al I.q3) (al I.q3)&&ai) (aF y22)))) (be (Sx.op x.1) 14 (obind (iJ ((ec ((Xp.op (Sx.expr I.p2)),(Xp.n (Sx.expr I.p2)),(Xp.name (Sx.expr I.p2)),(Xp.l (Sx.expr I.p2))),(aZ x.2.1.p6)),I.2.1,I.q3)) λY=>(bC (aC (al I.q3) (al I.q3)&&ai) (obind (iZ (Y.1.p3,(Sx.name I.p2))) λy24=>(obind (cF ((26,y24,(aZ x.2.1.p6),0,0,0),Y)) λy25=>(bC (aC (al Y.2) (al Y.2)&&ai) (aF y25)))))) (be (Sx.op x.1) 15 (obind (iZ (I.2.1.p6,(Sx.name I.p2))) λy26=>(obind (iZ (I.2.1.p3,(Sx.arg I.p2))) λy27=>(obind (cF ((27,y26,y27,0,0,0),I.2.1,I.q3)) λZ=>(bC (aC (al I.q3) (al I.q3)&&ai) (aF Z))))) (aF (I.2.1,I.q3))))))))))))))))) λx1=>(af x1))
def mA (rr06_gen_stmts:ad7->Option (rU×List jR)) (rr06_gen_stmt:Mv->Option (rU×List jR)) (rr06_gen_branches:Mv->Option (rU×List jR)) (rr06_gen_around:ad8->Option (rU×List jR)) (x:Sx×rU×List jR):Option (rU×List jR):=
 (obind (iJ ((ec ((Xp.op (Sx.expr x.1)),(Xp.n (Sx.expr x.1)),(Xp.name (Sx.expr x.1)),(Xp.l (Sx.expr x.1))),(aZ x.2.1.p6)),x.2)) λJ=>(bC (aC (al x.2.2) (al x.2.2)&&ai) (obind (cF ((10,(aZ J.1.p6),0,0,0,0),J)) λZ=>(bC (aC (al J.2) (al J.2)&&ai) (obind (rr06_gen_stmts ((Sx.body x.1),Z)) λI=>(bC (aC (al Z.2) (al Z.2)&&ai) (be (Sx.op x.1) 3 (obind (cF ((5,(aZ x.2.2),0,0,0,0),(I.1.1,I.1.2.1,I.1.p2,I.1.p3,I.1.p4,I.1.p5,I.1.p6,x.2.1.p7,I.1.q8),I.2)) λU=>(bC (aC (al I.2) (al I.2)&&ai) (ck (fc (aZ J.2) (al U.2)) (af (U.1,(cQ U.2 (aZ J.2) ((aK (T:=qY) U.2 (aZ J.2)).1,((aK (T:=qY) U.2 (aZ J.2)).2).1,(aZ U.2),(((aK (T:=qY) U.2 (aZ J.2)).2).2).2))))))) (be (aP (al (Sx.els x.1))) 0 (ck (fc (aZ J.2) (al I.2)) (af ((I.1.1,I.1.2.1,I.1.p2,I.1.p3,I.1.p4,I.1.p5,I.1.p6,x.2.1.p7,I.1.q8),(cQ I.2 (aZ J.2) ((aK (T:=qY) I.2 (aZ J.2)).1,((aK (T:=qY) I.2 (aZ J.2)).2).1,(aZ I.2),(((aK (T:=qY) I.2 (aZ J.2)).2).2).2))))) (obind (cF ((5,0,0,0,0,0),(I.1.1,I.1.2.1,I.1.p2,I.1.p3,I.1.p4,I.1.p5,I.1.p6,x.2.1.p7,I.1.q8),I.2)) λM=>(bC (aC (al I.2) (al I.2)&&ai) (ck (fc (aZ J.2) (al M.2)) (obind (rr06_gen_stmts ((Sx.els x.1),M.1,(cQ M.2 (aZ J.2) ((aK (T:=qY) M.2 (aZ J.2)).1,((aK (T:=qY) M.2 (aZ J.2)).2).1,(aZ M.2),(((aK (T:=qY) M.2 (aZ J.2)).2).2).2)))) λY=>(bC (aC (al (cQ M.2 (aZ J.2) ((aK (T:=qY) M.2 (aZ J.2)).1,((aK (T:=qY) M.2 (aZ J.2)).2).1,(aZ M.2),(((aK (T:=qY) M.2 (aZ J.2)).2).2).2))) (al (cQ M.2 (aZ J.2) ((aK (T:=qY) M.2 (aZ J.2)).1,((aK (T:=qY) M.2 (aZ J.2)).2).1,(aZ M.2),(((aK (T:=qY) M.2 (aZ J.2)).2).2).2)))&&ai) (ck (fc (aZ I.2) (al Y.2)) (af (Y.1,(cQ Y.2 (aZ I.2) ((aK (T:=qY) Y.2 (aZ I.2)).1,(aZ Y.2),((aK (T:=qY) Y.2 (aZ I.2)).2).2))))))))))))))))))
def o7 (rr06_gen_stmts:ad7->Option (rU×List jR)) (rr06_gen_stmt:Mv->Option (rU×List jR)) (rr06_gen_branches:Mv->Option (rU×List jR)) (rr06_gen_around:ad8->Option (rU×List jR)) (x:(Sx×Int×Int×Int)×rU×List jR):Option (rU×List jR):=
 (obind (cF ((x.1.2.1,x.1.q3,0,0,0,0),x.2)) λJ=>(bC (aC (al x.2.2) (al x.2.2)&&ai) (obind (rr06_gen_stmts ((Sx.body x.1.1),J)) λI=>(bC (aC (al J.2) (al J.2)&&ai) (obind (cF ((x.1.p2,x.1.q3,0,0,0,0),(I.1.1,I.1.2.1,I.1.p2,I.1.p3,I.1.p4,I.1.p5,I.1.p6,x.2.1.p7,I.1.q8),I.2)) λM=>(bC (aC (al I.2) (al I.2)&&ai) (af M)))))))
mutual
def dM:Nat->ad7->Option (rU×List jR)
 |0,_=>ah
 |n+1,x=>qG (dM n) (eP n) (dg n) (dI n) x
def eP:Nat->Mv->Option (rU×List jR)
 |0,_=>ah
 |n+1,x=>r_ (dM n) (eP n) (dg n) (dI n) x
def dg:Nat->Mv->Option (rU×List jR)
 |0,_=>ah
 |n+1,x=>mA (dM n) (eP n) (dg n) (dI n) x
def dI:Nat->ad8->Option (rU×List jR)
 |0,_=>ah
 |n+1,x=>o7 (dM n) (eP n) (dg n) (dI n) x
end
def uo (x:(List Sx)×rU×List jR):Option (rU×List jR):=dM fuel x
def qw (x:sq×List sk):Option (Ab×Int×Int):=
 (obind (fk x) λy1=>(iV y1.1 0 (af (((([]:List Tn),([]:List ((List UInt8)×Bool)),([]:List fm),([]:List (List UInt8)),([]:List (List UInt8)),([]:List (Int×Int×Int))),([]:List (Int×List jR))),y1)) (obind (uq x) λy2=>(iter (σ:=(Int×Int)×(sq×List sk)×dz×List (Int×List jR)) (λJ=>(bz J.1.2 (aZ J.2.1.2) (bB s8 J.2.1.2 J.1.2 λz4=>(bB s8 J.2.1.2 J.1.2 λz5=>(obind (uo (z5.2.2.2,(J.p2.1,J.p2.2.1,J.p2.p2,J.p2.p3,J.p2.p4,J.p2.q5,z4.2.2.1,0,J.1.1),([]:List jR))) λU=>(bC (aC (al ([]:List jR)) (al ([]:List jR))&&ai) (obind (cF ((28,0,0,0,0,0),(U.1.1,U.1.2.1,U.1.p2,U.1.p3,U.1.p4,U.1.p5,U.1.p6,(-1),U.1.q8),U.2)) λy7=>(bC (aC (al U.2) (al U.2)&&ai) (iter (σ:=Int×(sq×List sk)×dz×rU×Int×(List (Int×List jR))×List jR) (λM=>(bz M.1 (aZ M.q6) (kB qY M.q6 M.1 λz9=>(obind (jE z9) λY=>(iter (σ:=Int×(sq×List sk)×dz×rU×Int×(List (Int×List jR))×List jR) (λI=>(bz I.1 (aZ Y) (bB aM Y I.1 λZ=>(cK ((cD I.1),I.2.1,I.p2,I.p3,(iE I.p4 (cD Z)),I.q5))) (aF (lz ((cD M.1),I.2))))) (0,M.2)))) (obind (bC (a_ (al M.p5+al ([(M.p4,M.q6)])) 32) (cK ((U.1.q8,(cD J.1.2)),M.2.1,M.p2,(M.p5++([(M.p4,M.q6)]))))) λr=>af (bP r)))) (0,J.2.1,J.p2,y7.1,(aZ y7.1.p6),J.q3,y7.2)))))))) (aF (J.2.2,0,0)))) ((0,0),x,y2,([]:List (Int×List jR)))))))
def qu (x:(List Int)×Int):Option (Bool):=
 (iter (σ:=Int) (λI=>(bz I (aZ x.1) (bB aM x.1 I λJ=>(be J x.2 (aF ai) (cK (cD I)))) (aF aj))) 0)
def wD (x:(List Int)×Int):Option (List Int):=
 (iter (σ:=Int) (λI=>(jn (α:=Bool) (bz I (aZ x.1) (bB aM x.1 I λM=>(aF (fR M x.2))) (aF aj)) λY=>(bcase Y (cK (cD I)) (obind (jn (α:=Bool) (bz I (aZ x.1) (bB aM x.1 I λJ=>(aF (decide ((J:Int)=x.2)))) (aF aj)) λU=>(bcase U (af x.1) (bC (c8 0 I&&c8 I (al x.1)) (bC (a_ (al ([]:List Int)+al (dQ (aU I) x.1)) 8) (bC (a_ (al (([]:List Int)++(dQ (aU I) x.1))+al ([x.2])) 8) (bC (c8 0 I&&c8 I (al x.1)) (bC (a_ (al ((([]:List Int)++(dQ (aU I) x.1))++([x.2]))+al (List.drop (aU I) x.1)) 8) (af (((([]:List Int)++(dQ (aU I) x.1))++([x.2]))++(List.drop (aU I) x.1)))))))))) λr=>af (bP r))))) 0)
def rB (x:(List Int)×List Int):Option (List Int):=
 (iter (σ:=(List Int)×Int) (λJ=>(bz J.2 (aZ x.1) (bB aM x.1 J.2 λU=>(obind (wD (J.1,U)) λZ=>(cK (Z,(cD J.2))))) (obind (iter (σ:=(List Int)×Int) (λI=>(bz I.2 (aZ x.2) (bB aM x.2 I.2 λM=>(obind (wD (I.1,M)) λY=>(cK (Y,(cD I.2))))) (aF I.1))) (J.1,0)) λr=>af (bP r)))) (([]:List Int),0))
def mi (x:Int):Option (Int):=
 (jn (α:=Bool) (bz x 1 (aF ai) (aF (fR 100 x))) λI=>(bcase I (af 0) (af x)))
def co (x:Int×(List Int)×(List (List Int))×Int):Option ((Int×Int)×(List Int)×List (List Int)):=
 (bC (a_ (al ([]:List Int)+al x.2.1) 8) (iter (σ:=Int×ua×(Int×Int)×(Int×Int)×(List Int)×List (List Int)) (λI=>(bz I.1 (aZ I.2.1.p2) (bB (.sl aM) I.2.1.p2 I.1 λJ=>(bC (a_ (al ([]:List Int)+al J) 8) (bC (a_ (al I.q5+al ([(([]:List Int)++J)])) 24) (cK ((cD I.1),I.2.1,I.p2,I.p3,I.p4,(I.q5++([(([]:List Int)++J)]))))))) (aF I.q3))) (0,x,(0,0),(x.1,x.q3),(([]:List Int)++x.2.1),([]:List (List Int)))))
def wC (x:(jR×Int×Int)×(List Int)×List (List Int)):Option (((Int×Int)×Bool)×(List Int)×List (List Int)):=
 (obind (jE x.1.1) λy1=>(iter (σ:=Int×(List Int)×(List (List Int))×jR×(Int×Int)×Int×Int) (λI=>(bz I.1 (aZ y1) (jn (α:=Bool×(List Int)×(List (List Int))×jR×(Int×Int)×Int×Int) (bB aM y1 I.1 λz4=>(bz z4 0 (aF (ai,I.2)) (bB aM y1 I.1 λz5=>(aF ((c8 (aZ I.2.1) z5),I.2))))) λx3=>(bcase x3.1 ah (cK ((cD I.1),x3.2)))) (obind (jn (α:=(Int×Bool×List Int)×(List Int)×(List (List Int))×jR×(Int×Int)×Int×Int) (be I.p3.1 5 (cK (((I.p3.2.1,I.p4.2),ai),I.2.1,I.p2)) (be I.p3.1 1 (aF ((I.p3.p4,ai,([]:List Int)),I.2)) (be I.p3.1 2 (kB aM I.2.1 I.p3.p2 λz7=>(kB (.sl aM) I.p2 I.p3.p2 λz8=>(aF ((z7,ai,z8),I.2)))) (be I.p3.1 3 (obind (mi I.p3.p4) λy9=>(kB aM I.2.1 I.p3.p2 λz10=>(obind (ur (y9,z10)) λU=>(kB (.sl aM) I.p2 I.p3.p2 λz12=>(aF ((U.1,U.2,z12),I.2)))))) (obind (mi I.p3.p4) λy13=>(kB aM I.2.1 I.p3.p2 λz14=>(kB aM I.2.1 I.p3.p3 λz15=>(obind (sB (y13,z14,z15)) λM=>(kB (.sl aM) I.p2 I.p3.p2 λZ=>(kB (.sl aM) I.p2 I.p3.p3 λY=>(obind (rB (Z,Y)) λy19=>(aF ((M.1,M.2,y19),I.2))))))))))))) λJ=>(bC (a_ (al ([]:List Int)+al J.1.2.2) 8) (ck (fc J.p3.2.1 (al J.2.1)) (ck (fc J.p3.2.1 (al J.p2)) (af ((((cD J.p4.1),J.p4.2),J.1.2.1),(cQ J.2.1 J.p3.2.1 J.1.1),(cQ J.p2 J.p3.2.1 (([]:List Int)++J.1.2.2)))))))) λr=>af (bP r)))) (0,x.2.1,x.2.2,x.1.1,x.1.2,0,0)))
def m8 (x:(Int×List jR)×Int×(List Int)×(List (List Int))×Int):Option (ua×Bool):=
 (jn (α:=Bool×(Int×List jR)×ua×Int×Int) (iV (aZ x.p2) x.1.1 (aF (ai,x.1,x.2,0,0)) (aF ((!decide (((aZ x.p3):Int)=x.1.1)),x.1,x.2,0,0))) λU=>(bcase U.1 (af ((0,([]:List Int),([]:List (List Int)),0),aj)) (obind (co U.p2) λZ=>(iter (σ:=Int×(Int×List jR)×(Int×Int)×(Int×Int)×(List Int)×List (List Int)) (λJ=>(iW J.1 (aZ J.2.1.2) (jn (α:=Bool×(Int×List jR)×(Int×Int)×(Int×Int)×(List Int)×List (List Int)) (bz J.p2.1 0 (aF (ai,J.2)) (aF ((c8 (aZ J.2.1.2) J.p2.1),J.2))) λI=>(bcase I.1 (aF ((0,([]:List Int),([]:List (List Int)),0),aj)) (bB qY I.2.1.2 I.p2.1 λY=>(obind (pK Y.1) λy6=>(bcase (!y6) (aF ((I.p2.1,I.p4,I.q5,I.p2.2),ai)) (be J.1 (aZ I.2.1.2) (aF ((0,([]:List Int),([]:List (List Int)),0),aj)) (obind (wC ((Y,I.p2),I.q4)) λM=>(bC (aC (al I.q5) (al M.2.2)&&(aC (al I.p4) (al M.2.1)&&ai)) (bcase (!M.1.2) (aF ((0,([]:List Int),([]:List (List Int)),0),aj)) (cK ((cD J.1),I.2.1,M.1.1,I.p3,M.2))))))))))) (aF ((0,([]:List Int),([]:List (List Int)),0),aj)))) (0,U.2.1,Z.1,U.q3,Z.2)))))
def rz (x:gP×gC×(List fm)×cf×cf×List (Int×Int×Int)):Option pa:=
 (iter (σ:=Int×dz×Int×Int×List (Int×List Int)) (λM=>(bz M.1 (aZ M.2.1.2.1) (bC (a_ (al M.q4+al ([((-1),([]:List Int))])) 32) (cK ((cD M.1),M.2.1,M.p2,M.p3,(M.q4++([((-1),([]:List Int))]))))) (obind (iter (σ:=Int×dz×Int×Int×gI×List Bool) (λJ=>(bz J.1 (aZ J.2.1.p3) (bC (a_ (al J.q5+al ([aj])) 1) (cK ((cD J.1),J.2.1,J.p2,J.p3,J.p4,(J.q5++([aj]))))) (obind (iter (σ:=Int×dz×Int×Int×gI×(List Bool)×List dy) (λI=>(bz I.1 (aZ I.2.1.p4) (jn (α:=dz×Int×Int×dy×gI×(List Bool)×List dy) (be I.1 0 (aF (I.2.1,I.p2,I.p3,(1,0,aj),I.q4)) (aF (I.2.1,I.p2,I.p3,(0,0,aj),I.q4))) λU=>(bC (a_ (al U.q6+al ([U.p3])) 24) (cK ((cD I.1),U.1,U.2.1,U.p2,U.p4,U.p5,(U.q6++([U.p3])))))) (aF (I.p4,I.p3,I.q5)))) (0,J.2.1,J.p2,J.p3,J.p4,J.q5,([]:List dy))) λr=>af (bP r)))) (0,M.2.1,M.p2,M.p3,M.q4,([]:List Bool))) λr=>af (bP r)))) (0,x,0,(-1),([]:List (Int×List Int))))
def rA (x:dz×gI×Int×(List Bool)×List dy):Option (Bool):=
 (iter (σ:=Int×dz×gI×Int×(List Bool)×List dy) (λI=>(bz I.1 (aZ I.2.1.p2) (jn (α:=Bool×dz×gI×Int×(List Bool)×List dy) (bB lm I.2.1.p2 I.1 λU=>(bz U.2 0 (aF (ai,I.2)) (bB lm I.2.1.p2 I.1 λM=>(aF ((c8 (aZ I.2.1.2.1) M.2),I.2))))) λJ=>(bcase J.1 (aF aj) (cK ((cD I.1),J.2)))) (obind (jn (α:=Bool) (be (aZ I.p2) (aZ I.2.1.2.1) (be (aZ I.p4) (aZ I.2.1.p3) (aF (decide (((aZ I.q5):Int)=(aZ I.2.1.p4)))) (aF aj)) (aF aj)) λY=>(af Y)) λr=>af (bP r)))) (0,x))
def qr (x:Int×Int):Option (Bool):=
 (jn (α:=Bool) (iW 0 x.1 (aF (fR x.1 x.2)) (aF aj)) λI=>(af I))
def um (x:dz×Int×Int):Option (Bool):=
 (jn (α:=Bool×gP×gC×(List fm)×cf×cf×List (Int×Int×Int)) (be x.2.1 1 (aF ((decide ((x.2.1:Int)=1)),x.1)) (be x.2.1 2 (aF ((decide ((x.2.1:Int)=2)),x.1)) (be x.2.1 5 (aF ((decide ((x.2.1:Int)=5)),x.1)) (be x.2.1 12 (aF ((decide ((x.2.1:Int)=12)),x.1)) (be x.2.1 13 (aF ((decide ((x.2.1:Int)=13)),x.1)) (be x.2.1 14 (aF ((decide ((x.2.1:Int)=14)),x.1)) (aF ((decide ((x.2.1:Int)=15)),x.1)))))))) λx1=>(bcase x1.1 (af (decide ((x.2.2:Int)=(-1)))) (jn (α:=Bool×gP×gC×(List fm)×cf×cf×List (Int×Int×Int)) (be x.2.1 3 (aF ((decide ((x.2.1:Int)=3)),x1.2)) (aF ((decide ((x.2.1:Int)=4)),x1.2))) λZ=>(bcase Z.1 (obind (qr (x.2.2,(aZ Z.2.1))) λy3=>(af y3)) (jn (α:=Bool×gP×gC×(List fm)×cf×cf×List (Int×Int×Int)) (be x.2.1 6 (aF ((decide ((x.2.1:Int)=6)),Z.2)) (aF ((decide ((x.2.1:Int)=7)),Z.2))) λU=>(bcase U.1 (jn (α:=Bool) (obind (qr (x.2.2,(aZ U.p2))) λy6=>(bcase y6 (bB q_ U.p2 x.2.2 λz7=>(aF (!z7.2))) (aF aj))) λx5=>(af x5)) (jn (α:=Bool×gP×gC×(List fm)×cf×cf×List (Int×Int×Int)) (be x.2.1 8 (aF ((decide ((x.2.1:Int)=8)),U.2)) (be x.2.1 9 (aF ((decide ((x.2.1:Int)=9)),U.2)) (be x.2.1 10 (aF ((decide ((x.2.1:Int)=10)),U.2)) (aF ((decide ((x.2.1:Int)=11)),U.2))))) λM=>(bcase M.1 (jn (α:=Bool) (obind (qr (x.2.2,(aZ M.p2))) λy10=>(bcase y10 (bB q_ M.p2 x.2.2 λz11=>(aF z11.2)) (aF aj))) λx9=>(af x9)) (jn (α:=Bool×gP×gC×(List fm)×cf×cf×List (Int×Int×Int)) (be x.2.1 16 (aF ((decide ((x.2.1:Int)=16)),M.2)) (be x.2.1 17 (aF ((decide ((x.2.1:Int)=17)),M.2)) (be x.2.1 18 (aF ((decide ((x.2.1:Int)=18)),M.2)) (aF ((decide ((x.2.1:Int)=19)),M.2))))) λJ=>(bcase J.1 (obind (qr (x.2.2,(aZ J.p3))) λy13=>(af y13)) (jn (α:=Bool×gP×gC×(List fm)×cf×cf×List (Int×Int×Int)) (be x.2.1 20 (aF ((decide ((x.2.1:Int)=20)),J.2)) (aF ((decide ((x.2.1:Int)=21)),J.2))) λI=>(bcase I.1 (obind (qr (x.2.2,(aZ I.p5))) λy15=>(af y15)) (jn (α:=Bool×gP×gC×(List fm)×cf×cf×List (Int×Int×Int)) (be x.2.1 22 (aF ((decide ((x.2.1:Int)=22)),I.2)) (aF ((decide ((x.2.1:Int)=23)),I.2))) λY=>(bcase Y.1 (obind (qr (x.2.2,(aZ Y.p4))) λy17=>(af y17)) (af aj)))))))))))))))
def kc (x:dz×pa×Int×Int×Int):Option (Bool):=
 (jn (α:=Bool×dz×gI×Int×(List Bool)×List dy) (obind (rA (x.1,x.2.1)) λy2=>(bcase (!y2) (aF (ai,x.1,x.2.1)) (obind (qr (x.p2,(aZ x.1.p4))) λy3=>(bcase (!y3) (aF (ai,x.1,x.2.1)) (obind (um (x.1,x.q3)) λy4=>(aF ((!y4),x.1,x.2.1))))))) λM=>(bcase M.1 (af aj) (bB ie M.q5 x.p2 λU=>(be x.p3 1 (af (decide ((U.1:Int)=1))) (be x.p3 17 (jn (α:=Bool) (be U.1 4 (be U.2.1 x.q4 (bB lm M.2.1.p2 x.q4 λz7=>(bB d_ M.p2 z7.2 λz8=>(aF (decide ((z8.1:Int)=(-1)))))) (aF aj)) (aF aj)) λx6=>(af x6)) (iV U.1 2 (af aj) (be x.p3 6 (bB d_ M.p2 x.q4 λz9=>(af (decide ((z9.1:Int)=(-1))))) (be x.p3 10 (jn (α:=Bool) (bB d_ M.p2 x.q4 λz11=>(be z11.1 (-1) (bB d_ M.p2 x.q4 λz12=>(aF (decide (((aZ z12.2):Int)=0)))) (aF aj))) λx10=>(af x10)) (be x.p3 8 (jn (α:=Bool) (bB d_ M.p2 x.q4 λz14=>(be z14.1 (-1) (bB d_ M.p2 x.q4 λz15=>(obind (qu (z15.2,x.p2)) λy16=>(aF (!y16)))) (aF aj))) λx13=>(af x13)) (jn (α:=Bool×dz×pa×Int×Int×Bool) (be x.p3 7 (aF ((decide ((x.p3:Int)=7)),M.2.1,M.2.2,U)) (aF ((decide ((x.p3:Int)=11)),M.2.1,M.2.2,U))) λI=>(bcase I.1 (bB d_ I.p2.1 x.q4 λz18=>(af (decide ((z18.1:Int)=x.p2)))) (be x.p3 9 (bB d_ I.p2.1 x.q4 λz19=>(obind (qu (z19.2,x.p2)) λy20=>(af y20))) (be x.p3 12 (af (decide ((I.p2.2.1:Int)=(-1)))) (be x.p3 13 (af (decide ((I.p2.2.1:Int)=x.p2))) (be x.p3 14 (af (!I.q5)) (be x.p3 15 (af I.q5) (jn (α:=Bool×dz×gI×Int×(List Bool)×List dy) (be x.p3 16 (aF ((decide ((x.p3:Int)=16)),I.2.1,I.p2)) (be x.p3 18 (aF ((decide ((x.p3:Int)=18)),I.2.1,I.p2)) (aF ((decide ((x.p3:Int)=19)),I.2.1,I.p2)))) λJ=>(bcase J.1 (bB lm J.2.1.p2 x.q4 λz22=>(bB d_ J.p2 z22.2 λz23=>(af (decide ((z23.1:Int)=x.p2))))) (be x.p3 20 (jn (α:=Bool) (iV x.q4 x.p2 (bB ie J.q5 x.q4 λz25=>(aF (decide ((z25.1:Int)=0)))) (aF aj)) λx24=>(af x24)) (be x.p3 21 (jn (α:=Bool) (iV x.q4 x.p2 (bB ie J.q5 x.q4 λz27=>(aF (decide ((z27.1:Int)=5)))) (aF aj)) λx26=>(af x26)) (be x.p3 22 (bB (.bool) J.p4 x.q4 λZ=>(af (!Z))) (be x.p3 23 (bB (.bool) J.p4 x.q4 λY=>(af Y)) (af ai)))))))))))))))))))))))
def nL (x:pa×Int):Option (List Int):=
 (iter (σ:=Int×pa×List Int) (λI=>(bz I.1 (aZ I.2.1.q3) (jn (α:=pa×List Int) (jn (α:=Bool×pa×List Int) (bB ie I.2.1.q3 I.1 λU=>(be U.1 3 (bB ie I.2.1.q3 I.1 λM=>(aF ((decide ((M.2.1:Int)=x.2)),I.2))) (aF (aj,I.2)))) λJ=>(bcase J.1 (bC (a_ (al J.2.2+al ([I.1])) 8) (aF (J.2.1,(J.2.2++([I.1]))))) (aF J.2))) λY=>(cK ((cD I.1),Y))) (aF I.2.2))) (0,x.1,([]:List Int)))
def qp (x:(List Int)×Int):Option (List Int):=
 (iter (σ:=Int×List Int) (λI=>(bz I.1 (aZ x.1) (jn (α:=List Int) (bB aM x.1 I.1 λM=>(iV M x.2 (bB aM x.1 I.1 λJ=>(bC (a_ (al I.2+al ([J])) 8) (aF (I.2++([J]))))) (aF I.2))) λU=>(cK ((cD I.1),U))) (aF I.2))) (0,([]:List Int)))
def io (x:gI×Int×(List Bool)×List dy):Option (Int×gI×(List Bool)×List dy):=
 (bC (a_ (al ([]:List Bool)+al x.p2) 1) (bC (a_ (al ([]:List dy)+al x.q3) 24) (iter (σ:=Int×pa×Int×Int×gI×(List Bool)×List dy) (λI=>(bz I.1 (aZ I.2.1.1) (bB d_ I.2.1.1 I.1 λM=>(bB d_ I.2.1.1 I.1 λJ=>(bC (a_ (al ([]:List Int)+al J.2) 8) (bC (a_ (al I.p4+al ([(M.1,(([]:List Int)++J.2))])) 32) (cK ((cD I.1),I.2.1,I.p2,I.p3,(I.p4++([(M.1,(([]:List Int)++J.2))])),I.q5)))))) (aF I.q3))) (0,x,0,x.2.1,([]:List (Int×List Int)),(([]:List Bool)++x.p2),(([]:List dy)++x.q3)))))
def mh (x:(Int×Int)×gI×(List Bool)×List dy):Option ((List Int)×gI×(List Bool)×List dy):=
 (iter (σ:=Int×gI×(List Bool)×(List dy)×Int×List Int) (λI=>(bz I.1 (aZ I.p3) (jn (α:=gI×(List Bool)×(List dy)×Int×List Int) (jn (α:=Bool×gI×(List Bool)×(List dy)×Int×List Int) (kB ie I.p3 I.1 λU=>(be U.1 3 (kB ie I.p3 I.1 λM=>(aF ((decide ((M.2.1:Int)=x.1.2)),I.2))) (aF (aj,I.2)))) λJ=>(bcase J.1 (bC (a_ (al J.q5+al ([I.1])) 8) (aF (J.2.1,J.p2,J.p3,J.p4,(J.q5++([I.1]))))) (aF J.2))) λY=>(cK ((cD I.1),Y))) (aF (I.q5,I.2.1,I.p2,I.p3)))) (0,x.2.1,x.p2,x.q3,x.1.1,([]:List Int)))
def jC (x:(Int×Int)×gI×(List Bool)×List dy):Option (List Int):=obind (mh x) λy=>same y.2 x.2 (af y.1)
def pl (x:dz×pa×Int×Int×Int×Int):Option (pa×Int×Bool):=
 (obind (kc (x.1,x.2.1,x.p2,x.p3,x.p4)) λy1=>(bcase (!y1) (af ((([]:List (Int×List Int)),0,([]:List Bool),([]:List dy)),0,aj)) (obind (io x.2.1) λU=>(jn (α:=Int×Int×Int×gI×(List Bool)×List dy) (be x.p3 1 (ck (fc x.p2 (al U.q3)) (aF (0,U.1,0,U.2.1,U.p2,(cQ U.q3 x.p2 (2,(aK (T:=ie) U.q3 x.p2).2))))) (be x.p3 2 (ck (fc x.p2 (al U.q3)) (aF (0,U.1,0,U.2.1,U.p2,(cQ U.q3 x.p2 (5,(aK (T:=ie) U.q3 x.p2).2))))) (jn (α:=Bool×dz×Int×Int×gI×(List Bool)×List dy) (be x.p3 6 (aF ((decide ((x.p3:Int)=6)),x.1,U.1,0,U.2)) (aF ((decide ((x.p3:Int)=10)),x.1,U.1,0,U.2))) λY=>(bcase Y.1 (ck (fc x.p4 (al Y.p4)) (aF (0,Y.p2,Y.p3,(cQ Y.p4 x.p4 (x.p2,(aK (T:=d_) Y.p4 x.p4).2)),Y.q5))) (jn (α:=Bool×dz×Int×Int×gI×(List Bool)×List dy) (be x.p3 7 (aF ((decide ((x.p3:Int)=7)),Y.2)) (aF ((decide ((x.p3:Int)=11)),Y.2))) λI=>(bcase I.1 (ck (fc x.p4 (al I.p4)) (aF (0,I.p2,I.p3,(cQ I.p4 x.p4 ((-1),(aK (T:=d_) I.p4 x.p4).2)),I.q5))) (be x.p3 8 (kB d_ I.p4 x.p4 λz6=>(obind (rB (z6.2,[x.p2])) λy7=>(ck (fc x.p4 (al I.p4)) (aF (0,I.p2,I.p3,(cQ I.p4 x.p4 ((aK (T:=d_) I.p4 x.p4).1,y7)),I.q5))))) (be x.p3 9 (kB d_ I.p4 x.p4 λz8=>(obind (qp (z8.2,x.p2)) λy9=>(ck (fc x.p4 (al I.p4)) (aF (0,I.p2,I.p3,(cQ I.p4 x.p4 ((aK (T:=d_) I.p4 x.p4).1,y9)),I.q5))))) (be x.p3 12 (aF (0,x.p2,I.q3)) (be x.p3 13 (aF (0,(-1),I.q3)) (be x.p3 14 (ck (fc x.p2 (al I.q6)) (aF (0,I.p2,I.p3,I.p4,I.p5,(cQ I.q6 x.p2 ((aK (T:=ie) I.q6 x.p2).1,((aK (T:=ie) I.q6 x.p2).2).1,ai))))) (be x.p3 15 (ck (fc x.p2 (al I.q6)) (aF (0,I.p2,I.p3,I.p4,I.p5,(cQ I.q6 x.p2 ((aK (T:=ie) I.q6 x.p2).1,((aK (T:=ie) I.q6 x.p2).2).1,aj))))) (be x.p3 16 (bB lm I.2.1.p2 x.p4 λz10=>(ck (fc z10.2 (al I.p4)) (ck (fc x.p2 (al I.q6)) (ck (fc x.p2 (al (cQ I.q6 x.p2 (3,(aK (T:=ie) I.q6 x.p2).2)))) (aF (0,I.p2,I.p3,(cQ I.p4 z10.2 ((-1),(aK (T:=d_) I.p4 z10.2).2)),I.p5,(cQ (cQ I.q6 x.p2 (3,(aK (T:=ie) I.q6 x.p2).2)) x.p2 ((aK (T:=ie) (cQ I.q6 x.p2 (3,(aK (T:=ie) I.q6 x.p2).2)) x.p2).1,x.p4,((aK (T:=ie) (cQ I.q6 x.p2 (3,(aK (T:=ie) I.q6 x.p2).2)) x.p2).2).2)))))))) (be x.p3 17 (bB lm I.2.1.p2 x.p4 λz11=>(ck (fc z11.2 (al I.p4)) (ck (fc x.p2 (al I.q6)) (ck (fc x.p2 (al (cQ I.q6 x.p2 (2,(aK (T:=ie) I.q6 x.p2).2)))) (aF (0,I.p2,I.p3,(cQ I.p4 z11.2 (x.p2,(aK (T:=d_) I.p4 z11.2).2)),I.p5,(cQ (cQ I.q6 x.p2 (2,(aK (T:=ie) I.q6 x.p2).2)) x.p2 ((aK (T:=ie) (cQ I.q6 x.p2 (2,(aK (T:=ie) I.q6 x.p2).2)) x.p2).1,0,((aK (T:=ie) (cQ I.q6 x.p2 (2,(aK (T:=ie) I.q6 x.p2).2)) x.p2).2).2)))))))) (be x.p3 18 (obind (jC ((I.p2,x.p4),I.q4)) λy12=>(bz 0 (aZ y12) (bB aM y12 0 λz13=>(jn (α:=Int×Int×Int×gI×(List Bool)×List dy) (obind (qu (y12,x.q5)) λy15=>(bcase y15 (aF (x.q5,I.2.2)) (aF (z13,I.2.2)))) λM=>(ck (fc M.1 (al M.q5)) (aF (M.1,M.2.1,M.p2,M.p3,M.p4,(cQ M.q5 M.1 (4,(aK (T:=ie) M.q5 M.1).2))))))) (aF ((-1),I.2.2)))) (be x.p3 19 (obind (jC ((I.p2,x.p4),I.q4)) λy16=>(iter (σ:=Int×Int×Int×gI×(List Bool)×List dy) (λJ=>(bz J.1 (aZ y16) (bB aM y16 J.1 λZ=>(ck (fc Z (al J.q5)) (cK ((cD J.1),J.2.1,J.p2,J.p3,J.p4,(cQ J.q5 Z (4,(aK (T:=ie) J.q5 Z).2)))))) (aF (bP ((aZ y16),J.2))))) (0,I.2.2))) (be x.p3 20 (ck (fc x.p4 (al I.q6)) (aF (0,I.p2,I.p3,I.p4,I.p5,(cQ I.q6 x.p4 (1,(aK (T:=ie) I.q6 x.p4).2))))) (be x.p3 22 (ck (fc x.p4 (al I.p5)) (aF (0,I.p2,I.p3,I.p4,(cQ I.p5 x.p4 ai),I.q6))) (aF (0,I.2.2)))))))))))))))))))) λx3=>(af ((x3.p3,x3.2.1,x3.q4),x3.1,ai))))))
def ul (x:dz×List (Int×List jR)):Option xg:=
 (obind (jD x) λy1=>(bcase (!y1) (af ((([]:List (Int×List Int)),0,([]:List Bool),([]:List dy)),([]:List Int),([]:List Int),([]:List ua))) (obind (rz x.1) λy2=>(iter (σ:=Int×Ab×Int×pa×List Int) (λM=>(bz M.1 (aZ M.2.1.1.1) (bB ky M.2.1.1.1 M.1 λZ=>(bC (a_ (al M.q4+al ([Z.2.2.2.2])) 8) (cK ((cD M.1),M.2.1,M.p2,M.p3,(M.q4++([Z.2.2.2.2])))))) (obind (iter (σ:=Int×Ab×Int×pa×(List Int)×List Int) (λJ=>(bz J.1 (aZ J.2.1.1.p3) (bC (a_ (al J.q5+al ([0])) 8) (cK ((cD J.1),J.2.1,J.p2,J.p3,J.p4,(J.q5++([0]))))) (obind (iter (σ:=Int×Ab×Int×pa×(List Int)×(List Int)×List ua) (λI=>(bz I.1 (aZ I.2.1.2) (wa I.1 I.2.1.2 (lt ((aK (T:=xi) I.2.1.2 I.1).1) λY=>(bC (c8 0 Y&&c8 Y Y&&a_ (aU Y) 8) (wa I.1 I.2.1.2 (lt ((aK (T:=xi) I.2.1.2 I.1).1) λU=>(bC (c8 0 U&&c8 U U&&a_ (aU U) 24) (bC (a_ (al I.q6+al ([(0,(aG (aU Y) (0:Int)),(aG (aU U) ([]:List Int)),0)])) 64) (cK ((cD I.1),I.2.1,I.p2,I.p3,I.p4,I.p5,(I.q6++([(0,(aG (aU Y) (0:Int)),(aG (aU U) ([]:List Int)),0)]))))))))))) (aF I.q3))) (0,J.2.1,J.p2,J.p3,J.p4,J.q5,([]:List ua))) λr=>af (bP r)))) (0,M.2.1,M.p2,M.p3,M.q4,([]:List Int))) λr=>af (bP r)))) (0,x,0,y2,([]:List Int))))))
def wB (x:Ab×pa×(List Int)×(List Int)×List ua):Option (Bool):=
 (jn (α:=Bool×Ab×pa×(List Int)×(List Int)×List ua) (obind (jD x.1) λy2=>(bcase (!y2) (aF (ai,x)) (obind (rA (x.1.1,x.2.1)) λy3=>(bcase (!y3) (aF (ai,x)) (iV (aZ x.p2) (aZ x.1.1.1) (aF (ai,x)) (iV (aZ x.p3) (aZ x.1.1.p3) (aF (ai,x)) (aF ((!decide (((aZ x.q4):Int)=(aZ x.1.2))),x)))))))) λU=>(bcase U.1 (af aj) (iter (σ:=Int×Ab×pa×(List Int)×(List Int)×List ua) (λI=>(bz I.1 (aZ I.2.1.2) (bB eU I.q5 I.1 λJ=>(jn (α:=Bool×Ab×pa×(List Int)×(List Int)×List ua) (bz J.1 0 (aF (ai,I.2)) (bB xi I.2.1.2 I.1 λz7=>(iW (aZ z7.2) J.1 (aF (ai,I.2)) (bB xi I.2.1.2 I.1 λZ=>(iV (aZ J.2.1) Z.1 (aF (ai,I.2)) (bB xi I.2.1.2 I.1 λY=>(aF ((!decide (((aZ J.p2):Int)=Y.1)),I.2)))))))) λM=>(bcase M.1 (aF aj) (cK ((cD I.1),M.2))))) (aF ai))) (0,U.2))))
def wz (x:Int):Option (Int):=
 (jn (α:=Bool×List Int) (bz x 6 (aF (ai,[3,3,4,4,5,6,7,8,9,10,11,12,13,14,15,16,18,19,20,21,22,23,2])) (aF ((fR 28 x),[3,3,4,4,5,6,7,8,9,10,11,12,13,14,15,16,18,19,20,21,22,23,2]))) λI=>(bcase I.1 (af 0) (kB aM I.2 (bk .i64 (x-6)) λJ=>(af J))))
def sA (x:jR×Int×(List Int)×(List (List Int))×Int):Option (Int):=
 (jn (α:=Bool×jR×Int×(List Int)×(List (List Int))×Int) (be x.1.1 6 (aF ((decide ((x.1.1:Int)=6)),x)) (aF ((decide ((x.1.1:Int)=27)),x))) λI=>(bcase I.1 (af I.2.1.p2) (be x.1.1 7 (bB aM I.p3 I.2.1.p3 λU=>(obind (rC (U,I.2.1.p4)) λZ=>(af (bk .i64 (I.2.1.p2+Z))))) (be x.1.1 9 (bB aM I.p3 I.2.1.p3 λM=>(obind (rC (M,I.2.1.p4)) λY=>(af (bk .i64 (I.2.1.2.1+Y))))) (jn (α:=Bool×Int×Int×Int×Int×Int×Int) (be x.1.1 10 (aF ((decide ((x.1.1:Int)=10)),I.2.1)) (be x.1.1 17 (aF ((decide ((x.1.1:Int)=17)),I.2.1)) (be x.1.1 18 (aF ((decide ((x.1.1:Int)=18)),I.2.1)) (be x.1.1 19 (aF ((decide ((x.1.1:Int)=19)),I.2.1)) (be x.1.1 20 (aF ((decide ((x.1.1:Int)=20)),I.2.1)) (aF ((decide ((x.1.1:Int)=28)),I.2.1))))))) λJ=>(bcase J.1 (af (-1)) (af J.p2)))))))
def nK (x:Ab×xg×Int):Option (gh×Bool):=
 (jn (α:=Bool×Ab×xg×Int×Int×Int×Int×Int) (obind (wB (x.1,x.2.1)) λy2=>(bcase (!y2) (aF (ai,x.1,x.2.1,0,0,0,0,0)) (bz x.2.2 0 (aF (ai,x.1,x.2.1,0,0,0,0,0)) (aF ((c8 (aZ x.1.2) x.2.2),x.1,x.2.1,0,0,0,0,0))))) λZ=>(bcase Z.1 (af ((0,0,0,0,0,([]:List Int),([]:List Int)),aj)) (bB eU Z.p2.q3 x.2.2 λz3=>(bB xi Z.2.1.2 x.2.2 λz4=>(bB qY z4.2 z3.1 λM=>(bB ie Z.p2.1.q3 x.2.2 λz6=>(be z6.1 1 (af ((x.2.2,1,(-1),0,(-1),([]:List Int),([]:List Int)),ai)) (be z6.1 4 (bB ie Z.p2.1.q3 x.2.2 λz7=>(af ((x.2.2,17,z7.2.1,0,M.q5,([]:List Int),([]:List Int)),ai))) (be z6.1 2 (obind (wz M.1) λy8=>(obind (sA (M,z3)) λy9=>(be y8 0 (af ((0,0,0,0,0,([]:List Int),([]:List Int)),aj)) (jn (α:=vW×ua×jR×vW×List Int) (be M.1 10 (bB (.sl aM) z3.p2 M.2.1 λz11=>(bC (a_ (al (z11:List Int)) 8) (aF (Z.q3,z3,M,(x.2.2,y8,y9,0,M.q5),z11)))) (jn (α:=Bool×vW×ua×jR×Int×Int×Int×Int×Int) (be M.1 7 (aF ((decide ((M.1:Int)=7)),Z.q3,z3,M,x.2.2,y8,y9,0,M.q5)) (aF ((decide ((M.1:Int)=9)),Z.q3,z3,M,x.2.2,y8,y9,0,M.q5))) λI=>(bcase I.1 (bB (.sl aM) I.p2.p2 I.p3.p3 λz13=>(bC (a_ (al (z13:List Int)) 8) (aF (I.2.1,I.p2,I.p3,I.q4,z13)))) (aF (I.2.1,I.p2,I.p3,I.q4,([]:List Int)))))) λY=>(jn (α:=vW×vW×(List Int)×List Int) (jn (α:=Bool×vW×ua×jR×vW×List Int) (be Y.p2.1 8 (aF (ai,Y)) (be Y.p2.1 9 (aF (ai,Y)) (aF ((decide ((Y.p2.1:Int)=26)),Y)))) λJ=>(bcase J.1 (bB (.sl aM) J.p2.p2 J.p3.p2 λz16=>(bC (a_ (al (z16:List Int)) 8) (aF (J.2.1,J.p4,J.q5,z16)))) (aF (J.2.1,J.p4,J.q5,([]:List Int))))) λU=>(af ((U.2.1.1,U.2.1.2.1,U.2.1.p2,U.2.1.p3,U.2.1.q4,U.2.2),ai))))))) (af ((0,0,0,0,0,([]:List Int),([]:List Int)),aj)))))))))))
def mP (x:gP×gC×(List fm)×cf×cf×List (Int×Int×Int)):Option eH:=
 (obind (rz x) λM=>(bC (c8 0 (aZ x.p3)&&c8 (aZ x.p3) (aZ x.p3)&&a_ (aU (aZ x.p3)) 8) (bC (c8 0 (aZ x.p4)&&c8 (aZ x.p4) (aZ x.p4)&&a_ (aU (aZ x.p4)) 8) (iter (σ:=Int×dz×Int×pa×(List Int)×(List Int)×List Int) (λI=>(bz I.1 (aZ I.2.1.1) (bB ky I.2.1.1 I.1 λJ=>(bC (a_ (al I.p4+al ([J.2.2.2.2])) 8) (cK ((cD I.1),I.2.1,I.p2,I.p3,(I.p4++([J.2.2.2.2])),I.q5)))) (aF I.q3))) (0,x,0,M,([]:List Int),(aG (aU (aZ x.p3)) (0:Int)),(aG (aU (aZ x.p4)) (0:Int)))))))
def wy (x:dz×pa×(List Int)×(List Int)×List Int):Option (Bool):=
 (jn (α:=Bool) (obind (rA (x.1,x.2.1)) λI=>(bcase I (be (aZ x.p2) (aZ x.1.1) (be (aZ x.p3) (aZ x.1.p3) (aF (decide (((aZ x.q4):Int)=(aZ x.1.p4)))) (aF aj)) (aF aj)) (aF aj))) λJ=>(af J))
def C4 (x:Int×Int):Option (Bool):=
 (jn (α:=Bool) (iW 0 x.1 (aF (fR x.1 x.2)) (aF aj)) λI=>(af I))
def nJ (x:(List Int)×Int):Option (Bool):=
 (iter (σ:=Int) (λI=>(bz I (aZ x.1) (jn (α:=Bool) (bB aM x.1 I λY=>(bz Y 1 (aF ai) (bB aM x.1 I λU=>(iW x.2 U (aF ai) (bz 0 I (bB aM x.1 I λM=>(bB aM x.1 (bk .i64 (I-1)) λJ=>(aF (c8 M J)))) (aF aj)))))) λZ=>(bcase Z (aF aj) (cK (cD I)))) (aF ai))) 0)
def uj (x:eH×Int×Int×Int×Int×Int×(List Int)×List Int):Option (Bool):=
 (be x.p2 3 (bB aM x.1.2.1 x.p3 λU=>(af (decide ((x.p4:Int)=U)))) (be x.p2 23 (bB aM x.1.p2 x.p3 λM=>(af (decide ((x.p4:Int)=M)))) (be x.p2 5 (jn (α:=Bool) (be x.p4 0 (aF ai) (aF (decide ((x.p4:Int)=1)))) λx3=>(af x3)) (jn (α:=Bool×eH×Int×Int×Int×Int×Int×(List Int)×List Int) (be x.p2 4 (aF ((decide ((x.p2:Int)=4)),x)) (aF ((decide ((x.p2:Int)=22)),x))) λI=>(bcase I.1 (af ai) (be x.p2 18 (obind (nL (I.2.1.1,I.p4)) λJ=>(be (aZ J) 0 (af (decide ((I.p5:Int)=(-1)))) (jn (α:=Bool) (iW 0 I.p5 (bz I.p5 (aZ I.2.1.1.q3) (obind (qu (J,I.p5)) λZ=>(aF Z)) (aF aj)) (aF aj)) λx6=>(af x6)))) (be x.p2 19 (obind (nL (I.2.1.1,I.p4)) λY=>(af (decide ((I.p5:Int)=(aZ Y))))) (af (decide ((I.p5:Int)=0))))))))))
def ry (x:dz×eH×Int×Int×Int×Int×Int×(List Int)×List Int):Option (eH×Bool):=
 (jn (α:=Bool×dz×eH×gh×Int) (obind (wy (x.1,x.2.1)) λy2=>(bcase (!y2) (aF (ai,x.1,x.2.1,x.2.2,0)) (obind (C4 (x.p2,(aZ x.1.p4))) λy3=>(bcase (!y3) (aF (ai,x.1,x.2.1,x.2.2,0)) (bz x.p3 1 (aF (ai,x.1,x.2.1,x.2.2,0)) (bz 23 x.p3 (aF (ai,x.1,x.2.1,x.2.2,0)) (obind (kc (x.1,x.2.1.1,x.p2,x.p3,x.p4)) λy4=>(aF ((!y4),x.1,x.2.1,x.2.2,0))))))))) λx1=>(bcase x1.1 (af (((([]:List (Int×List Int)),0,([]:List Bool),([]:List dy)),([]:List Int),([]:List Int),([]:List Int)),aj)) (jn (α:=dz×eH×gh×Int) (jn (α:=Bool×dz×eH×gh×Int) (be x1.p3.2.1 1 (aF (ai,x1.2)) (aF ((decide ((x1.p3.2.1:Int)=2)),x1.2))) λx6=>(bcase x6.1 (iV x6.p3.p4 (-1) (cK (((([]:List (Int×List Int)),0,([]:List Bool),([]:List dy)),([]:List Int),([]:List Int),([]:List Int)),aj)) (aF x6.2)) (jn (α:=Bool×dz×eH×gh×Int) (obind (C4 (x6.p3.p4,(aZ x6.2.1.q5))) λy8=>(bcase (!y8) (aF (ai,x6.2)) (bB oB x6.2.1.q5 x6.p3.p4 λz9=>(aF ((!decide ((z9.1:Int)=x6.p3.1)),x6.2))))) λx7=>(bcase x7.1 (cK (((([]:List (Int×List Int)),0,([]:List Bool),([]:List dy)),([]:List Int),([]:List Int),([]:List Int)),aj)) (aF x7.2))))) λx5=>(jn (α:=Bool×dz×eH×gh×Int) (be x5.p2.2.1 3 (aF (ai,x5)) (aF ((decide ((x5.p2.2.1:Int)=4)),x5))) λZ=>(jn (α:=Bool×dz×eH×gh×Int) (bz 0 (aZ Z.p3.p5) (iV Z.p3.2.1 5 (bcase Z.1 (bB ky Z.2.1.1 Z.p3.p2 λz12=>(aF ((!(!decide ((z12.2.2.1:Int)=0))),Z.2))) (aF (ai,Z.2))) (aF (aj,Z.2))) (aF (aj,Z.2))) λx11=>(bcase x11.1 (af (((([]:List (Int×List Int)),0,([]:List Bool),([]:List dy)),([]:List Int),([]:List Int),([]:List Int)),aj)) (jn (α:=Bool×dz×eH×gh×Int) (bz 0 (aZ x11.p3.q6) (iV x11.p3.2.1 4 (aF ((!decide ((x11.p3.2.1:Int)=22)),x11.2)) (aF (aj,x11.2))) (aF (aj,x11.2))) λU=>(bcase U.1 (af (((([]:List (Int×List Int)),0,([]:List Bool),([]:List dy)),([]:List Int),([]:List Int),([]:List Int)),aj)) (jn (α:=Bool×dz×eH×gh×Int) (bB aM U.p2.q3 U.p3.1 λz15=>(obind (nJ (U.p3.p5,z15)) λy16=>(bcase (!y16) (aF (ai,U.2)) (bB aM U.p2.q3 U.p3.1 λz17=>(obind (nJ (U.p3.q6,z17)) λy18=>(bcase (!y18) (aF (ai,U.2)) (obind (uj (U.p2,U.p3)) λy19=>(aF ((!y19),U.2))))))))) λI=>(bcase I.1 (af (((([]:List (Int×List Int)),0,([]:List Bool),([]:List dy)),([]:List Int),([]:List Int),([]:List Int)),aj)) (bC (a_ (al ([]:List Int)+al I.p2.2.1) 8) (bC (a_ (al ([]:List Int)+al I.p2.p2) 8) (bC (a_ (al ([]:List Int)+al I.p2.q3) 8) (jn (α:=Int×dz×eH×gh×Int×Int×(List Int)×(List Int)×List Int) (be I.p3.2.1 18 (aF (I.p3.p3,I.2.1,I.p2,I.p3,I.q4,0,(([]:List Int)++I.p2.2.1),(([]:List Int)++I.p2.p2),(([]:List Int)++I.p2.q3))) (aF ((-1),I.2.1,I.p2,I.p3,I.q4,0,(([]:List Int)++I.p2.2.1),(([]:List Int)++I.p2.p2),(([]:List Int)++I.p2.q3)))) λJ=>(obind (pl (J.2.1,J.p2.1,J.p3.1,J.p3.2.1,J.p3.p2,J.1)) λy21=>(jn (α:=gh×Int×pa×(List Int)×(List Int)×List Int) (be J.p3.2.1 4 (ck (fc J.p3.p2 (al J.p6)) (aF (J.p3,J.p4,y21.1,(cQ J.p6 J.p3.p2 J.p3.p3),J.q7))) (aF (J.p3,J.p4,y21.1,J.q6))) λM=>(jn (α:=gh×Int×pa×(List Int)×(List Int)×List Int) (be M.1.2.1 22 (ck (fc M.1.p2 (al M.p4)) (aF (M.1,M.2.1,M.p2,M.p3,(cQ M.p4 M.1.p2 M.1.p3),M.q5))) (aF M)) λY=>(kB aM Y.q5 Y.1.1 λz24=>(ck (fc Y.1.1 (al Y.q5)) (af ((Y.p2,Y.p3,Y.p4,(cQ Y.q5 Y.1.1 (cD z24))),ai)))))))))))))))))))))
def rx (x:(List gh)×Int×Int×List Int):Option (Bool):=
 (iter (σ:=Int) (λJ=>(bz J (aZ x.q3) (iter (σ:=Int×Bool×Int) (λI=>(bz I.2.2 x.2.1 (jn (α:=Int×Bool) (bB fH x.1 I.2.2 λz4=>(iV z4.1 x.p2 (aF (I.1,I.2.1)) (jn (α:=Bool) (bcase I.2.1 (aF ai) (bB aM x.q3 J λZ=>(be I.1 Z (bB fH x.1 I.2.2 λY=>(be Y.2.1 3 (aF ai) (bB fH x.1 I.2.2 λU=>(aF (decide ((U.2.1:Int)=23)))))) (aF aj)))) λx5=>(aF ((cD I.1),x5))))) λM=>(cK (M.1,M.2,(cD I.2.2)))) (obind (bcase (!I.2.1) (aF aj) (cK (cD J))) λr=>af (bP r)))) (0,aj,0)) (aF ai))) 0)
def uk (x:dz×List gh):Option (Int×Int):=
 (bz 400 (aZ x.2) (af (0,2)) (obind (h_ x.1) λy1=>(bcase (!y1) (af (0,1)) (obind (mP x.1) λy2=>(iter (σ:=Int×(dz×List gh)×pa×(List Int)×(List Int)×List Int) (λI=>(bz I.1 (aZ I.2.1.2) (bB fH I.2.1.2 I.1 λJ=>(obind (ry (I.2.1.1,I.2.2,J)) λM=>(jn (α:=Bool×(dz×List gh)×eH×pa×(List Int)×(List Int)×List Int) (bcase (!M.2) (aF (ai,I.2.1,I.2.2,M.1)) (obind (rx (I.2.1.2,I.1,J.1,J.p5)) λZ=>(bcase (!Z) (aF (ai,I.2.1,I.2.2,M.1)) (obind (rx (I.2.1.2,I.1,J.1,J.q6)) λY=>(aF ((!Y),I.2.1,I.2.2,M.1)))))) λU=>(bcase U.1 (aF (I.1,12)) (cK ((cD I.1),U.2.1,U.q3)))))) (aF (0,0)))) (0,x,y2))))))
def KG {Z W V:Type} (i:Int) (t1:Z->(List Int)->(List (List Int))->W) (t2:W->V) (t3:V->ua->List ua) (x6:Int) (I:Ab×pa×(Int×Int)×Int×vW×gh×(Int×Int)×(List Int)×(List Int)×Z×(List Int)×List (List Int)):Option Ec:=
 (jn (α:=pa×(Int×Int)×Int×vW×gh×ua×(List Int)×(List Int)×V) (jn (α:=Bool×Ab×pa×(Int×Int)×Int×vW×gh×ua×(List Int)×(List Int)×W) (iV I.p5.2.1 16 (aF ((!decide ((I.p5.2.1:Int)=2)),I.1,I.2.1,I.p2,I.p3,I.p4,I.p5,(x6,I.p10,I.q11,(cD I.p6.2)),I.p7,I.p8,(t1 I.p9 I.p10 I.q11))) (aF (aj,I.1,I.2.1,I.p2,I.p3,I.p4,I.p5,(x6,I.p10,I.q11,(cD I.p6.2)),I.p7,I.p8,(t1 I.p9 I.p10 I.q11)))) λJ=>(bcase J.1 (bB xi J.2.1.2 J.p3.1 λU=>(obind (m8 (U,J.p7)) λY=>(aF (J.p2,J.p3,J.p4,J.p5,J.p6,Y.1,J.p8,J.p9,(t2 J.q10))))) (aF (J.p2,J.p3,J.p4,J.p5,J.p6,J.p7,J.p8,J.p9,(t2 J.q10))))) λM=>(be M.2.1.1 i (af ((M.1,M.p6,M.p7,(t3 M.q8 M.p5)),M.p4,ai)) ah))
def SG {Z:Type} (i:Int) (cp:(pa×(List Int)×(List Int)×List ua)->Option (Int×gI×(List Bool)×(List dy)×(List Int)×(List Int)×Z×(List Int)×List (List Int))) (Y ev:Z->Int) (k:Int->(Ab×pa×(Int×Int)×Int×vW×gh×(Int×Int)×(List Int)×(List Int)×Z×(List Int)×List (List Int))->Option Ec) (x:Ab×xg×Int×Int):Option Ec:=
 (obind (nK (x.1,x.2.1,x.p2)) λM=>(bcase (!M.2) (af (((([]:List (Int×List Int)),0,([]:List Bool),([]:List dy)),([]:List Int),([]:List Int),([]:List ua)),(0,0,0,0,0,([]:List Int),([]:List Int)),aj)) (obind (pl (x.1.1,x.2.1.1,x.p2,M.1.2.1,M.1.p2,x.q3)) λy2=>(bcase (!y2.2.2) (af (((([]:List (Int×List Int)),0,([]:List Bool),([]:List dy)),([]:List Int),([]:List Int),([]:List ua)),(0,0,0,0,0,([]:List Int),([]:List Int)),aj)) (obind (cp x.2.1) λU=>(be x.p2 i (bB xi x.1.2 i λz4=>(bB qY z4.2 (Y U.p6) λz5=>(jn (α:=Int×Ab×pa×(Int×Int)×Int×vW×gh×(Int×Int)×jR×(List Int)×(List Int)×Z×(List Int)×List (List Int)) (jn (α:=Bool×Ab×pa×(Int×Int)×Int×vW×gh×(Int×Int)×jR×(List Int)×(List Int)×Z×(List Int)×List (List Int)) (be M.1.2.1 1 (aF ((decide ((M.1.2.1:Int)=1)),x.1,y2.1,(i,x.q3),0,(0,0,0,0,0),(M.1.1,M.1.2.1,M.1.p2,y2.2.1,M.1.q4),((Y U.p6),(ev U.p6)),z5,U.q4)) (be M.1.2.1 16 (aF ((decide ((M.1.2.1:Int)=16)),x.1,y2.1,(i,x.q3),0,(0,0,0,0,0),(M.1.1,M.1.2.1,M.1.p2,y2.2.1,M.1.q4),((Y U.p6),(ev U.p6)),z5,U.q4)) (aF ((decide ((M.1.2.1:Int)=2)),x.1,y2.1,(i,x.q3),0,(0,0,0,0,0),(M.1.1,M.1.2.1,M.1.p2,y2.2.1,M.1.q4),((Y U.p6),(ev U.p6)),z5,U.q4)))) λI=>(bcase I.1 (aF (I.p7.1,I.2)) (be M.1.2.1 3 (kB aM I.p9 I.p6.p2 λz8=>(aF ((bk .i64 ((Y U.p6)+1)),I.2.1,I.p2,I.p3,I.p4,I.p5,(I.p6.1,I.p6.2.1,I.p6.p2,z8,I.p6.q4),I.q7))) (be M.1.2.1 23 (kB aM I.p10 I.p6.p2 λz9=>(aF ((bk .i64 ((Y U.p6)+1)),I.2.1,I.p2,I.p3,I.p4,I.p5,(I.p6.1,I.p6.2.1,I.p6.p2,z9,I.p6.q4),I.q7))) (be M.1.2.1 4 (kB aM I.p12 I.p8.p2 λz10=>(ck (fc I.p6.p2 (al I.p9)) (aF ((bk .i64 ((Y U.p6)+1)),I.2.1,I.p2,I.p3,I.p4,I.p5,(I.p6.1,I.p6.2.1,I.p6.p2,z10,I.p6.q4),I.p7,I.p8,(cQ I.p9 I.p6.p2 z10),I.q10)))) (be M.1.2.1 22 (kB aM I.p12 I.p8.p2 λz11=>(ck (fc I.p6.p2 (al I.p10)) (aF ((bk .i64 ((Y U.p6)+1)),I.2.1,I.p2,I.p3,I.p4,I.p5,(I.p6.1,I.p6.2.1,I.p6.p2,z11,I.p6.q4),I.p7,I.p8,I.p9,(cQ I.p10 I.p6.p2 z11),I.q11)))) (be M.1.2.1 5 (kB aM I.p12 I.p8.2.1 λz12=>(be z12 0 (aF (I.p8.p2,I.2.1,I.p2,I.p3,I.p4,I.p5,(I.p6.1,I.p6.2.1,I.p6.p2,0,I.p6.q4),I.q7)) (aF ((bk .i64 ((Y U.p6)+1)),I.2.1,I.p2,I.p3,I.p4,I.p5,(I.p6.1,I.p6.2.1,I.p6.p2,1,I.p6.q4),I.q7)))) (aF ((bk .i64 ((Y U.p6)+1)),I.2))))))))) λx6=>(jn (α:=Ab×pa×(Int×Int)×Int×vW×gh×(Int×Int)×(List Int)×(List Int)×Z×(List Int)×List (List Int)) (jn (α:=Bool×Ab×pa×(Int×Int)×Int×vW×gh×(Int×Int)×jR×(List Int)×(List Int)×Z×(List Int)×List (List Int)) (be x6.p6.2.1 3 (aF (ai,x6.2)) (aF ((decide ((x6.p6.2.1:Int)=23)),x6.2))) λJ=>(bcase J.1 (ck (fc J.p8.2.1 (al J.p12)) (ck (fc J.p8.2.1 (al J.q13)) (aF (J.2.1,J.p2,J.p3,J.p4,J.p5,J.p6,J.p7,J.p9,J.p10,J.p11,(cQ J.p12 J.p8.2.1 J.p6.p3),(cQ J.q13 J.p8.2.1 ([J.p7.2])))))) (aF (J.2.1,J.p2,J.p3,J.p4,J.p5,J.p6,J.p7,J.q9)))) λx13=>(k x6.1 x13))))) ah))))))
def m7 (x:pa×(List Int)×(List Int)×List ua):Option (Int×gI×(List Bool)×(List dy)×(List Int)×(List Int)×(Int×Int)×(List Int)×List (List Int)):=
 (obind (io x.1) λI=>(bC (a_ (al ([]:List Int)+al x.2.1) 8) (bC (a_ (al ([]:List Int)+al x.p2) 8) (bz 0 (aZ x.q3) (bB eU x.q3 0 λM=>(obind (co M) λU=>(bz 1 (aZ x.q3) (bB eU x.q3 1 λJ=>(obind (co J) λY=>ah)) (af (I.1,I.2.1,I.p2,I.q3,(([]:List Int)++x.2.1),(([]:List Int)++x.p2),U))))) ah))))
def gf (x:Ab×xg×Int×Int):Option Ec:=
 SG 0 m7 (λz=>z.1) (λz=>z.2) (KG 0 (λz R T=>(z.1,R,T,z.2)) (λw=>((w.1,w.2.1,w.2.2.1,w.2.2.2))) (λv t=>[t])) x
def m6 (x:pa×(List Int)×(List Int)×List ua):Option (Int×gI×(List Bool)×(List dy)×(List Int)×(List Int)×Ya29×(List Int)×List (List Int)):=
 (obind (io x.1) λJ=>(bC (a_ (al ([]:List Int)+al x.2.1) 8) (bC (a_ (al ([]:List Int)+al x.p2) 8) (bz 0 (aZ x.q3) (bB eU x.q3 0 λZ=>(obind (co Z) λM=>(bz 1 (aZ x.q3) (bB eU x.q3 1 λY=>(obind (co Y) λI=>(bz 2 (aZ x.q3) (bB eU x.q3 2 λU=>(obind (co U) λy7=>ah)) (af (J.1,J.2.1,J.p2,J.q3,(([]:List Int)++x.2.1),(([]:List Int)++x.p2),(M.1.1,M.1.2,I.1.1,I.2.1,I.2.2,I.1.2),M.2))))) ah))) ah))))
def gF (x:Ab×xg×Int×Int):Option Ec:=
 SG 0 m6 (λz=>z.1) (λz=>z.2.1) (KG 0 (λz R T=>(z.1,R,T,z.2.1,z.2.2)) (λw=>((w.1,w.2.1,w.2.2.1,w.2.2.2.1),w.2.2.2.2)) (λv t=>[t,v.2])) x
def mZ (x:pa×(List Int)×(List Int)×List ua):Option (Int×gI×(List Bool)×(List dy)×(List Int)×(List Int)×(ua×Int×Int)×(List Int)×List (List Int)):=
 (obind (io x.1) λJ=>(bC (a_ (al ([]:List Int)+al x.2.1) 8) (bC (a_ (al ([]:List Int)+al x.p2) 8) (bz 0 (aZ x.q3) (bB eU x.q3 0 λZ=>(obind (co Z) λI=>(bz 1 (aZ x.q3) (bB eU x.q3 1 λY=>(obind (co Y) λM=>(bz 2 (aZ x.q3) (bB eU x.q3 2 λU=>(obind (co U) λy7=>ah)) (af (J.1,J.2.1,J.p2,J.q3,(([]:List Int)++x.2.1),(([]:List Int)++x.p2),((I.1.1,I.2.1,I.2.2,I.1.2),M.1),M.2))))) ah))) ah))))
def gd (x:Ab×xg×Int×Int):Option Ec:=
 SG 1 mZ (λz=>z.2.1) (λz=>z.2.2) (KG 1 (λz R T=>(z.1,z.2.1,R,T,z.2.2)) (λw=>(w.1,(w.2.1,w.2.2.1,w.2.2.2.1,w.2.2.2.2))) (λv t=>[v.1,t])) x
def mY (x:pa×(List Int)×(List Int)×List ua):Option (Int×gI×(List Bool)×(List dy)×(List Int)×(List Int)×Ya27×(List Int)×List (List Int)):=
 (obind (io x.1) λM=>(bC (a_ (al ([]:List Int)+al x.2.1) 8) (bC (a_ (al ([]:List Int)+al x.p2) 8) (bz 0 (aZ x.q3) (bB eU x.q3 0 λz2=>(obind (co z2) λU=>(bz 1 (aZ x.q3) (bB eU x.q3 1 λz4=>(obind (co z4) λJ=>(bz 2 (aZ x.q3) (bB eU x.q3 2 λZ=>(obind (co Z) λI=>(bz 3 (aZ x.q3) (bB eU x.q3 3 λY=>(obind (co Y) λy9=>ah)) (af (M.1,M.2.1,M.p2,M.q3,(([]:List Int)++x.2.1),(([]:List Int)++x.p2),(U.1.1,U.1.2,(J.1.1,J.2.1,J.2.2,J.1.2),I.1.1,I.2.1,I.2.2,I.1.2),U.2))))) ah))) ah))) ah))))
def js (x:Ab×xg×Int×Int):Option Ec:=
 SG 0 mY (λz=>z.1) (λz=>z.2.1) (KG 0 (λz R T=>(z.1,R,T,z.2.1,z.p2,z.q3)) (λw=>((w.1,w.2.1,w.2.2.1,w.2.2.2.1),w.2.2.2.2.1,w.2.2.2.2.2)) (λv t=>[t,v.2.1,v.2.2])) x
def mX (x:pa×(List Int)×(List Int)×List ua):Option (Int×gI×(List Bool)×(List dy)×(List Int)×(List Int)×Ya28×(List Int)×List (List Int)):=
 (obind (io x.1) λM=>(bC (a_ (al ([]:List Int)+al x.2.1) 8) (bC (a_ (al ([]:List Int)+al x.p2) 8) (bz 0 (aZ x.q3) (bB eU x.q3 0 λz2=>(obind (co z2) λJ=>(bz 1 (aZ x.q3) (bB eU x.q3 1 λz4=>(obind (co z4) λU=>(bz 2 (aZ x.q3) (bB eU x.q3 2 λZ=>(obind (co Z) λI=>(bz 3 (aZ x.q3) (bB eU x.q3 3 λY=>(obind (co Y) λy9=>ah)) (af (M.1,M.2.1,M.p2,M.q3,(([]:List Int)++x.2.1),(([]:List Int)++x.p2),((J.1.1,J.2.1,J.2.2,J.1.2),U.1.1,U.1.2,I.1.1,I.2.1,I.2.2,I.1.2),U.2))))) ah))) ah))) ah))))
def iI (x:Ab×xg×Int×Int):Option Ec:=
 SG 1 mX (λz=>z.2.1) (λz=>z.p2) (KG 1 (λz R T=>(z.1,z.2.1,R,T,z.p2,z.q3)) (λw=>(w.1,(w.2.1,w.2.2.1,w.2.2.2.1,w.2.2.2.2.1),w.2.2.2.2.2)) (λv t=>[v.1,t,v.2.2])) x
def mW (x:pa×(List Int)×(List Int)×List ua):Option (Int×gI×(List Bool)×(List dy)×(List Int)×(List Int)×(ua×ua×Int×Int)×(List Int)×List (List Int)):=
 (obind (io x.1) λM=>(bC (a_ (al ([]:List Int)+al x.2.1) 8) (bC (a_ (al ([]:List Int)+al x.p2) 8) (bz 0 (aZ x.q3) (bB eU x.q3 0 λz2=>(obind (co z2) λJ=>(bz 1 (aZ x.q3) (bB eU x.q3 1 λz4=>(obind (co z4) λI=>(bz 2 (aZ x.q3) (bB eU x.q3 2 λZ=>(obind (co Z) λU=>(bz 3 (aZ x.q3) (bB eU x.q3 3 λY=>(obind (co Y) λy9=>ah)) (af (M.1,M.2.1,M.p2,M.q3,(([]:List Int)++x.2.1),(([]:List Int)++x.p2),((J.1.1,J.2.1,J.2.2,J.1.2),(I.1.1,I.2.1,I.2.2,I.1.2),U.1),U.2))))) ah))) ah))) ah))))
def hZ (x:Ab×xg×Int×Int):Option Ec:=
 SG 2 mW (λz=>z.p2) (λz=>z.q3) (KG 2 (λz R T=>(z.1,z.2.1,z.p2,R,T,z.q3)) (λw=>(w.1,w.2.1,(w.2.2.1,w.2.2.2.1,w.2.2.2.2.1,w.2.2.2.2.2))) (λv t=>[v.1,v.2.1,t])) x
def mV (x:pa×(List Int)×(List Int)×List ua):Option (Int×gI×(List Bool)×(List dy)×(List Int)×(List Int)×Ya23×(List Int)×List (List Int)):=
 (obind (io x.1) λU=>(bC (a_ (al ([]:List Int)+al x.2.1) 8) (bC (a_ (al ([]:List Int)+al x.p2) 8) (bz 0 (aZ x.q3) (bB eU x.q3 0 λz2=>(obind (co z2) λZ=>(bz 1 (aZ x.q3) (bB eU x.q3 1 λz4=>(obind (co z4) λM=>(bz 2 (aZ x.q3) (bB eU x.q3 2 λz6=>(obind (co z6) λJ=>(bz 3 (aZ x.q3) (bB eU x.q3 3 λz8=>(obind (co z8) λI=>(bz 4 (aZ x.q3) (bB eU x.q3 4 λY=>(obind (co Y) λy11=>ah)) (af (U.1,U.2.1,U.p2,U.q3,(([]:List Int)++x.2.1),(([]:List Int)++x.p2),(Z.1.1,Z.1.2,(M.1.1,M.2.1,M.2.2,M.1.2),(J.1.1,J.2.1,J.2.2,J.1.2),I.1.1,I.2.1,I.2.2,I.1.2),Z.2))))) ah))) ah))) ah))) ah))))
def mR (x:Ab×xg×Int×Int):Option Ec:=
 SG 0 mV (λz=>z.1) (λz=>z.2.1) (KG 0 (λz R T=>(z.1,R,T,z.2.1,z.p2,z.p3,z.q4)) (λw=>((w.1,w.2.1,w.2.2.1,w.2.2.2.1),w.2.2.2.2.1,w.2.2.2.2.2.1,w.2.2.2.2.2.2)) (λv t=>[t,v.2.1,v.2.2.1,v.2.2.2])) x
def mU (x:pa×(List Int)×(List Int)×List ua):Option (Int×gI×(List Bool)×(List dy)×(List Int)×(List Int)×Ya24×(List Int)×List (List Int)):=
 (obind (io x.1) λU=>(bC (a_ (al ([]:List Int)+al x.2.1) 8) (bC (a_ (al ([]:List Int)+al x.p2) 8) (bz 0 (aZ x.q3) (bB eU x.q3 0 λz2=>(obind (co z2) λM=>(bz 1 (aZ x.q3) (bB eU x.q3 1 λz4=>(obind (co z4) λZ=>(bz 2 (aZ x.q3) (bB eU x.q3 2 λz6=>(obind (co z6) λJ=>(bz 3 (aZ x.q3) (bB eU x.q3 3 λz8=>(obind (co z8) λI=>(bz 4 (aZ x.q3) (bB eU x.q3 4 λY=>(obind (co Y) λy11=>ah)) (af (U.1,U.2.1,U.p2,U.q3,(([]:List Int)++x.2.1),(([]:List Int)++x.p2),((M.1.1,M.2.1,M.2.2,M.1.2),Z.1.1,Z.1.2,(J.1.1,J.2.1,J.2.2,J.1.2),I.1.1,I.2.1,I.2.2,I.1.2),Z.2))))) ah))) ah))) ah))) ah))))
def mQ (x:Ab×xg×Int×Int):Option Ec:=
 SG 1 mU (λz=>z.2.1) (λz=>z.p2) (KG 1 (λz R T=>(z.1,z.2.1,R,T,z.p2,z.p3,z.q4)) (λw=>(w.1,(w.2.1,w.2.2.1,w.2.2.2.1,w.2.2.2.2.1),w.2.2.2.2.2.1,w.2.2.2.2.2.2)) (λv t=>[v.1,t,v.2.2.1,v.2.2.2])) x
def mT (x:pa×(List Int)×(List Int)×List ua):Option (Int×gI×(List Bool)×(List dy)×(List Int)×(List Int)×Ya25×(List Int)×List (List Int)):=
 (obind (io x.1) λU=>(bC (a_ (al ([]:List Int)+al x.2.1) 8) (bC (a_ (al ([]:List Int)+al x.p2) 8) (bz 0 (aZ x.q3) (bB eU x.q3 0 λz2=>(obind (co z2) λM=>(bz 1 (aZ x.q3) (bB eU x.q3 1 λz4=>(obind (co z4) λJ=>(bz 2 (aZ x.q3) (bB eU x.q3 2 λz6=>(obind (co z6) λZ=>(bz 3 (aZ x.q3) (bB eU x.q3 3 λz8=>(obind (co z8) λI=>(bz 4 (aZ x.q3) (bB eU x.q3 4 λY=>(obind (co Y) λy11=>ah)) (af (U.1,U.2.1,U.p2,U.q3,(([]:List Int)++x.2.1),(([]:List Int)++x.p2),((M.1.1,M.2.1,M.2.2,M.1.2),(J.1.1,J.2.1,J.2.2,J.1.2),Z.1.1,Z.1.2,I.1.1,I.2.1,I.2.2,I.1.2),Z.2))))) ah))) ah))) ah))) ah))))
def lq (x:Ab×xg×Int×Int):Option Ec:=
 SG 2 mT (λz=>z.p2) (λz=>z.p3) (KG 2 (λz R T=>(z.1,z.2.1,z.p2,R,T,z.p3,z.q4)) (λw=>(w.1,w.2.1,(w.2.2.1,w.2.2.2.1,w.2.2.2.2.1,w.2.2.2.2.2.1),w.2.2.2.2.2.2)) (λv t=>[v.1,v.2.1,t,v.2.2.2])) x
def mS (x:pa×(List Int)×(List Int)×List ua):Option (Int×gI×(List Bool)×(List dy)×(List Int)×(List Int)×Ya42×(List Int)×List (List Int)):=
 (obind (io x.1) λU=>(bC (a_ (al ([]:List Int)+al x.2.1) 8) (bC (a_ (al ([]:List Int)+al x.p2) 8) (bz 0 (aZ x.q3) (bB eU x.q3 0 λz2=>(obind (co z2) λM=>(bz 1 (aZ x.q3) (bB eU x.q3 1 λz4=>(obind (co z4) λJ=>(bz 2 (aZ x.q3) (bB eU x.q3 2 λz6=>(obind (co z6) λI=>(bz 3 (aZ x.q3) (bB eU x.q3 3 λz8=>(obind (co z8) λZ=>(bz 4 (aZ x.q3) (bB eU x.q3 4 λY=>(obind (co Y) λy11=>ah)) (af (U.1,U.2.1,U.p2,U.q3,(([]:List Int)++x.2.1),(([]:List Int)++x.p2),((M.1.1,M.2.1,M.2.2,M.1.2),(J.1.1,J.2.1,J.2.2,J.1.2),(I.1.1,I.2.1,I.2.2,I.1.2),Z.1),Z.2))))) ah))) ah))) ah))) ah))))
def j_ (x:Ab×xg×Int×Int):Option Ec:=
 SG 3 mS (λz=>z.p3) (λz=>z.q4) (KG 3 (λz R T=>(z.1,z.2.1,z.p2,z.p3,R,T,z.q4)) (λw=>(w.1,w.2.1,w.2.2.1,(w.2.2.2.1,w.2.2.2.2.1,w.2.2.2.2.2.1,w.2.2.2.2.2.2))) (λv t=>[v.1,v.2.1,v.2.2.1,t])) x
def Ap (x:Ab×xg×Int×Int):Option Ec:=orE (mR x) (orE (mQ x) (orE (lq x) (orE (j_ x) (orE (js x) (orE (iI x) (orE (hZ x) (orE (gF x) (orE (gd x) (gf x)))))))))
def wA (x:Ab×xg×List (Int×Int)):Option ((List gh)×pa×(List Int)×(List Int)×List ua):=
 (iter (σ:=Int×(List gh)×Ab×xg×Int) (λJ=>(jn (α:=Bool×(List gh)×Ab×xg×Int) (bz J.1 (aZ x.2.2) (aF ((fR (aZ J.2.1) 400),J.2)) (aF (aj,J.2))) λI=>(bcase I.1 (jn (α:=(List gh)×Ab×xg×Int) (bB gR x.2.2 J.1 λU=>(obind (Ap (I.p2,I.p3,U)) λM=>(bcase M.2.2 (bC (a_ (al I.2.1+al ([M.2.1])) 88) (aF ((I.2.1++([M.2.1])),I.p2,M.1,I.q4))) (aF I.2)))) λY=>(cK ((cD J.1),Y))) (aF (I.2.1,I.p3))))) (0,([]:List gh),x.1,x.2.1,0))
def ze (x:Ab×List (Int×Int)):Option ((dz×List gh)×pa×(List Int)×(List Int)×List ua):=
 (obind (jD x.1) λM=>(bcase (!M) (af (((([]:List Tn),([]:List ((List UInt8)×Bool)),([]:List fm),([]:List (List UInt8)),([]:List (List UInt8)),([]:List (Int×Int×Int))),([]:List gh)),(([]:List (Int×List Int)),0,([]:List Bool),([]:List dy)),([]:List Int),([]:List Int),([]:List ua))) (obind (ul x.1) λJ=>(obind (wA (x.1,J,x.2)) λI=>(af ((x.1.1,I.1),I.2))))))
def bA (x:Int×(List Int)×Int):Option (Int×(List Int)×Int):=
 (jn (α:=Bool×(List Int)×Int) (iW (aZ x.2.1) x.2.2 (aF (ai,x.2)) (aF ((fR x.1 1),x.2))) λI=>(bcase I.1 (af (0,I.2)) (lt (cD I.2.2) λM=>(bB (.int .u8) I.2.1 (bk .i64 (M-1)) λJ=>(bC (!decide ((x.1:Int)=0)) (af ((Ak (bk .i64 J) x.1),I.2.1,(cD I.2.2))))))))
def rG (x:Int):Option (Xp):=
 (af (ec (1,x,[],([]:List Xp))))
def pt (x:List UInt8):Option (Xp):=
 (af (ec (2,0,x,([]:List Xp))))
def nO (x:Int×Xp×Xp):Option (Xp):=
 (af (ec (x.1,0,[],[ec ((Xp.op x.2.1),(Xp.n x.2.1),(Xp.name x.2.1),(Xp.l x.2.1)),ec ((Xp.op x.2.2),(Xp.n x.2.2),(Xp.name x.2.2),(Xp.l x.2.2))])))
def jq (x:(List UInt8)×Xp):Option (Sx):=
 (af (nP (1,0,x.1,[],([]:List Xp),ec ((Xp.op x.2),(Xp.n x.2),(Xp.name x.2),(Xp.l x.2)),([]:List Sx),([]:List Sx))))
def sC (x:Unit):Option sq:=
 (af ([(1,0,[120],0,0,[]),(1,0,[121],0,1,[]),(2,0,[118],0,0,[]),(1,0,[113],2,0,[]),(3,0,[109],0,0,[]),(3,0,[110],0,0,[]),(4,0,[114],0,0,[]),(5,0,[99],0,0,[109]),(6,0,[102],0,0,[])]))
def oP (x:List Int):Option (List (Int×Int)):=
 (iter (σ:=Int×List (Int×Int)) (λI=>(bz I.1 (aZ x) (bB (.int .u8) x I.1 λM=>(bB (.int .u8) x I.1 λJ=>(bC (a_ (al I.2+al ([((Ak (bk .i64 M) 4),(bk .i64 ((Ak (bk .i64 (Int.tdiv (bk .i64 J) 4)) 5)-1)))])) 16) (cK ((cD I.1),(I.2++([((Ak (bk .i64 M) 4),(bk .i64 ((Ak (bk .i64 (Int.tdiv (bk .i64 J) 4)) 5)-1)))]))))))) (aF I.2))) (0,([]:List (Int×Int))))
def nX (rmade_maker_expr:Zu->Option agn) (x:Int×yS×fE×Bool×List (List UInt8)):Option agn:=
 (obind (bA (10,x.p2)) λZ=>(jn (α:=Bool×yS×fE×To×(Int×Int×List UInt8)×List (List UInt8)) (bz Z.1 2 (aF (ai,x.2.1,Z.2,x.q3,(0,0,[]),[[97],[98],[120],[121],[118],[120],[121]])) (be x.1 0 (aF ((c8 7 Z.1),x.2.1,Z.2,x.q3,(0,0,[]),[[97],[98],[120],[121],[118],[120],[121]])) (aF (aj,x.2.1,Z.2,x.q3,(0,0,[]),[[97],[98],[120],[121],[118],[120],[121]])))) λI=>(bcase I.1 (obind (bA (4,I.p2)) λy3=>(obind (rG y3.1) λy4=>(af (ec ((Xp.op y4),(Xp.n y4),(Xp.name y4),(Xp.l y4)),I.2.1,y3.2,I.p3)))) (bz Z.1 7 (obind (bA ((aZ I.q5),I.p2)) λy5=>(kB (.str) I.q5 y5.1 λz6=>(obind (pt z6) λy7=>(af (ec ((Xp.op y7),(Xp.n y7),(Xp.name y7),(Xp.l y7)),I.2.1,y5.2,I.p3))))) (be Z.1 7 (obind (rmade_maker_expr (0,I.2.1,I.p2,I.p3)) λY=>(bC (((I.p3.1==Y.p3)&&ai)&&aC (al I.p3.2) (al Y.q4)&&ai) (af (ec (3,0,[113],[ec ((Xp.op Y.1),(Xp.n Y.1),(Xp.name Y.1),(Xp.l Y.1))]),Y.2)))) (obind (bA ((aP (al ([6,7,8,11,13,17]))),I.p2)) λy9=>(kB aM ([6,7,8,11,13,17]) y9.1 λz10=>(obind (rmade_maker_expr ((bk .i64 (x.1-1)),I.2.1,y9.2,I.p3)) λJ=>(bC (((I.p3.1==J.p3)&&ai)&&aC (al I.p3.2) (al J.q4)&&ai) (obind (rmade_maker_expr ((bk .i64 (x.1-1)),J.2)) λU=>(bC (((J.p3==U.p3)&&ai)&&aC (al J.q4) (al U.q4)&&ai) (obind (nO (z10,J.1,U.1)) λM=>(af (ec ((Xp.op M),(Xp.n M),(Xp.name M),(Xp.l M)),U.2))))))))))))))
def iu:Nat->Zu->Option agn
 |0,_=>ah
 |n+1,x=>nX (iu n) x
theorem yO (n:Nat) (x:Int×yS×fE×Bool×List (List UInt8)):iu (n+1) x=nX (iu n) x:=rfl
def fd (x:Int×yS×fE×Bool×List (List UInt8)):Option agn:=iu fuel x
def eO (x:(List UInt8)×yS×fE×Bool×List (List UInt8)):Option (Bool×yS×fE×Bool×List (List UInt8)):=
 (obind (iZ (x.q4,x.1)) λI=>(af ((c8 0 I),x.2)))
def mC (rmade_maker_stmts:agp->Option Zt) (rmade_maker_stmt:Zu->Option ada) (rmade_maker_block:ago->Option adb) (x:(Int×Int)×yS×fE×Bool×List (List UInt8)):Option Zt:=
 (iter (σ:=Int×yS×fE×(List Sx)×Bool×List (List UInt8)) (λJ=>(jn (α:=Bool×yS×fE×(List Sx)×Bool×List (List UInt8)) (bz J.1 x.1.2 (be J.1 0 (aF (ai,J.2)) (aF ((fR 0 J.2.1.2.1),J.2))) (aF (aj,J.2))) λI=>(bcase I.1 (obind (rmade_maker_stmt (x.1.1,I.2.1,I.p2,I.q4)) λM=>(bC (((I.p4==I.p4)&&ai)&&aC (al I.q5) (al I.q5)&&ai) (bC (a_ (al I.p3+al ([em M.1])) 176) (cK ((cD J.1),M.2.1,M.p2,(I.p3++([em M.1])),M.q3))))) (aF (I.2.1,I.p2,I.q4,I.p3))))) (0,x.2.1,x.p2,([]:List Sx),x.q3))
def nW (rmade_maker_stmts:agp->Option Zt) (rmade_maker_stmt:Zu->Option ada) (rmade_maker_block:ago->Option adb) (x:Int×yS×fE×Bool×List (List UInt8)):Option ada:=
 (obind (bA (18,x.p2)) λy1=>(jn (α:=Bool×yS×fE×HC×Bool×List (List UInt8)) (bz 0 x.1 (lt (bk .i64 (x.2.1.2.1-1)) λz3=>(bz 0 z3 (aF ((!x.2.1.p3),(x.2.1.1,(bk .i64 (x.2.1.2.1-1)),x.2.1.2.2),y1.2,(0,0,[],[],0,0,[]),x.q3)) (aF (aj,(x.2.1.1,(bk .i64 (x.2.1.2.1-1)),x.2.1.2.2),y1.2,(0,0,[],[],0,0,[]),x.q3)))) (aF (aj,(x.2.1.1,(bk .i64 (x.2.1.2.1-1)),x.2.1.2.2),y1.2,(0,0,[],[],0,0,[]),x.q3))) λx2=>(bz y1.1 4 (kB (.str) ([[120],[121],[120],[118]]) y1.1 λz4=>(obind (fd (1,x2.2.1,x2.p2,x2.q4)) λy5=>(bC (((x2.p4==y5.p3)&&ai)&&aC (al x2.q5) (al y5.q4)&&ai) (obind (jq (z4,y5.1)) λy6=>(af (em y6,y5.2)))))) (be y1.1 4 (obind (bA (2,x2.p2)) λy7=>(kB (.str) ([[97],[98]]) y7.1 λz8=>(obind (fd (1,x2.2.1,y7.2,x2.q4)) λy9=>(bC (((x2.p4==y9.p3)&&ai)&&aC (al x2.q5) (al y9.q4)&&ai) (obind (jq (z8,y9.1)) λy10=>(af (em y10,y9.2))))))) (be y1.1 5 (obind (fd (0,x2.2.1,x2.p2,x2.q4)) λy11=>(bC (((x2.p4==y11.p3)&&ai)&&aC (al x2.q5) (al y11.q4)&&ai) (obind (fd (1,y11.2)) λy12=>(bC (((y11.p3==y12.p3)&&ai)&&aC (al y11.q4) (al y12.q4)&&ai) (af (nP (1,0,[113],[],[ec ((Xp.op y11.1),(Xp.n y11.1),(Xp.name y11.1),(Xp.l y11.1))],ec ((Xp.op y12.1),(Xp.n y12.1),(Xp.name y12.1),(Xp.l y12.1)),([]:List Sx),([]:List Sx)),y12.2)))))) (jn (α:=Bool×yS×fE×HC×Bool×List (List UInt8)) (be y1.1 6 (aF ((fR 0 x.1),x2.2)) (aF (aj,x2.2))) λx13=>(bcase x13.1 (obind (fd (1,x13.2.1,x13.p2,x13.q4)) λU=>(bC (((x13.p4==U.p3)&&ai)&&aC (al x13.q5) (al U.q4)&&ai) (obind (rmade_maker_stmts (((bk .i64 (x.1-1)),1),U.2)) λy15=>(bC (((U.p3==U.p3)&&ai)&&aC (al U.q4) (al U.q4)&&ai) (jn (α:=yS×fE×HC×(Int×Int×(List UInt8)×(List UInt8)×Int×Int×(List UInt8)×List Xp)×To×(List Sx)×List Sx) (obind (bA (2,y15.2.1)) λy17=>(be y17.1 1 (obind (rmade_maker_stmts (((bk .i64 (x.1-1)),1),y15.1,y17.2,y15.p2)) λy18=>(bC (((y15.p2.1==y15.p2.1)&&ai)&&aC (al y15.p2.2) (al y15.p2.2)&&ai) (aF (y18.1,y18.2.1,x13.p3,(2,0,[],[],(Xp.op U.1),(Xp.n U.1),(Xp.name U.1),(Xp.l U.1)),y18.p2,y15.q3,y18.q3)))) (aF (y15.1,y17.2,x13.p3,(2,0,[],[],(Xp.op U.1),(Xp.n U.1),(Xp.name U.1),(Xp.l U.1)),y15.p2,y15.q3,([]:List Sx))))) λx16=>(af (nP (x16.p3.1,x16.p3.2.1,x16.p3.p2,x16.p3.p3,([]:List Xp),ec x16.p3.q4,x16.q5),x16.1,x16.2.1,x16.p4))))))) (jn (α:=Bool×yS×fE×HC×Bool×List (List UInt8)) (be y1.1 7 (aF ((fR 0 x.1),x13.2)) (aF (aj,x13.2))) λI=>(bcase I.1 (obind (pt ([98])) λy20=>(obind (rG 2) λy21=>(obind (nO (13,y20,y21)) λy22=>(obind (rmade_maker_stmts (((bk .i64 (x.1-1)),1),(I.2.1.1,I.2.1.2.1,I.2.1.p2,I.2.1.p3,I.2.1.p4,ai),I.p2,I.q4)) λy23=>(bC (((I.p4==I.p4)&&ai)&&aC (al I.q5) (al I.q5)&&ai) (obind (pt ([98])) λy24=>(obind (rG 1) λy25=>(obind (nO (6,y24,y25)) λy26=>(obind (jq ([98],y26)) λy27=>(bC (a_ (al y23.q3+al ([em y27])) 176) (af (nP (3,0,[],[],([]:List Xp),ec ((Xp.op y22),(Xp.n y22),(Xp.name y22),(Xp.l y22)),(y23.q3++([em y27])),([]:List Sx)),(y23.1.1,y23.1.2.1,y23.1.p2,y23.1.p3,y23.1.p4,I.2.1.q5),y23.2.1,y23.p2)))))))))))) (jn (α:=Bool×yS×fE×HC×Bool×List (List UInt8)) (be y1.1 8 (bcase x2.1 (kB (.str) ([[109],[110]]) (bk .i64 (y1.1-8)) λz29=>(obind (eO (z29,I.2.1,I.p2,I.q4)) λy30=>(bC (((I.p4==y30.p3)&&ai)&&aC (al I.q5) (al y30.q4)&&ai) (aF ((!y30.1),y30.2.1,y30.p2,I.p3,y30.q3))))) (aF (aj,I.2))) (be y1.1 9 (bcase x2.1 (kB (.str) ([[109],[110]]) (bk .i64 (y1.1-8)) λz31=>(obind (eO (z31,I.2.1,I.p2,I.q4)) λy32=>(bC (((I.p4==y32.p3)&&ai)&&aC (al I.q5) (al y32.q4)&&ai) (aF ((!y32.1),y32.2.1,y32.p2,I.p3,y32.q3))))) (aF (aj,I.2))) (aF (aj,I.2)))) λJ=>(bcase J.1 (kB (.str) ([[109],[110]]) (bk .i64 (y1.1-8)) λz33=>(obind (rmade_maker_block ((z33,(bk .i64 (x.1-1))),J.2.1,J.p2,J.q4)) λy34=>(bC (((J.p4==J.p4)&&ai)&&aC (al J.q5) (al J.q5)&&ai) (af (nP (4,0,z33,[],([]:List Xp),ec (0,0,[],([]:List Xp)),y34.1,([]:List Sx)),y34.2))))) (jn (α:=Bool×yS×fE×HC×Bool×List (List UInt8)) (be y1.1 10 (bcase x2.1 (obind (eO ([114],J.2.1,J.p2,J.q4)) λy36=>(bC (((J.p4==y36.p3)&&ai)&&aC (al J.q5) (al y36.q4)&&ai) (aF ((!y36.1),y36.2.1,y36.p2,J.p3,y36.q3)))) (aF (aj,J.2))) (be y1.1 11 (bcase x2.1 (obind (eO ([114],J.2.1,J.p2,J.q4)) λy37=>(bC (((J.p4==y37.p3)&&ai)&&aC (al J.q5) (al y37.q4)&&ai) (aF ((!y37.1),y37.2.1,y37.p2,J.p3,y37.q3)))) (aF (aj,J.2))) (aF (aj,J.2)))) λx35=>(bcase x35.1 (obind (rmade_maker_block (([114],(bk .i64 (x.1-1))),x35.2.1,x35.p2,x35.q4)) λy38=>(bC (((x35.p4==x35.p4)&&ai)&&aC (al x35.q5) (al x35.q5)&&ai) (af (nP ((bk .i64 ((bk .i64 (y1.1-10))+5)),0,[114],[],([]:List Xp),ec (0,0,[],([]:List Xp)),y38.1,([]:List Sx)),y38.2)))) (jn (α:=Bool×yS×fE×HC×Bool×List (List UInt8)) (be y1.1 12 (aF (x2.1,x35.2)) (aF (aj,x35.2))) λY=>(bcase Y.1 (obind (bA (2,Y.p2)) λy40=>(obind (rmade_maker_stmts ((0,(bk .i64 (1+y40.1))),(Y.2.1.1,Y.2.1.2.1,Y.2.1.p2,ai,Y.2.1.q4),y40.2,Y.q4)) λy41=>(bC (((Y.p4==Y.p4)&&ai)&&aC (al Y.q5) (al Y.q5)&&ai) (af (nP (7,0,[],[],([]:List Xp),ec (0,0,[],([]:List Xp)),y41.q3,([]:List Sx)),(y41.1.1,y41.1.2.1,y41.1.p2,aj,y41.1.q4),y41.2.1,y41.p2))))) (jn (α:=Bool×yS×fE×HC×Bool×List (List UInt8)) (be y1.1 13 (bcase x2.1 (aF ((!Y.2.1.p4),Y.2)) (aF (aj,Y.2))) (aF (aj,Y.2))) λM=>(bcase M.1 (obind (rmade_maker_stmts (((bk .i64 (x.1-1)),2),(M.2.1.1,M.2.1.2.1,M.2.1.p2,M.2.1.p3,ai,M.2.1.q5),M.p2,M.q4)) λy43=>(bC (((M.p4==M.p4)&&ai)&&aC (al M.q5) (al M.q5)&&ai) (af (nP (8,0,[],[],([]:List Xp),ec (0,0,[],([]:List Xp)),y43.q3,([]:List Sx)),(y43.1.1,y43.1.2.1,y43.1.p2,y43.1.p3,aj,y43.1.q5),y43.2.1,y43.p2)))) (jn (α:=Bool×yS×fE×HC×Bool×List (List UInt8)) (be y1.1 14 (bcase x2.1 (bcase (!M.2.1.p4) (obind (eO ([109],M.2.1,M.p2,M.q4)) λy45=>(bC (((M.p4==y45.p3)&&ai)&&aC (al M.q5) (al y45.q4)&&ai) (aF ((!y45.1),y45.2.1,y45.p2,M.p3,y45.q3)))) (aF (aj,M.2))) (aF (aj,M.2))) (aF (aj,M.2))) λx44=>(bcase x44.1 (obind (pt ([120])) λy46=>(obind (jq ([97],y46)) λy47=>(af (nP (4,0,[109],[],([]:List Xp),ec (0,0,[],([]:List Xp)),[nP (9,0,[99],[],([]:List Xp),ec (0,0,[],([]:List Xp)),([]:List Sx),([]:List Sx)),em y47],([]:List Sx)),x44.2.1,x44.p2,x44.q4)))) (jn (α:=Bool×yS×fE×HC×Bool×List (List UInt8)) (be y1.1 15 (bcase x2.1 (obind (eO ([109],x44.2.1,x44.p2,x44.q4)) λy49=>(bC (((x44.p4==y49.p3)&&ai)&&aC (al x44.q5) (al y49.q4)&&ai) (aF ((!y49.1),y49.2.1,y49.p2,x44.p3,y49.q3)))) (aF (aj,x44.2))) (aF (aj,x44.2))) λx48=>(bcase x48.1 (obind (bA (2,x48.p2)) λy50=>(af (nP (4,0,[109],[],([]:List Xp),ec (0,0,[],([]:List Xp)),[nP ((bk .i64 (10+y50.1)),0,[99],[],([]:List Xp),ec (0,0,[],([]:List Xp)),([]:List Sx),([]:List Sx))],([]:List Sx)),x48.2.1,y50.2,x48.q4))) (jn (α:=Bool×yS×fE×HC×Bool×List (List UInt8)) (be y1.1 16 (bcase (!x48.2.1.p3) (bcase (!x48.2.1.q5) (aF ((!x48.2.1.p2),x48.2)) (aF (aj,x48.2))) (aF (aj,x48.2))) (aF (aj,x48.2))) λZ=>(bcase Z.1 (obind (fd (1,(Z.2.1.1,Z.2.1.2.1,ai,Z.2.1.q3),Z.p2,Z.q4)) λy52=>(bC (((Z.p4==y52.p3)&&ai)&&aC (al Z.q5) (al y52.q4)&&ai) (af (nP (14,0,[102],[],([]:List Xp),ec ((Xp.op y52.1),(Xp.n y52.1),(Xp.name y52.1),(Xp.l y52.1)),([]:List Sx),([]:List Sx)),y52.2)))) (jn (α:=Bool×yS×fE×HC×Bool×List (List UInt8)) (be y1.1 17 (bcase (!Z.2.1.p3) (obind (bA (2,Z.p2)) λy54=>(aF ((decide ((y54.1:Int)=1)),Z.2.1,y54.2,Z.q3))) (aF (aj,Z.2))) (aF (aj,Z.2))) λx53=>(bcase x53.1 (af (nP (15,0,[97],[102],([]:List Xp),ec (0,0,[],([]:List Xp)),([]:List Sx),([]:List Sx)),x53.2.1,x53.p2,x53.q4)) (obind (fd (1,x53.2.1,x53.p2,x53.q4)) λy55=>(bC (((x53.p4==y55.p3)&&ai)&&aC (al x53.q5) (al y55.q4)&&ai) (obind (jq ([120],y55.1)) λy56=>(af (em y56,y55.2))))))))))))))))))))))))))))))
def mD (rmade_maker_stmts:agp->Option Zt) (rmade_maker_stmt:Zu->Option ada) (rmade_maker_block:ago->Option adb) (x:fm×yS×fE×Bool×List (List UInt8)):Option adb:=
 (bC (a_ (al x.q4+al ([x.1.1])) 16) (obind (bA (2,x.p2)) λJ=>(obind (rmade_maker_stmts ((x.1.2,(bk .i64 (1+J.1))),x.2.1,J.2,x.p3,(x.q4++([x.1.1])))) λI=>(bC (((x.p3==x.p3)&&ai)&&aC (al (x.q4++([x.1.1]))) (al (x.q4++([x.1.1])))&&ai) (bC (c8 0 (bk .i64 ((aZ I.p2.2)-1))&&fR (bk .i64 ((aZ I.p2.2)-1)) (al I.p2.2)) (af (I.q3,I.1,I.2.1,aj,(dQ (aU (bk .i64 ((aZ I.p2.2)-1))) I.p2.2))))))))
mutual
def dJ:Nat->agp->Option Zt
 |0,_=>ah
 |n+1,x=>mC (dJ n) (eE n) (dY n) x
def eE:Nat->Zu->Option ada
 |0,_=>ah
 |n+1,x=>nW (dJ n) (eE n) (dY n) x
def dY:Nat->ago->Option adb
 |0,_=>ah
 |n+1,x=>mD (dJ n) (eE n) (dY n) x
end
def qx (x:(Int×Int)×yS×fE×Bool×List (List UInt8)):Option Zt:=dJ fuel x
def oO (x:List Int):Option (sq×List sk):=
 (obind (sC ()) λy1=>(obind (bA (3,x,0)) λy2=>(iter (σ:=Int×yS×sq×cf×fE×To×List sk) (λM=>(bz M.1 (bk .i64 (2+y2.1)) (kB (.str) M.p3 M.1 λz4=>(jn (α:=yS×sq×cf×fm×fE×To×(List sk)×cf×List Sx) (be M.1 0 (iter (σ:=Int×yS×sq×cf×fm×fE×To×(List sk)×cf×List Sx) (λY=>(bz Y.1 (bk .i64 (2+y2.1)) (kB (.str) Y.p3 Y.1 λz7=>(bC (a_ (al Y.q9+al ([nP (12,0,z7,[],([]:List Xp),ec (0,0,[],([]:List Xp)),([]:List Sx),([]:List Sx))])) 176) (cK ((cD Y.1),Y.2.1,Y.p2,Y.p3,Y.p4,Y.p5,Y.p6,Y.p7,Y.p8,(Y.q9++([nP (12,0,z7,[],([]:List Xp),ec (0,0,[],([]:List Xp)),([]:List Sx),([]:List Sx))])))))) (aF (bP Y.2)))) (1,(M.1,M.2.1.2),M.p2,M.p3,(z4,0),M.p4,M.p5,M.q6,[[97],[98]],([]:List Sx))) (aF ((M.1,M.2.1.2),M.p2,M.p3,(z4,0),M.p4,M.p5,M.q6,[[97],[98]],([]:List Sx)))) λU=>(obind (bA (3,U.p4)) λy8=>(obind (qx ((2,(bk .i64 (1+y8.1))),U.1,y8.2,U.p5)) λZ=>(bC (((U.p5.1==U.p5.1)&&ai)&&aC (al U.p5.2) (al U.p5.2)&&ai) (bC (a_ (al U.q8+al Z.q3) 176) (jn (α:=yS×sq×cf×fm×fE×To×(List sk)×cf×List Sx) (jn (α:=Bool×yS×sq×cf×fm×fE×To×(List sk)×cf×List Sx) (be M.1 0 (obind (bA (3,Z.2.1)) λy12=>(aF ((decide ((y12.1:Int)=2)),Z.1,U.2.1,U.p2,U.p3,y12.2,Z.p2,U.p6,U.p7,(U.q8++Z.q3)))) (aF (aj,Z.1,U.2.1,U.p2,U.p3,Z.2.1,Z.p2,U.p6,U.p7,(U.q8++Z.q3)))) λI=>(bcase I.1 (kB (.str) I.p3 1 λz13=>(bC (a_ (al I.q9+al ([nP (13,0,z13,[],([]:List Xp),ec (0,0,[],([]:List Xp)),([]:List Sx),([]:List Sx))])) 176) (aF (I.2.1,I.p2,I.p3,I.p4,I.p5,I.p6,I.p7,I.p8,(I.q9++([nP (13,0,z13,[],([]:List Xp),ec (0,0,[],([]:List Xp)),([]:List Sx),([]:List Sx))])))))) (aF I.2))) λJ=>(bC (a_ (al J.p6+al ([(J.p3.1,J.p3.2,J.q7)])) 72) (cK ((cD M.1),J.1,J.2.1,J.p2,J.p4,J.p5,(J.p6++([(J.p3.1,J.p3.2,J.q7)])))))))))))) (obind (obind (fk (M.p2,M.q6)) λy14=>(iV y14.1 0 (obind (sC ()) λy15=>(obind (rG 1) λy16=>(obind (jq ([120],y16)) λy17=>(af (y15,[([109,97,105,110],0,[[97],[98]],[em y17])]))))) (af (M.p2,M.q6)))) λr=>af (bP r)))) (0,(0,20,aj,aj,aj,aj),y1,[[109,97,105,110],[116,49],[116,50],[116,51]],y2.2,(ai,([]:List (List UInt8))),([]:List sk)))))
def xB (x:List Int):Option Ab:=
 (obind (oO x) λJ=>(obind (qw J) λI=>(af I.1)))
def sD (x:(List Int)×List Int):Option (dz×List gh):=
 (obind (xB x.1) λM=>(obind (oP x.2) λJ=>(obind (ze (M,J)) λI=>(af I.1))))
def nI (x:Unit):Option dz:=
 (iter (σ:=Int×gP×gC×(List fm)×cf×cf×List (Int×Int×Int)) (λJ=>(bz J.1 (aP (al ([[109,97,105,110],[116,49],[116,50],[116,51]]))) (iter (σ:=Int×gP×gC×(List fm)×cf×cf×List (Int×Int×Int)) (λI=>(bz I.1 6 (bC (a_ (al I.q6+al ([(J.1,I.1,(bk .i64 ((bk .i64 ((bk .i64 (10*J.1))+I.1))+1)))])) 24) (cK ((cD I.1),I.2.1,I.p2,I.p3,I.p4,I.p5,(I.q6++([(J.1,I.1,(bk .i64 ((bk .i64 ((bk .i64 (10*J.1))+I.1))+1)))]))))) (aF (lz ((cD J.1),I.2))))) (0,J.2)) (aF J.2))) (0,[([120],0,0,aj,0),([121],0,0,aj,1),([118],0,0,ai,0),([113],0,2,aj,0),([113],1,2,aj,0)],[([109],aj),([110],aj),([114],ai)],[([99],0)],[[102]],[[109,97,105,110],[116,49],[116,50],[116,51]],([]:List (Int×Int×Int))))
def kW (x:pa×(List Int)×(List Int)×List Int):Option (List Int):=
 (iter (σ:=Int×List Int) (λI=>(bz I.1 (aZ x.1.q3) (jn (α:=List Int) (bB ie x.1.q3 I.1 λJ=>(be J.1 3 (bC (a_ (al I.2+al ([I.1])) 8) (aF (I.2++([I.1])))) (aF I.2))) λM=>(cK ((cD I.1),M))) (aF I.2))) (0,([]:List Int)))
def tJ (x:Unit):Option (List Int):=
 (af ([3,3,3,3,3,4,4,4,4,4,5,5,5,6,6,6,7,7,7,8,9,10,11,12,13,14,14,15,16,16,17,17,18,18,19,20,1,1,2,21,22,23,23]))
def oI (x:(Int×Int)×(List Int)×Int):Option (Int×(List Int)×Int):=
 (jn (α:=Bool×(List Int)×Int) (be x.1.1 3 (aF ((decide ((x.1.1:Int)=3)),x.2)) (aF ((decide ((x.1.1:Int)=4)),x.2))) λU=>(bcase U.1 (obind (bA (8,U.2)) λy2=>(kB aM ([0,0,0,1,1,2,3,4]) y2.1 λz3=>(af (z3,y2.2)))) (jn (α:=Bool×(List Int)×Int) (be x.1.1 6 (aF ((decide ((x.1.1:Int)=6)),U.2)) (aF ((decide ((x.1.1:Int)=7)),U.2))) λJ=>(bcase J.1 (obind (bA (2,J.2)) λy5=>(af y5)) (jn (α:=Bool×(List Int)×Int) (be x.1.1 8 (aF ((decide ((x.1.1:Int)=8)),J.2)) (be x.1.1 9 (aF ((decide ((x.1.1:Int)=9)),J.2)) (be x.1.1 10 (aF ((decide ((x.1.1:Int)=10)),J.2)) (aF ((decide ((x.1.1:Int)=11)),J.2))))) λI=>(bcase I.1 (af (2,I.2)) (jn (α:=Bool×(List Int)×Int) (be x.1.1 16 (aF ((decide ((x.1.1:Int)=16)),I.2)) (be x.1.1 17 (aF ((decide ((x.1.1:Int)=17)),I.2)) (be x.1.1 18 (aF ((decide ((x.1.1:Int)=18)),I.2)) (be x.1.1 19 (aF ((decide ((x.1.1:Int)=19)),I.2)) (be x.1.1 22 (aF ((decide ((x.1.1:Int)=22)),I.2)) (aF ((decide ((x.1.1:Int)=23)),I.2))))))) λM=>(bcase M.1 (af (0,M.2)) (jn (α:=Bool×(List Int)×Int) (be x.1.1 20 (aF ((decide ((x.1.1:Int)=20)),M.2)) (aF ((decide ((x.1.1:Int)=21)),M.2))) λY=>(bcase Y.1 (obind (bA (3,Y.2)) λZ=>(af ((Ak (bk .i64 ((cD x.1.2)+Z.1)) 4),Z.2))) (af ((-1),Y.2))))))))))))
def qj (x:(eH×Int×Int)×(List Int)×Int):Option (Int×(List Int)×Int):=
 (be x.1.2.1 3 (bB aM x.1.1.2.1 x.1.2.2 λZ=>(af (Z,x.2))) (be x.1.2.1 23 (bB aM x.1.1.p2 0 λY=>(af (Y,x.2))) (jn (α:=Bool×fE×pa×(List Int)×(List Int)×List Int) (be x.1.2.1 4 (aF ((decide ((x.1.2.1:Int)=4)),x.2,x.1.1)) (aF ((decide ((x.1.2.1:Int)=22)),x.2,x.1.1))) λI=>(bcase I.1 (obind (bA (3,I.2.1)) λy4=>(af y4)) (be x.1.2.1 5 (obind (bA (2,I.2.1)) λy5=>(af y5)) (be x.1.2.1 18 (obind (kW I.2.2) λJ=>(bz 0 (aZ J) (obind (bA ((aZ J),I.2.1)) λM=>(bB aM J M.1 λU=>(af (U,M.2)))) (af ((-1),I.2.1)))) (be x.1.2.1 19 (obind (kW I.2.2) λy9=>(af ((aZ y9),I.2.1))) (af (0,I.2.1)))))))))
def gE (x:fE×List Int):Option ((List Int)×fE×List Int):=
 (iter (σ:=Int×fE×(List Int)×List Int) (λI=>(bz I.1 (aZ x.2) (jn (α:=fE×(List Int)×List Int) (kB aM I.p2 I.1 λM=>(jn (α:=Bool×fE×(List Int)×List Int) (iW (aZ I.p2) (bk .i64 (I.1+3)) (obind (bA (2,I.2.1)) λU=>(aF ((decide ((U.1:Int)=1)),U.2,I.2.2))) (aF (aj,I.2))) λJ=>(bcase J.1 (bC (a_ (al J.q3+al ([M])) 8) (aF (J.2.1,J.p2,(J.q3++([M]))))) (aF J.2)))) λY=>(cK ((cD I.1),Y))) (aF (I.q3,I.2.1,I.p2)))) (0,x.1,x.2,([]:List Int)))
def ql (x:(eH×gP×gC×(List fm)×cf×cf×List (Int×Int×Int))×fE×(List Int)×(List Int)×(List Int)×List Int):Option (gh×fE×(List Int)×(List Int)×(List Int)×List Int):=
 (obind (bA (4,x.2.1)) λU=>(obind (tJ ()) λy2=>(obind (bA ((aZ y2),U.2)) λy3=>(bB aM y2 y3.1 λz4=>(obind (bA (6,y3.2)) λy5=>(jn (α:=fE×(List Int)×(List Int)×(List Int)×(List Int)×eH×dz×vW×Int×Int×Int×Int×Int) (jn (α:=Bool×fE×(List Int)×(List Int)×(List Int)×(List Int)×eH×dz×vW×Int×Int×Int×Int×Int) (be z4 1 (aF (ai,y5.2,x.p2,x.p3,x.p4,x.q5,x.1.1,x.1.2,(0,0,0,0,0),U.1,z4,0,0,(bk .i64 ((bk .i64 (U.1*6))+y5.1)))) (aF ((decide ((z4:Int)=2)),y5.2,x.p2,x.p3,x.p4,x.q5,x.1.1,x.1.2,(0,0,0,0,0),U.1,z4,0,0,(bk .i64 ((bk .i64 (U.1*6))+y5.1))))) λY=>(bcase Y.1 (aF (Y.2.1,Y.p2,Y.p3,Y.p4,Y.p5,Y.p6,Y.p7,Y.p8,Y.p9,Y.p10,Y.p11,Y.p12,(-1))) (aF Y.2))) λM=>(obind (oI ((M.p9,U.1),M.1)) λy8=>(obind (qj ((M.p5,M.p9,y8.1),y8.2)) λy9=>(jn (α:=fE×(List Int)×(List Int)×(List Int)×(List Int)×vW×Int×Int×Int×Int×Int×List Int) (jn (α:=Bool×fE×(List Int)×(List Int)×(List Int)×(List Int)×vW×Int×Int×Int×Int×Int) (be M.p9 5 (aF (ai,y9.2,M.2.1,M.p2,M.p3,M.p4,M.p7,M.p8,M.p9,y8.1,y9.1,M.q12)) (be M.p9 3 (bB ky M.p6.1 y8.1 λz12=>(aF ((fR 0 z12.2.2.1),y9.2,M.2.1,M.p2,M.p3,M.p4,M.p7,M.p8,M.p9,y8.1,y9.1,M.q12))) (be M.p9 4 (bB ky M.p6.1 y8.1 λz13=>(aF ((fR 0 z13.2.2.1),y9.2,M.2.1,M.p2,M.p3,M.p4,M.p7,M.p8,M.p9,y8.1,y9.1,M.q12))) (aF (aj,y9.2,M.2.1,M.p2,M.p3,M.p4,M.p7,M.p8,M.p9,y8.1,y9.1,M.q12))))) λJ=>(bcase J.1 (be U.1 0 (obind (gE (J.2.1,J.p2)) λy14=>(bC (aC (al J.p2) (al y14.2.2)&&ai) (aF (y14.2.1,y14.2.2,J.p3,J.p4,J.p5,J.p6,J.p7,J.p8,J.p9,J.p10,J.q11,y14.1)))) (be U.1 1 (obind (gE (J.2.1,J.p3)) λy15=>(bC (aC (al J.p3) (al y15.2.2)&&ai) (aF (y15.2.1,J.p2,y15.2.2,J.p4,J.p5,J.p6,J.p7,J.p8,J.p9,J.p10,J.q11,y15.1)))) (be U.1 2 (obind (gE (J.2.1,J.p4)) λy16=>(bC (aC (al J.p4) (al y16.2.2)&&ai) (aF (y16.2.1,J.p2,J.p3,y16.2.2,J.p5,J.p6,J.p7,J.p8,J.p9,J.p10,J.q11,y16.1)))) (be U.1 3 (obind (gE (J.2.1,J.p5)) λy17=>(bC (aC (al J.p5) (al y17.2.2)&&ai) (aF (y17.2.1,J.p2,J.p3,J.p4,y17.2.2,J.p6,J.p7,J.p8,J.p9,J.p10,J.q11,y17.1)))) ah)))) (aF (J.2.1,J.p2,J.p3,J.p4,J.p5,J.p6,J.p7,J.p8,J.p9,J.p10,J.q11,([]:List Int))))) λx10=>(jn (α:=fE×(List Int)×(List Int)×(List Int)×(List Int)×vW×Int×Int×Int×Int×Int×(List Int)×List Int) (jn (α:=Bool×fE×(List Int)×(List Int)×(List Int)×(List Int)×vW×Int×Int×Int×Int×Int×List Int) (be x10.p7 4 (aF (ai,x10)) (aF ((decide ((x10.p7:Int)=22)),x10))) λI=>(bcase I.1 (be U.1 0 (obind (gE (I.2.1,I.p2)) λy20=>(bC (aC (al I.p2) (al y20.2.2)&&ai) (aF (y20.2.1,y20.2.2,I.p3,I.p4,I.p5,I.p6,I.p7,I.p8,I.p9,I.p10,I.p11,I.q12,y20.1)))) (be U.1 1 (obind (gE (I.2.1,I.p3)) λy21=>(bC (aC (al I.p3) (al y21.2.2)&&ai) (aF (y21.2.1,I.p2,y21.2.2,I.p4,I.p5,I.p6,I.p7,I.p8,I.p9,I.p10,I.p11,I.q12,y21.1)))) (be U.1 2 (obind (gE (I.2.1,I.p4)) λy22=>(bC (aC (al I.p4) (al y22.2.2)&&ai) (aF (y22.2.1,I.p2,I.p3,y22.2.2,I.p5,I.p6,I.p7,I.p8,I.p9,I.p10,I.p11,I.q12,y22.1)))) (be U.1 3 (obind (gE (I.2.1,I.p5)) λy23=>(bC (aC (al I.p5) (al y23.2.2)&&ai) (aF (y23.2.1,I.p2,I.p3,I.p4,y23.2.2,I.p6,I.p7,I.p8,I.p9,I.p10,I.p11,I.q12,y23.1)))) ah)))) (aF (I.2.1,I.p2,I.p3,I.p4,I.p5,I.p6,I.p7,I.p8,I.p9,I.p10,I.p11,I.q12,([]:List Int))))) λZ=>(af (Z.q6,Z.1,Z.2.1,Z.p2,Z.p3,Z.p4))))))))))))
def su (x:(eH×dz×Int×Bool)×(List Int)×Int):Option ((List gh)×(List Int)×Int):=
 (bC (c8 0 (aZ x.1.2.1.p4)&&c8 (aZ x.1.2.1.p4) (aZ x.1.2.1.p4)&&a_ (aU (aZ x.1.2.1.p4)) 24&&decide (((aZ x.1.2.1.p4):Int)=4)) (jn (α:=fE×eH×dz×(List Int)×(List Int)×(List Int)×List Int) (bz 0 (aP 4) (jn (α:=fE×eH×dz×(List Int)×(List Int)×(List Int)×List Int) (jn (α:=Bool×fE×eH×dz×(List Int)×(List Int)×(List Int)×List Int) (bcase x.1.q3 (bB aM x.1.1.q3 0 λz4=>(bz 1 z4 (obind (bA (3,x.2)) λy5=>(aF ((decide ((y5.1:Int)=2)),y5.2,x.1.1,x.1.2.1,([]:List Int),([]:List Int),([]:List Int),([]:List Int)))) (aF (aj,x.2,x.1.1,x.1.2.1,([]:List Int),([]:List Int),([]:List Int),([]:List Int))))) (aF (aj,x.2,x.1.1,x.1.2.1,([]:List Int),([]:List Int),([]:List Int),([]:List Int)))) λx3=>(bcase x3.1 (bC (a_ (al x3.p4+al ([1])) 8) (aF (x3.2.1,x3.p2,x3.p3,(x3.p4++([1])),x3.q5))) (aF x3.2))) λx2=>(bz 1 (aP 4) (jn (α:=fE×eH×dz×(List Int)×(List Int)×(List Int)×List Int) (jn (α:=Bool×fE×eH×dz×(List Int)×(List Int)×(List Int)×List Int) (bcase x.1.q3 (bB aM x2.2.1.q3 1 λz8=>(bz 1 z8 (obind (bA (3,x2.1)) λy9=>(aF ((decide ((y9.1:Int)=2)),y9.2,x2.2))) (aF (aj,x2)))) (aF (aj,x2))) λx7=>(bcase x7.1 (bC (a_ (al x7.p5+al ([1])) 8) (aF (x7.2.1,x7.p2,x7.p3,x7.p4,(x7.p5++([1])),x7.q6))) (aF x7.2))) λx6=>(bz 2 (aP 4) (jn (α:=fE×eH×dz×(List Int)×(List Int)×(List Int)×List Int) (jn (α:=Bool×fE×eH×dz×(List Int)×(List Int)×(List Int)×List Int) (bcase x.1.q3 (bB aM x6.2.1.q3 2 λz12=>(bz 1 z12 (obind (bA (3,x6.1)) λy13=>(aF ((decide ((y13.1:Int)=2)),y13.2,x6.2))) (aF (aj,x6)))) (aF (aj,x6))) λY=>(bcase Y.1 (bC (a_ (al Y.p6+al ([1])) 8) (aF (Y.2.1,Y.p2,Y.p3,Y.p4,Y.p5,(Y.p6++([1])),Y.q7))) (aF Y.2))) λx10=>(bz 3 (aP 4) (jn (α:=fE×eH×dz×(List Int)×(List Int)×(List Int)×List Int) (jn (α:=Bool×fE×eH×dz×(List Int)×(List Int)×(List Int)×List Int) (bcase x.1.q3 (bB aM x10.2.1.q3 3 λz16=>(bz 1 z16 (obind (bA (3,x10.1)) λy17=>(aF ((decide ((y17.1:Int)=2)),y17.2,x10.2))) (aF (aj,x10)))) (aF (aj,x10))) λU=>(bcase U.1 (bC (a_ (al U.q7+al ([1])) 8) (aF (U.2.1,U.p2,U.p3,U.p4,U.p5,U.p6,(U.q7++([1]))))) (aF U.2))) λx14=>(bz 4 (aP 4) (jn (α:=fE×eH×dz×(List Int)×(List Int)×(List Int)×List Int) (jn (α:=Bool×fE×eH×dz×(List Int)×(List Int)×(List Int)×List Int) (bcase x.1.q3 (bB aM x14.2.1.q3 4 λz20=>(bz 1 z20 (obind (bA (3,x14.1)) λy21=>(aF ((decide ((y21.1:Int)=2)),y21.2,x14.2))) (aF (aj,x14)))) (aF (aj,x14))) λx19=>(bcase x19.1 ah (aF x19.2))) λx18=>ah) (aF x14))) (aF x10))) (aF x6))) (aF x2))) (aF (x.2,x.1.1,x.1.2.1,([]:List Int),([]:List Int),([]:List Int),([]:List Int)))) λx1=>(iter (σ:=fE×eH×dz×(List gh)×(List Int)×(List Int)×(List Int)×List Int) (λx22=>(jn (α:=Bool×fE×eH×dz×(List gh)×(List Int)×(List Int)×(List Int)×List Int) (bz (aZ x22.p3) x.1.p2 (aF ((fR x22.1.2 (aZ x22.1.1)),x22)) (aF (aj,x22))) λJ=>(bcase J.1 (jn (α:=fE×eH×dz×(List gh)×(List Int)×(List Int)×(List Int)×List Int) (obind (ql ((J.p2,J.p3),J.2.1,J.q5)) λM=>(bC (aC (al J.q8) (al M.q5)&&(aC (al J.p7) (al M.p4)&&(aC (al J.p6) (al M.p3)&&(aC (al J.p5) (al M.p2)&&ai)))) (obind (ry (J.p3,J.p2,M.1)) λy26=>(bcase (!y26.2) (aF (M.2.1,J.p2,J.p3,J.p4,M.2.2)) (jn (α:=fE×eH×dz×(List gh)×gh×eH×(List Int)×(List Int)×(List Int)×List Int) (jn (α:=Bool×fE×eH×dz×(List gh)×gh×eH×(List Int)×(List Int)×(List Int)×List Int) (be M.1.2.1 3 (aF (ai,M.2.1,J.p2,J.p3,J.p4,M.1,y26.1,M.2.2)) (aF ((decide ((M.1.2.1:Int)=23)),M.2.1,J.p2,J.p3,J.p4,M.1,y26.1,M.2.2))) λI=>(bcase I.1 (be I.p5.1 0 (bB aM I.p2.q3 0 λz29=>(bC (a_ (al I.p7+al ([z29])) 8) (aF (I.2.1,I.p2,I.p3,I.p4,(0,I.p5.2),I.p6,(I.p7++([z29])),I.q8)))) (be I.p5.1 1 (bB aM I.p2.q3 1 λz30=>(bC (a_ (al I.p8+al ([z30])) 8) (aF (I.2.1,I.p2,I.p3,I.p4,(1,I.p5.2),I.p6,I.p7,(I.p8++([z30])),I.q9)))) (be I.p5.1 2 (bB aM I.p2.q3 2 λz31=>(bC (a_ (al I.p9+al ([z31])) 8) (aF (I.2.1,I.p2,I.p3,I.p4,(2,I.p5.2),I.p6,I.p7,I.p8,(I.p9++([z31])),I.q10)))) (be I.p5.1 3 (bB aM I.p2.q3 3 λz32=>(bC (a_ (al I.q10+al ([z32])) 8) (aF (I.2.1,I.p2,I.p3,I.p4,(3,I.p5.2),I.p6,I.p7,I.p8,I.p9,(I.q10++([z32])))))) ah)))) (aF I.2))) λZ=>(bC (a_ (al Z.p3+al ([Z.p4])) 88) (aF (Z.1,Z.p5,Z.p2,(Z.p3++([Z.p4])),Z.q6)))))))) λx24=>(cK x24)) (aF (J.p4,J.2.1))))) (x1.1,x1.2.1,x1.p2,([]:List gh),x1.q3))))
def qm (x:(List Int)×Int):Option (dz×List gh):=
 (jn (α:=List Int) (bz 600 (aZ x.1) (bC (c8 0 600&&c8 600 (al x.1)) (aF (dQ (aU 600) x.1))) (aF x.1)) λx1=>(obind (nI ()) λy2=>(obind (mP y2) λy3=>(obind (bA (3,x1,0)) λy4=>(iter (σ:=Int×fE×dz×eH×List gh) (λJ=>(iW J.1 (bk .i64 (1+y4.1)) (bC (a_ (al J.q4+al ([(0,20,J.1,0,0,([]:List Int),([]:List Int)),(J.1,1,(-1),0,(-1),([]:List Int),([]:List Int))])) 88) (cK ((cD J.1),J.2.1,J.p2,J.p3,(J.q4++([(0,20,J.1,0,0,([]:List Int),([]:List Int)),(J.1,1,(-1),0,(-1),([]:List Int),([]:List Int))]))))) (obind (iter (σ:=Int×fE×dz×eH×(List gh)×List gh) (λI=>(bz I.1 (aZ J.q4) (jn (α:=fE×dz×eH×(List gh)×List gh) (kB fH I.p4 I.1 λU=>(obind (ry (I.p2,I.p3,U)) λy9=>(bcase y9.2 (bC (a_ (al I.q5+al ([U])) 88) (aF (I.2.1,I.p2,y9.1,I.p4,(I.q5++([U]))))) (aF I.2)))) λx7=>(cK ((cD I.1),x7))) (obind (obind (su ((I.p3,I.p2,(Hh (iE x.2 0) 60),aj),I.2.1)) λM=>(bC (a_ (al I.q5+al M.1) 88) (obind (uk (I.p2,(I.q5++M.1))) λZ=>(iV Z.2 0 (obind (nI ()) λY=>(af (Y,([]:List gh)))) (af (I.p2,(I.q5++M.1))))))) λr=>af (bP r)))) (0,J.2.1,J.p2,J.p3,J.q4,([]:List gh))) λr=>af (bP r)))) (1,y4.2,y2,y3,[(0,1,(-1),0,(-1),([]:List Int),([]:List Int))]))))))
def kX (x:((List Int)×(List Int)×List Int)×Int):Option (dz×List gh):=
 (bz 0 (aZ x.1.2.2) (obind (qm (x.1.2.2,x.2)) λJ=>(af J)) (bC (c8 0 (Hh (aZ x.1.2.1) x.2)&&c8 (Hh (aZ x.1.2.1) x.2) (al x.1.2.1)) (obind (sD (x.1.1,(dQ (aU (Hh (aZ x.1.2.1) x.2)) x.1.2.1))) λI=>(af I))))
end
end Go.Proofs.YthehadcddfilhaaGreatDoor.AI
