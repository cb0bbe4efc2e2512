/-
  Texts of the proof, part 1 of 5: what is used to prove the statement. No condition.
-/
import Derived.WalkKit
import Derived.Lib.Hide
import Derived.Deep.QuietTactic
namespace Prod
variable {A0 A1 A2 A3 A4 A5 A6 A7 A8 A9 A10 A11 A12 A13 A14 A15 A16 A17 A18 A19 A20 A21 A22 A23 A24:Type}
abbrev p2 (x:A0×A1×A2×A3):A2:=x.2.2.1
abbrev p3 (x:A0×A1×A2×A3×A4):A3:=x.2.2.2.1
abbrev q3 (x:A0×A1×A2×A3):A3:=x.2.2.2
abbrev p4 (x:A0×A1×A2×A3×A4×A5):A4:=x.2.2.2.2.1
abbrev q4 (x:A0×A1×A2×A3×A4):A4:=x.2.2.2.2
abbrev p5 (x:A0×A1×A2×A3×A4×A5×A6):A5:=x.2.2.2.2.2.1
abbrev q5 (x:A0×A1×A2×A3×A4×A5):A5:=x.2.2.2.2.2
abbrev p6 (x:A0×A1×A2×A3×A4×A5×A6×A7):A6:=x.2.2.2.2.2.2.1
abbrev q6 (x:A0×A1×A2×A3×A4×A5×A6):A6:=x.2.2.2.2.2.2
abbrev p7 (x:A0×A1×A2×A3×A4×A5×A6×A7×A8):A7:=x.2.2.2.2.2.2.2.1
abbrev q7 (x:A0×A1×A2×A3×A4×A5×A6×A7):A7:=x.2.2.2.2.2.2.2
abbrev p8 (x:A0×A1×A2×A3×A4×A5×A6×A7×A8×A9):A8:=x.2.2.2.2.2.2.2.2.1
abbrev q8 (x:A0×A1×A2×A3×A4×A5×A6×A7×A8):A8:=x.2.2.2.2.2.2.2.2
abbrev p9 (x:A0×A1×A2×A3×A4×A5×A6×A7×A8×A9×A10):A9:=x.2.2.2.2.2.2.2.2.2.1
abbrev q9 (x:A0×A1×A2×A3×A4×A5×A6×A7×A8×A9):A9:=x.2.2.2.2.2.2.2.2.2
abbrev p10 (x:A0×A1×A2×A3×A4×A5×A6×A7×A8×A9×A10×A11):A10:=x.2.2.2.2.2.2.2.2.2.2.1
abbrev q10 (x:A0×A1×A2×A3×A4×A5×A6×A7×A8×A9×A10):A10:=x.2.2.2.2.2.2.2.2.2.2
abbrev p11 (x:A0×A1×A2×A3×A4×A5×A6×A7×A8×A9×A10×A11×A12):A11:=x.2.2.2.2.2.2.2.2.2.2.2.1
abbrev q11 (x:A0×A1×A2×A3×A4×A5×A6×A7×A8×A9×A10×A11):A11:=x.2.2.2.2.2.2.2.2.2.2.2
abbrev p12 (x:A0×A1×A2×A3×A4×A5×A6×A7×A8×A9×A10×A11×A12×A13):A12:=x.2.2.2.2.2.2.2.2.2.2.2.2.1
abbrev q12 (x:A0×A1×A2×A3×A4×A5×A6×A7×A8×A9×A10×A11×A12):A12:=x.2.2.2.2.2.2.2.2.2.2.2.2
abbrev p13 (x:A0×A1×A2×A3×A4×A5×A6×A7×A8×A9×A10×A11×A12×A13×A14):A13:=x.2.2.2.2.2.2.2.2.2.2.2.2.2.1
abbrev q13 (x:A0×A1×A2×A3×A4×A5×A6×A7×A8×A9×A10×A11×A12×A13):A13:=x.2.2.2.2.2.2.2.2.2.2.2.2.2
abbrev p14 (x:A0×A1×A2×A3×A4×A5×A6×A7×A8×A9×A10×A11×A12×A13×A14×A15):A14:=x.2.2.2.2.2.2.2.2.2.2.2.2.2.2.1
abbrev p15 (x:A0×A1×A2×A3×A4×A5×A6×A7×A8×A9×A10×A11×A12×A13×A14×A15×A16):A15:=x.2.2.2.2.2.2.2.2.2.2.2.2.2.2.2.1
abbrev p16 (x:A0×A1×A2×A3×A4×A5×A6×A7×A8×A9×A10×A11×A12×A13×A14×A15×A16×A17):A16:=x.2.2.2.2.2.2.2.2.2.2.2.2.2.2.2.2.1
abbrev q16 (x:A0×A1×A2×A3×A4×A5×A6×A7×A8×A9×A10×A11×A12×A13×A14×A15×A16):A16:=x.2.2.2.2.2.2.2.2.2.2.2.2.2.2.2.2
abbrev p17 (x:A0×A1×A2×A3×A4×A5×A6×A7×A8×A9×A10×A11×A12×A13×A14×A15×A16×A17×A18):A17:=x.2.2.2.2.2.2.2.2.2.2.2.2.2.2.2.2.2.1
abbrev q17 (x:A0×A1×A2×A3×A4×A5×A6×A7×A8×A9×A10×A11×A12×A13×A14×A15×A16×A17):A17:=x.2.2.2.2.2.2.2.2.2.2.2.2.2.2.2.2.2
abbrev p18 (x:A0×A1×A2×A3×A4×A5×A6×A7×A8×A9×A10×A11×A12×A13×A14×A15×A16×A17×A18×A19):A18:=x.2.2.2.2.2.2.2.2.2.2.2.2.2.2.2.2.2.2.1
abbrev q18 (x:A0×A1×A2×A3×A4×A5×A6×A7×A8×A9×A10×A11×A12×A13×A14×A15×A16×A17×A18):A18:=x.2.2.2.2.2.2.2.2.2.2.2.2.2.2.2.2.2.2
abbrev p19 (x:A0×A1×A2×A3×A4×A5×A6×A7×A8×A9×A10×A11×A12×A13×A14×A15×A16×A17×A18×A19×A20):A19:=x.2.2.2.2.2.2.2.2.2.2.2.2.2.2.2.2.2.2.2.1
abbrev p20 (x:A0×A1×A2×A3×A4×A5×A6×A7×A8×A9×A10×A11×A12×A13×A14×A15×A16×A17×A18×A19×A20×A21):A20:=x.2.2.2.2.2.2.2.2.2.2.2.2.2.2.2.2.2.2.2.2.1
abbrev q21 (x:A0×A1×A2×A3×A4×A5×A6×A7×A8×A9×A10×A11×A12×A13×A14×A15×A16×A17×A18×A19×A20×A21):A21:=x.2.2.2.2.2.2.2.2.2.2.2.2.2.2.2.2.2.2.2.2.2
end Prod
namespace Go.Proofs.YtgijlolllojpaaaGreatDoor.AI
open Go.RowKit
set_option maxRecDepth 100000
set_option maxHeartbeats 4000000
set_option linter.unusedVariables false
set_option linter.unusedSimpArgs false
open Act renaming put→MP
open _root_.Array renaming length_toList→ip,replicate→oh
open _root_.Bool renaming true→ai,false→aj
open _root_.Int renaming ofNat→aO,toNat→aS,tmod→zB
open IntKind renaming wrap→oI
open _root_.List renaming length→al,replicate→aG,take→du,range→eS,length_singleton→gm,getElem?_cons_zero→qC
open _root_.Nat renaming beq→aB,testBit→aN,ble→eB,blt→gd,min→iN
open Oper renaming wp→GW
open _root_.Option renaming some→af,none→ah,bind_some→aH
open Region renaming wanted→iF,binds→zu,ready→GV
open _root_.Sum renaming inr→bU,inl→oE
open World renaming shape?→rz,cell?→ML
noncomputable section
abbrev aC:=@if_neg
abbrev aF:=@if_pos
abbrev aQ:=@decide_eq_true
abbrev bt:=@of_decide_eq_true
abbrev bC:=@if_true
abbrev bF:=@decide_eq_false
abbrev bP:=@decide_eq_true_eq
abbrev cQ:=@beq_self_eq_true
abbrev cR:=@beq_iff_eq
abbrev cU:=@absurd
abbrev c7:=@decide_false
abbrev dL:=@decide_true
abbrev dV:=@if_false
abbrev fY:=@or_false
abbrev gE:=@congrArg
abbrev AO:=@true_and
abbrev Sn:=@of_decide_eq_false
abbrev ak:=@Option.some.injEq
abbrev av:=@Bool.and_eq_true
abbrev aw:=@Nat.eq_of_beq_eq_true
abbrev ay:=@List.getD_eq_getElem?_getD
abbrev aA:=@List.getElem?_eq_getElem
abbrev aD:=@Prod.mk.injEq
abbrev aL:=@List.mem_singleton
abbrev a8:=@Nat.le_of_ble_eq_true
abbrev a_:=@List.mem_of_getElem?
abbrev ba:=@List.getElem?_map
abbrev bh:=@List.getElem?_eq_some_iff
abbrev bi:=@List.mem_cons
abbrev bn:=@Nat.testBit_or
abbrev bu:=@List.length_append
abbrev bB:=@Nat.ble_eq_true_of_le
abbrev bD:=@List.length_take
abbrev bG:=@List.getElem?_append_left
abbrev bN:=@Nat.zero_add
abbrev bO:=@List.getElem?_eq_none
abbrev bT:=@List.getElem?_append_right
abbrev bV:=@Nat.le_refl
abbrev bW:=@List.mem_append
abbrev bY:=@List.length_map
abbrev b7:=@Nat.lt_or_ge
abbrev cr:=@List.not_mem_nil
abbrev ct:=@Bool.false_eq_true
abbrev cC:=@Array.getElem?_eq_some_iff
abbrev cE:=@Nat.mul_le_mul_right
abbrev cF:=@Array.getElem?_toList
abbrev cL:=@List.mem_cons_of_mem
abbrev cM:=@List.getElem?_take
abbrev cN:=@List.map_append
abbrev cP:=@List.take_length
abbrev dc:=@Nat.le_trans
abbrev dh:=@List.mem_map
abbrev dt:=@Nat.lt_of_lt_of_le
abbrev dv:=@List.mem_cons_self
abbrev dw:=@List.ext_getElem
abbrev ec:=@Bool.not_eq_true'
abbrev ep:=@Int.natCast_nonneg
abbrev eC:=@List.length_replicate
abbrev eJ:=@Int.le_refl
abbrev eV:=@List.take_of_length_le
abbrev eX:=@List.getElem?_of_mem
abbrev fG:=@List.foldl_append
abbrev fH:=@List.flatMap_cons
abbrev gg:=@List.map_cons
abbrev gi:=@List.all_eq_true
abbrev gA:=@Array.getD_eq_getD_getElem?
abbrev gD:=@List.length_eq_zero_iff
abbrev gP:=@List.mem_of_mem_take
abbrev gQ:=@List.getElem?_drop
abbrev hY:=@Nat.ne_of_beq_eq_false
abbrev ib:=@Array.getElem?_eq_getElem
abbrev ir:=@Nat.le_succ_of_le
abbrev iG:=@Option.isSome_iff_exists
abbrev iH:=@Bool.and_self
abbrev iM:=@Nat.succ_mul
abbrev iO:=@List.cons.injEq
abbrev iP:=@Bool.or_eq_true
abbrev jH:=@Option.map_eq_some_iff
abbrev jI:=@List.length_range
abbrev jJ:=@List.append_assoc
abbrev jP:=@Option.some.inj
abbrev kg:=@List.getElem?_toArray
abbrev kx:=@Nat.or_assoc
abbrev kz:=@List.map_take
abbrev kU:=@Nat.zero_le
abbrev kV:=@List.take_append_of_le_length
abbrev kW:=@List.mem_append_left
abbrev k_:=@List.getElem?_replicate
abbrev lG:=@List.append_nil
abbrev mr:=@List.length_drop
abbrev m6:=@List.mem_range
abbrev m7:=@List.getElem_range
abbrev m8:=@Bool.false_and
abbrev nj:=@List.mem_append_right
abbrev oG:=@List.take_succ_eq_append_getElem
abbrev oH:=@List.getElem?_set
abbrev pi:=@List.eq_of_mem_replicate
abbrev pl:=@Bool.true_and
abbrev pD:=@Array.getElem?_setIfInBounds_ne
abbrev pI:=@List.map_congr_left
abbrev pJ:=@List.length_take_le
abbrev qA:=@Nat.lt_succ_self
abbrev qB:=@List.getElem_map
abbrev rA:=@Nat.beq_refl
abbrev rB:=@List.drop_of_length_le
abbrev sa:=@Nat.min_eq_left
abbrev sd:=@List.length_set
abbrev sg:=@Nat.add_assoc
abbrev sC:=@List.contains_iff_mem
abbrev sO:=@List.size_toArray
abbrev ul:=@Bool.and_eq_true_iff
abbrev uA:=@List.mem_flatMap
abbrev uB:=@List.getElem_set
abbrev uC:=@List.getElem_mem
abbrev uD:=@List.drop_append
abbrev u_:=@Classical.byContradiction
abbrev vC:=@List.drop_succ_cons
abbrev wK:=@Nat.not_lt_zero
abbrev xX:=@Nat.zero_or
abbrev zw:=@Nat.lt_succ_of_lt
abbrev zA:=@List.map_map
abbrev AM:=@List.take_append_drop
abbrev BJ:=@Int.not_lt
abbrev BN:=@Nat.lt_irrefl
abbrev Ds:=@List.replicate_succ'
abbrev Dt:=@List.getElem?_mapIdx
abbrev Du:=@List.drop_append_of_le_length
abbrev ER:=@List.sum_append
abbrev ES:=@List.mem_filter
abbrev F7:=@List.getElem?_range
abbrev F8:=@Int.toNat_of_nonneg
abbrev GY:=@Nat.sub_self
abbrev GZ:=@Nat.mul_comm
abbrev Kl:=@Nat.eq_zero_or_pos
abbrev Kn:=@Array.ext'
abbrev MN:=@Nat.lt_trichotomy
abbrev MO:=@Nat.add_mul
inductive FV where
 |raw (v:Value)
 |sl (cells:List FV) (n:Nat)
 |ptr (cells:List FV) (off:Nat)
 |agg (cells:List FV)
inductive AV where
 |f (x:FV)
 |ptr (id off:Nat)
 |sl (id off n:Nat)
 |row (id sz n:Nat)
 |mp (id:Nat)
 |emp
 |anyb
 |agg (cells:List AV)
 |tup (vs:List AV)
 |clo (g:FuncId) (cap:List AV)
def FV.isCell:FV->Bool
 |.raw v=>v.oneCell'
 |.sl _ _=>ai
 |.ptr _ _=>ai
 |.agg _=>aj
def AV.isCell:AV->Bool
 |.f x=>x.isCell
 |.ptr _ _=>ai
 |.sl _ _ _=>ai
 |.row _ _ _=>ai
 |.mp _=>ai
 |.emp=>ai
 |.clo _ _=>ai
 |_=>aj
inductive mZ (O:Nat->Prop) (w:World):FV->Value->Prop
 |raw (v:Value):mZ O w (.raw v) v
 |nil (a:Option Addr) (c:Nat) (hc:c<=maxLen):mZ O w (.sl [] 0) (.slice a 0 c)
 |sl (cells:List FV) (n c b off:Nat) (us:Nat->Value) (hn:n<=c) (hc:c<=maxLen) (hO:¬O b) (hb:b<w.heap.size)
   (hcl:∀ x∈cells,x.isCell=ai)
   (hu:∀ j,j<cells.length->w.cell? ⟨b,off+j,ah⟩=af (us j)) (hr:∀ (j:Nat) x,cells[j]? =af x->mZ O w x (us j)):
   mZ O w (.sl cells n) (.slice (af ⟨b,off,ah⟩) n c)
 |ptr (cells:List FV) (o b off:Nat) (us:Nat->Value) (hO:¬O b) (hb:b<w.heap.size)
   (hcl:∀ x∈cells,x.isCell=ai)
   (hu:∀ j,j<cells.length->w.cell? ⟨b,off+j,ah⟩=af (us j)) (hr:∀ (j:Nat) x,cells[j]? =af x->mZ O w x (us j)):
   mZ O w (.ptr cells o) (.pointer (af ⟨b,off+o,ah⟩))
 |agg (cells:List FV) (vs:List Value) (hl:vs.length=cells.length) (hcl:∀ x∈cells,x.isCell=ai)
   (hr:∀ (j:Nat) x v,cells[j]? =af x->vs[j]? =af v->mZ O w x v):mZ O w (.agg cells) (.agg vs.toArray)
abbrev PM:=Nat->Option Nat
inductive cI (φ:PM) (O:Nat->Prop) (w:World):AV->Value->Prop
 |f {x:FV} {v:Value} (h:mZ O w x v):cI φ O w (.f x) v
 |ptr {id off b:Nat} (h:φ id=af b):cI φ O w (.ptr id off) (.pointer (af ⟨b,off,ah⟩))
 |sl {id off n c b:Nat} (h:φ id=af b) (hn:n<=c) (hc:c<=maxLen):cI φ O w (.sl id off n) (.slice (af ⟨b,off,ah⟩) n c)
 |row {id sz n c b:Nat} (h:φ id=af b) (hn:n<=c) (hc:c<=maxLen) (hs:∃ ty,w.shape? b=af (ty,c*sz)):
   cI φ O w (.row id sz n) (.slice (af ⟨b,0,ah⟩) n c)
 |emp {a:Option Addr}:cI φ O w .emp (.slice a 0 0)
 |anyb {b:Bool}:cI φ O w .anyb (.bool b)
 |mp {id b:Nat} (h:φ id=af b):cI φ O w (.mp id) (.map (af b))
 |agg {cells:List AV} {vs:List Value} (hl:vs.length=cells.length) (hcl:∀ x∈cells,x.isCell=ai)
   (hr:∀ (j:Nat) x v,cells[j]? =af x->vs[j]? =af v->cI φ O w x v):cI φ O w (.agg cells) (.agg vs.toArray)
 |tup {cells:List AV} {vs:List Value} (hl:vs.length=cells.length)
   (hr:∀ (j:Nat) x v,cells[j]? =af x->vs[j]? =af v->cI φ O w x v):cI φ O w (.tup cells) (.tuple vs.toArray)
 |clo {g:FuncId} {cells:List AV} {vs:List Value} (hl:vs.length=cells.length)
   (hr:∀ (j:Nat) x v,cells[j]? =af x->vs[j]? =af v->cI φ O w x v):cI φ O w (.clo g cells) (.func (.func g) #[] vs.toArray)
structure Kh (O:Nat->Prop) (w w':World):Prop where
 os:w'.os=w.os
 tape:w'.tape=w.tape
 output:w'.output=w.output
 size:w.heap.size<=w'.heap.size
 blk:∀ k,k<w.heap.size->¬O k->w'.heap[k]? =w.heap[k]?
 shp:∀ k,k<w.heap.size->w'.shape? k=w.shape? k
theorem Kh.refl (O:Nat->Prop) (w:World):Kh O w w:=⟨rfl,rfl,rfl,bV _,λ_ _ _=>rfl,λ_ _=>rfl⟩
theorem Df {w w':World} {b:Nat} (h:w'.heap[b]? =w.heap[b]?) (o:Nat):w'.cell? ⟨b,o,ah⟩=w.cell? ⟨b,o,ah⟩:=by
 unfold ML;rw[h]
theorem mZ.ext {O O':Nat->Prop} {w w':World} (he:Kh O w w') (J:∀ k,k<w.heap.size->O' k->O k) {x:FV} {v:Value} (h:mZ O w x v):mZ O' w' x v:=by
 induction h with
 |raw v=>exact .raw v
 |nil a c hc=>exact .nil a c hc
 |sl cells n c b off us hn hc hO hb hcl hu hr I=>
  exact .sl cells n c b off us hn hc (λh=>hO (J b hb h)) (dt hb he.size) hcl (λj hj=>by rw[Df (he.blk b hb hO)];exact hu j hj) I
 |ptr cells o b off us hO hb hcl hu hr I=>
  exact .ptr cells o b off us (λh=>hO (J b hb h)) (dt hb he.size) hcl (λj hj=>by rw[Df (he.blk b hb hO)];exact hu j hj) I
 |agg cells vs hl hcl hr I=>exact .agg cells vs hl hcl I
theorem cI.ext {φ φ':PM} {O O':Nat->Prop} {w w':World} (hs:∀ i k,φ i=af k->φ' i=af k) (he:Kh O w w') (J:∀ k,k<w.heap.size->O' k->O k) {x:AV} {v:Value} (h:cI φ O w x v):cI φ' O' w' x v:=by
 induction h with
 |f h=>exact .f (h.ext he J)
 |ptr h=>exact .ptr (hs _ _ h)
 |sl h hn hc=>exact .sl (hs _ _ h) hn hc
 |row h hn hc hsh=>
  obtain⟨ty,hty⟩:=hsh;refine .row (hs _ _ h) hn hc ⟨ty,?_⟩;rw[he.shp _ ?_];exact hty;unfold rz at hty;rcases b7 _ w.heap.size with hlt|hge
  .exact hlt
  .rw[Array.getElem?_eq_none hge] at hty;cases hty
 |emp=>exact .emp
 |anyb=>exact .anyb
 |mp h=>exact .mp (hs _ _ h)
 |agg hl hcl hr I=>exact .agg hl hcl I
 |tup hl hr I=>exact .tup hl I
 |clo hl hr I=>exact .clo hl I
inductive BC where
 |fz (l:List FV)
 |mx (l:List AV)
 |mp (es:List (Value×AV))
 |it (s:ByteArray) (pos:Nat)
def BC.get:BC->Nat->Option AV
 |.fz l,j=>l[j]?.map AV.f
 |.mx l,j=>l[j]?
 |_,_=>ah
def BC.len:BC->Nat
 |.fz l=>l.length
 |.mx l=>l.length
 |_=>0
def BC.isCells:BC->Bool
 |.fz _=>ai
 |.mx _=>ai
 |_=>aj
structure wG where
 ty:TypeId
 c:BC
abbrev HF:=Nat->Option wG
def own (φ:PM) (h:HF) (k:Nat):Prop:=∃ id b,h id=af b/\φ id=af k
def tot (E:Nat->Prop) (φ:PM) (h:HF) (k:Nat):Prop:=E k\/own φ h k
def uZ (φ:PM) (O:Nat->Prop) (w:World) (c:BC) (arr:Array Value):Prop:=
 c.len<=arr.size/\∀ j x,c.get j=af x->x.isCell=ai/\∃ v,arr[j]? =af v/\cI φ O w x v
def jq (φ:PM) (O:Nat->Prop) (w:World) (b:wG) (o:Obj):Prop:=
 match b.c with
 |.mp es=>∃ ents clock,o= .map ents clock/\ents.toList.map (·.key)=es.map (·.1)/\∀ (j:Nat) x,es[j]? =af x->∃ m,ents[j]? =af m/\cI φ O w x.2 m.val
 |.it s p=>o= .stringIter s p
 |c=>∃ arr,o= .cells arr b.ty (0,0)/\uZ φ O w c arr
def Ww (φ:PM) (O:Nat->Prop) (w:World) (k:Nat) (b:wG):Prop:=∃ o,w.heap[k]? =af o/\jq φ O w b o
theorem Ww.cells {φ:PM} {O:Nat->Prop} {w:World} {k:Nat} {b:wG} (h:Ww φ O w k b) (hc:b.c.isCells=ai):
 ∃ arr,w.heap[k]? =af (.cells arr b.ty (0,0))/\uZ φ O w b.c arr:=by
 obtain⟨o,h1,h2⟩:=h;unfold jq at h2;cases hb:b.c with
 |fz l=>rw[hb] at h2;obtain⟨arr,rfl,I⟩:=h2;exact⟨arr,h1,I⟩
 |mx l=>rw[hb] at h2;obtain⟨arr,rfl,I⟩:=h2;exact⟨arr,h1,I⟩
 |mp _=>rw[hb] at hc;cases hc
 |it _ _=>rw[hb] at hc;cases hc
theorem jq.mono {φ φ':PM} {O O':Nat->Prop} {w w':World} (hk:∀ x v,cI φ O w x v->cI φ' O' w' x v) {b:wG} {o:Obj} (h:jq φ O w b o):jq φ' O' w' b o:=by
 unfold jq at h ⊢;cases hb:b.c with
 |fz l=>rw[hb] at h;obtain⟨arr,h1,h2,J⟩:=h;exact⟨arr,h1,h2,λj x I=>by obtain⟨a,v,c,d⟩:=J j x I;exact⟨a,v,c,hk _ _ d⟩⟩
 |mx l=>rw[hb] at h;obtain⟨arr,h1,h2,J⟩:=h;exact⟨arr,h1,h2,λj x I=>by obtain⟨a,v,c,d⟩:=J j x I;exact⟨a,v,c,hk _ _ d⟩⟩
 |mp es=>rw[hb] at h;obtain⟨e,c,h1,h2,J⟩:=h;exact⟨e,c,h1,h2,λj x I=>by obtain⟨m,a,b⟩:=J j x I;exact⟨m,a,hk _ _ b⟩⟩
 |it s p=>rw[hb] at h;exact h
theorem uZ.mono {φ φ':PM} {O O':Nat->Prop} {w w':World} (hk:∀ x v,cI φ O w x v->cI φ' O' w' x v) {c:BC} {arr:Array Value} (h:uZ φ O w c arr):uZ φ' O' w' c arr:=
 ⟨h.1,λj x I=>by obtain⟨a,v,c,d⟩:=h.2 j x I;exact⟨a,v,c,hk _ _ d⟩⟩
def ur (l:List UInt8):FV:=.raw (.string ⟨l.toArray⟩)
def Cf:List FV:=[ur [118,97,114],ur [118,111,108,97,116,105,108,101],ur [109,117,116,101,120],ur [114,119,108,111,99,107],ur [99,111,110,100],ur [102,117,116,117,114,101],ur [116,104,114,101,97,100],ur [105,102],ur [101,108,115,101],ur [119,104,105,108,101],ur [108,111,99,107],ur [114,101,97,100],ur [119,114,105,116,101],ur [116,114,97,110,115,97,99,116,105,111,110],ur [97,116,111,109,105,99],ur [119,97,105,116],ur [110,111,116,105,102,121],ur [110,111,116,105,102,121,97,108,108],ur [115,112,97,119,110],ur [106,111,105,110],ur [115,101,116],ur [103,101,116]]
def G (g:Nat):Option (List FV):=if g==0 then af Cf else ah
structure qL (φ:PM) (E:Nat->Prop) (h:HF) (w:World):Prop where
 inj:∀ i j b b' k,h i=af b->h j=af b'->φ i=af k->φ j=af k->i=j
 at_:∀ i b,h i=af b->∃ k,φ i=af k/\¬E k/\Ww φ (tot E φ h) w k b
 el:∀ k,E k->k<w.heap.size
 gl:∀ g cells,G g=af cells->mZ (tot E φ h) w (.ptr cells 0) (.pointer (af ⟨g,0,ah⟩))
structure iV (φ φ':PM) (h h':HF) (w w':World):Prop where
 sub:∀ i k,φ i=af k->φ' i=af k
 ext:Kh (own φ h) w w'
 own_:∀ k,k<w.heap.size->own φ' h' k->own φ h k
theorem iV.refl (φ:PM) (h:HF) (w:World):iV φ φ h h w w:=⟨λ_ _ h=>h,Kh.refl _ _,λ_ _ h=>h⟩
theorem iV.trans {φ φ' φ'':PM} {h h' h'':HF} {w w' w'':World} (m:iV φ φ' h h' w w') (n:iV φ' φ'' h' h'' w' w''):iV φ φ'' h h'' w w'' where
 sub:=λi k e=>n.sub i k (m.sub i k e)
 ext:=⟨n.ext.os.trans m.ext.os,n.ext.tape.trans m.ext.tape,n.ext.output.trans m.ext.output,dc m.ext.size n.ext.size,
  λk hk I=>(n.ext.blk k (dt hk m.ext.size) (λh=>I (m.own_ k hk h))).trans (m.ext.blk k hk I),
  λk hk=>(n.ext.shp k (dt hk m.ext.size)).trans (m.ext.shp k hk)⟩
 own_:=λk hk h=>m.own_ k hk (n.own_ k (dt hk m.ext.size) h)
theorem Kh.mono {O O':Nat->Prop} {w w':World} (h:Kh O w w') (I:∀ k,O k->O' k):Kh O' w w':=
 ⟨h.os,h.tape,h.output,h.size,λk hk hO=>h.blk k hk (λx=>hO (I k x)),h.shp⟩
theorem iV.keep {φ φ':PM} {h h':HF} {w w':World} (m:iV φ φ' h h' w w') {E:Nat->Prop} {x:AV} {v:Value} (r:cI φ (tot E φ h) w x v):cI φ' (tot E φ' h') w' x v:=
 r.ext m.sub (m.ext.mono λ_ h=>.inr h) λk hk I=>I.elim .inl λo=>.inr (m.own_ k hk o)
theorem iV.keepF {φ φ':PM} {h h':HF} {w w':World} (m:iV φ φ' h h' w w') {E:Nat->Prop} {x:FV} {v:Value} (r:mZ (tot E φ h) w x v):mZ (tot E φ' h') w' x v:=
 r.ext (m.ext.mono λ_ h=>.inr h) λk hk I=>I.elim .inl λo=>.inr (m.own_ k hk o)
abbrev EF:=Nat->Option AV
def MG (φ:PM) (O:Nat->Prop) (w:World) (e:EF) (a:Act):Prop:=∀ t x,e t=af x->cI φ O w x (a.tmps.getD t undef)
def B5 (e:EF) (dst:Option Nat) (x:AV):EF:=λt=>if dst=af t then af x else e t
def eL (h:HF) (wr:List Nat) (nw:HF):HF:=λi=>if i∈wr then nw i else h i
structure AL where
 val:AV
 rd:List Nat
 wr:List Nat
 nw:HF
 N:List Nat
def gG (P:Program) (o:Oper) (e:EF) (h:HF) (f:AL):Prop:=
 ∀ (φ:PM) (E:Nat->Prop) (h':HF) (w:World) (a:Act),(∀ i∈f.rd,h' i=h i)->(∀ i∈f.wr,h' i=h i)->
  (∀ t,.tmp t∈o.op.operands->∀ y,e t=af y->cI φ (tot E φ h') w y (a.tmps.getD t undef))->qL φ E h' w->(∀ n∈f.N,φ n=ah)->
  o.wp P a w (λa' w'=>∃ v φ',a'=a.put o.dst v/\iV φ φ' h' (eL h' f.wr f.nw) w w'/\(∀ i k,φ' i=af k->φ i=af k\/i∈f.N)/\
   qL φ' E (eL h' f.wr f.nw) w'/\cI φ' (tot E φ' (eL h' f.wr f.nw)) w' f.val v) (λ_ _ _=>False)
def rC:AL:=⟨.f (.raw undef),[],[],λ_=>ah,[]⟩
inductive J5 (P:Program) (ops:Array Oper) (o:Oper) (f:AL) (e:EF) (h:HF):Prop
 |run (hg:o.guard=ah) (ht:gG P o e h f)
 |runG (j t:Nat) (want:Bool) (hg:o.guard=af (j,want)) (hj:(ops[j]?).bind (·.dst)=af t) (he:e t=af (.f (.raw (.bool want)))) (ht:gG P o e h f)
 |skip (j t:Nat) (want:Bool) (hg:o.guard=af (j,want)) (hj:(ops[j]?).bind (·.dst)=af t) (v:Value) (he:e t=af (.f (.raw v))) (hv:v≠ .bool want) (hf:f=rC)
inductive zq (P:Program) (ops:Array Oper):List (Oper×AL)->EF->HF->EF->HF->Prop
 |nil (e:EF) (h:HF):zq P ops [] e h e h
 |cons {o:Oper} {f:AL} {r:List (Oper×AL)} {e e':EF} {h h':HF} (hs:J5 P ops o f e h)
   (hr:zq P ops r (B5 e o.dst f.val) (eL h f.wr f.nw) e' h'):zq P ops ((o,f)::r) e h e' h'
def Kp (S:Nat->Bool):Nat->List (Oper×AL)->EF->EF
 |_,[],e=>e
 |k,(o,f)::r,e=>Kp S (k+1) r (if S k then B5 e o.dst f.val else e)
def BK (S:Nat->Bool):Nat->List (Oper×AL)->HF->HF
 |_,[],h=>h
 |k,(_,f)::r,h=>BK S (k+1) r (if S k then eL h f.wr f.nw else h)
theorem DA {S S':Nat->Bool} {t:Nat}:∀ (l:List (Oper×AL)) (k:Nat) (e e':EF),e t=e' t->
 (∀ (j:Nat) o f,l[j]? =af (o,f)->o.dst=af t->S (k+j)=S' (k+j))->Kp S k l e t=Kp S' k l e' t
 |[],_,_,_,he,_=>he
 |(o,f)::r,k,e,e',he,I=>by
  simp only[Kp];refine DA r (k+1) _ _ ?_ (λj o f hj hd=>by have:=I (j+1) o f (by simpa using hj) hd;rwa [show k+(j+1)=k+1+j from by omega] at this);by_cases hd:o.dst=af t
  .rw[show S k=S' k from by simpa using I 0 o f rfl hd];split
   .simp[B5,hd]
   .exact he
  .split<;>split<;>simp[B5,hd,he]
theorem Dz {S S':Nat->Bool} {t:Nat}:∀ (l:List (Oper×AL)) (k:Nat) (e e':HF),e t=e' t->
 (∀ (j:Nat) o f,l[j]? =af (o,f)->t∈f.wr->S (k+j)=S' (k+j))->BK S k l e t=BK S' k l e' t
 |[],_,_,_,he,_=>he
 |(o,f)::r,k,e,e',he,I=>by
  simp only[BK];refine Dz r (k+1) _ _ ?_ (λj o f hj hd=>by have:=I (j+1) o f (by simpa using hj) hd;rwa [show k+(j+1)=k+1+j from by omega] at this);by_cases hd:t∈f.wr
  .rw[show S k=S' k from by simpa using I 0 o f rfl hd];split
   .simp[eL,hd]
   .exact he
  .split<;>split<;>simp[eL,hd,he]
theorem BU {S:Nat->Bool} {t:Nat}:∀ (l:List (Oper×AL)) (k:Nat) (e:EF),(∀ (j:Nat) o f,l[j]? =af (o,f)->o.dst=af t->S (k+j)=aj)->Kp S k l e t=e t
 |[],_,_,_=>rfl
 |(o,f)::r,k,e,I=>by
  simp only[Kp];rw[BU r (k+1) _ (λj o f hj hd=>by have:=I (j+1) o f (by simpa using hj) hd;rwa [show k+(j+1)=k+1+j from by omega] at this)];split
  .rename_i h;unfold B5;rw[aC];intro hd;have:=I 0 o f rfl hd;simp_all
  .rfl
theorem BT {S:Nat->Bool} {t:Nat}:∀ (l:List (Oper×AL)) (k:Nat) (e:HF),(∀ (j:Nat) o f,l[j]? =af (o,f)->t∈f.wr->S (k+j)=aj)->BK S k l e t=e t
 |[],_,_,_=>rfl
 |(o,f)::r,k,e,I=>by
  simp only[BK];rw[BT r (k+1) _ (λj o f hj hd=>by have:=I (j+1) o f (by simpa using hj) hd;rwa [show k+(j+1)=k+1+j from by omega] at this)];split
  .rename_i h;unfold eL;rw[aC];intro hd;have:=I 0 o f rfl hd;simp_all
  .rfl
theorem O3 {S:Nat->Bool} {t:Nat}:∀ (l:List (Oper×AL)) (k i:Nat) (e:EF) (o:Oper) (f:AL),l[i]? =af (o,f)->o.dst=af t->S (k+i)=ai->
 (∀ (j:Nat) o' f',i<j->l[j]? =af (o',f')->o'.dst=af t->S (k+j)=aj)->Kp S k l e t=af f.val
 |[],_,_,_,_,_,h,_,_,_=>by simp at h
 |(o',f')::r,k,0,e,o,f,h,hd,I,hl=>by
  simp only[qC,ak,aD] at h;obtain⟨rfl,rfl⟩:=h;simp only[Kp];rw[BU r (k+1) _ (λj o f hj hd=>by have:=hl (j+1) o f (by omega) (by simpa using hj) hd;rwa [show k+(j+1)=k+1+j from by omega] at this)];simp at I;simp[I,B5,hd]
 |(o',f')::r,k,i+1,e,o,f,h,hd,I,hl=>by
  simp only[Kp];exact O3 r (k+1) i _ o f (by simpa using h) hd (by rwa [show k+1+i=k+(i+1) from by omega])
   (λj o f hij hj hd=>by have:=hl (j+1) o f (by omega) (by simpa using hj) hd;rwa [show k+(j+1)=k+1+j from by omega] at this)
theorem O2 {S:Nat->Bool} {t:Nat}:∀ (l:List (Oper×AL)) (k i:Nat) (e:HF) (o:Oper) (f:AL),l[i]? =af (o,f)->t∈f.wr->S (k+i)=ai->
 (∀ (j:Nat) o' f',i<j->l[j]? =af (o',f')->t∈f'.wr->S (k+j)=aj)->BK S k l e t=f.nw t
 |[],_,_,_,_,_,h,_,_,_=>by simp at h
 |(o',f')::r,k,0,e,o,f,h,hd,I,hl=>by
  simp only[qC,ak,aD] at h;obtain⟨rfl,rfl⟩:=h;simp only[BK];rw[BT r (k+1) _ (λj o f hj hd=>by have:=hl (j+1) o f (by omega) (by simpa using hj) hd;rwa [show k+(j+1)=k+1+j from by omega] at this)];simp at I;simp[I,eL,hd]
 |(o',f')::r,k,i+1,e,o,f,h,hd,I,hl=>by
  simp only[BK];exact O2 r (k+1) i _ o f (by simpa using h) hd (by rwa [show k+1+i=k+(i+1) from by omega])
   (λj o f hij hj hd=>by have:=hl (j+1) o f (by omega) (by simpa using hj) hd;rwa [show k+(j+1)=k+1+j from by omega] at this)
theorem zq.step {P:Program} {ops:Array Oper}:∀ {l:List (Oper×AL)} {e e':EF} {h h':HF} (_:zq P ops l e h e' h') (k i:Nat) (o:Oper) (f:AL),l[i]? =af (o,f)->
 J5 P ops o f (Kp (λj=>decide (j<k+i)) k l e) (BK (λj=>decide (j<k+i)) k l h):=by
 intro l e e' h h' hc;induction hc with
 |nil=>intro k i o f hi;simp at hi
 |@cons o1 I r e e' h h' hs hr J=>
  intro k i o f hi;cases i with
  |zero=>
   simp only[qC,ak,aD] at hi;obtain⟨rfl,rfl⟩:=hi;have e1:Kp (λj=>decide (j<k+0)) k ((o1,I)::r) e=e:=by
    funext t;rw[BU];intro j o f _ _;simp
   have e2:BK (λj=>decide (j<k+0)) k ((o1,I)::r) h=h:=by
    funext t;rw[BT];intro j o f _ _;simp
   rw[e1,e2];exact hs
  |succ i=>
   have:=J (k+1) i o f (by simpa using hi);simp only[Kp,BK];rw[show k+(i+1)=k+1+i from by omega];simpa[show k<k+1+i from by omega] using this
theorem zq.final {P:Program} {ops:Array Oper}:∀ {l:List (Oper×AL)} {e e':EF} {h h':HF} (_:zq P ops l e h e' h') (k:Nat) (S:Nat->Bool),(∀ j,j<l.length->S (k+j)=ai)->
 Kp S k l e=e'/\BK S k l h=h':=by
 intro l e e' h h' hc;induction hc with
 |nil=>intro k S _;exact⟨rfl,rfl⟩
 |@cons o1 M r e e' h h' hs hr J=>
  intro k S I;have h0:S k=ai:=by simpa using I 0 (by simp)
  simp only[Kp,BK,h0,bC];exact J (k+1) S (λj hj=>by have:=I (j+1) (by simpa using hj);rwa [show k+(j+1)=k+1+j from by omega] at this)
theorem OU {P:Program} {o:Oper} {a:Act} {w:World} {K K':Act->World->Prop} {Q:Exit->Act->World->Prop} (h:∀ a w,K a w->K' a w)
 (hh:o.wp P a w K (λ_ _ _=>False)):o.wp P a w K' Q:=by
 unfold GW at*
 generalize (execOp a.eval o).run P w=r at*
 cases r with
 |ok n w'=>
  cases n<;>simp only[Oper.upon] at hh ⊢<;>
   first
    |exact h _ _ hh
    |exact Calls.mono hh (λe w'' he=>by
      cases e with
      |returned v=>exact h _ _ he
      |panicked c=>exact he.elim
      |outgrown=>obtain⟨_,_,h⟩:=he;exact h.elim)
    |exact Rows.mono hh (λ_ _ he=>h _ _ he)
 |halt x w'=>cases x<;>simp only[Oper.upon] at hh ⊢<;>first|exact hh.elim|exact hh
inductive Bef (ops:Array Oper):Nat->Nat->Prop
 |one {j:Nat} {o:Oper} {e:Edge} (h:ops[j]? =af o) (he:e∈o.after) (hb:zu .any e=ai):Bef ops j e.on
 |more {j i:Nat} {o:Oper} {e:Edge} (h:ops[j]? =af o) (he:e∈o.after) (hb:zu .any e=ai) (hi:Bef ops e.on i):Bef ops j i
structure NIP (ops:Array Oper) (l:List (Oper×AL)):Prop where
 edge:∀ (j:Nat) o,ops[j]? =af o->∀ e∈o.after,zu .any e=ai->e.on<j
 pair:∀ (i j:Nat) oi fi oj fj,i<j->l[i]? =af (oi,fi)->l[j]? =af (oj,fj)->Bef ops j i\/
  (oi.apart ops oj=ai/\(∀ x∈fi.wr,x∉fj.rd/\x∉fj.wr)/\(∀ x∈fj.wr,x∉fi.rd))
 names:∀ (i j:Nat) oi fi oj fj,i<j->l[i]? =af (oi,fi)->l[j]? =af (oj,fj)->∀ n∈fi.N,n∉fj.N
def EO (ops:Array Oper) (listed:Array Bool):Prop:=∀ (j:Nat) o,ops[j]? =af o->listed.getD j aj=ai->∀ e∈o.after,zu .any e=ai->listed.getD e.on aj=ai
theorem EO.bef {ops:Array Oper} {listed:Array Bool} (hc:EO ops listed) {j i:Nat} (h:Bef ops j i):listed.getD j aj=ai->listed.getD i aj=ai:=by
 induction h with
 |one h he hb=>intro hj;exact hc _ _ h hj _ he hb
 |more h he hb hi I=>intro hj;exact I (hc _ _ h hj _ he hb)
theorem WG {ops:Array Oper} {listed:Array Bool} (hc:EO ops listed) {j i:Nat} {o:Oper} (I:ops[j]? =af o) (hr:∀ e∈o.after,zu .any e=ai->listed.getD e.on aj=ai) (h:Bef ops j i):listed.getD i aj=ai:=by
 cases h with
 |one h he hb=>rw[h] at I;cases I;exact hr _ he hb
 |more h he hb hi=>rw[h] at I;cases I;exact hc.bef hi (hr _ he hb)
theorem sr {listed:Array Bool} {j:Nat} (h:listed.getD j ai=aj):listed.getD j aj=aj/\j<listed.size:=by
 rcases b7 j listed.size with h1|h1
 .simp[h1] at h ⊢;exact h
 .simp[Array.getElem?_eq_none h1] at h
def StP (φ0:PM) (E:Nat->Prop) (e0:EF) (h0:HF) (w0:World) (a0:Act) (l:List (Oper×AL)) (S:Nat->Bool) (a:Act) (w:World):Prop:=
 ∃ φ,iV φ0 φ h0 (BK S 0 l h0) w0 w/\(∀ i k,φ i=af k->φ0 i=af k\/∃ (j:Nat) (o:Oper) (f:AL),S j=ai/\l[j]? =af (o,f)/\i∈f.N)/\
  qL φ E (BK S 0 l h0) w/\MG φ (tot E φ (BK S 0 l h0)) w (Kp S 0 l e0) a/\a.defers=a0.defers/\a.tmps.size=a0.tmps.size
theorem HH {a:Act} {dst:Option Tmp} {v:Value} {t:Nat} (hd:∀ d,dst=af d->d<a.tmps.size):(a.put dst v).tmps.getD t undef=if dst=af t then v else a.tmps.getD t undef:=by
 cases dst with
 |none=>simp[MP]
 |some d=>
  by_cases h:d=t
  .subst h;simp[MP,hd d rfl]
  .simp[MP,h,pD h]
theorem Pk {a:Act} {dst:Option Tmp} {v:Value}:(a.put dst v).tmps.size=a.tmps.size:=by cases dst<;>simp[MP]
theorem HI {a:Act} {dst:Option Tmp} {v:Value}:(a.put dst v).defers=a.defers:=by cases dst<;>rfl
theorem Y1 {P:Program} {ops:Array Oper} {l:List (Oper×AL)} {e0 e':EF} {h0 h':HF} {φ0:PM} {E:Nat->Prop} {w0:World} {a0:Act}
 (hl:l.map (·.1)=ops.toList) (hc:zq P ops l e0 h0 e' h') (ni:NIP ops l) (hfr:∀ (j:Nat) o f,l[j]? =af (o,f)->∀ n∈f.N,φ0 n=ah)
 (hsz:∀ (j:Nat) o,ops[j]? =af o->∀ d,o.dst=af d->d<a0.tmps.size) {listed:Array Bool} (hcl:EO ops listed) {i:Nat} (hi:i∈GV .any ops listed) {Q:Exit->Act->World->Prop} {K:Act->World->Prop}
 (hK:∀ a w,StP φ0 E e0 h0 w0 a0 l (λj=>(listed.setIfInBounds i ai).getD j aj) a w->K a w) {a:Act} {w:World} (hst:StP φ0 E e0 h0 w0 a0 l (λj=>listed.getD j aj) a w):
 wpOp P ops Q i K a w:=by
 obtain⟨hun,o,ho,hdeps⟩:=mem_ready.1 hi;obtain⟨hnf,hlt⟩:=sr hun;have hln:∀ (j:Nat) o',ops[j]? =af o'->∃ f,l[j]? =af (o',f):=λj o' h=>by
  have h1:(l.map (·.1))[j]? =af o':=by rw[hl];simpa using h
  rw[ba] at h1;cases hj:l[j]? with
  |none=>rw[hj] at h1;cases h1
  |some p=>rw[hj] at h1;obtain⟨a,b⟩:=p;simp at h1;subst h1;exact⟨b,rfl⟩
 have hnl:∀ (j:Nat) o' f,l[j]? =af (o',f)->ops[j]? =af o':=λj o' f h=>by
  have h1:(l.map (·.1))[j]? =af o':=by rw[ba,h];rfl
  rw[hl] at h1;simpa using h1
 obtain⟨f,hf⟩:=hln i o ho;have hord:∀ (j:Nat) oj fj,j≠i->l[j]? =af (oj,fj)->(listed.getD j aj=decide (j<i))\/
  (o.apart ops oj=ai\/oj.apart ops o=ai)/\(∀ x∈f.wr,x∉fj.rd/\x∉fj.wr)/\(∀ x∈fj.wr,x∉f.rd/\x∉f.wr):=by
  intro j oj fj hji hj;rcases b7 j i with h|h
  .rcases ni.pair j i oj fj o f h hj hf with hb|⟨h1,h2,h3⟩
   .left;rw[WG hcl ho hdeps hb];simp[h]
   .right;exact⟨.inr h1,λx I=>⟨h3 x I,λU=>(h2 x U).2 I⟩,λx I=>h2 x I⟩
  .have h:i<j:=by omega
   rcases ni.pair i j o f oj fj h hf hj with hb|⟨h1,h2,h3⟩
   .left;have:listed.getD j aj=aj:=by
     cases I:listed.getD j aj with
     |false=>rfl
     |true=>have:=hcl.bef hb I;rw[hnf] at this;cases this
    rw[this];simp;omega
   .right;exact⟨.inl h1,λx I=>h2 x I,λx I=>⟨h3 x I,λU=>(h2 x U).2 I⟩⟩
 have J:∀ j,(listed.setIfInBounds i ai).getD j aj=if j=i then ai else listed.getD j aj:=λj=>by
  by_cases h:i=j
  .subst h;simp[hlt]
  .rw[getD_set_ne aj h,aC (λe=>h e.symm)]
 have hlater:∀ (j:Nat) oj fj,i<j->l[j]? =af (oj,fj)->(listed.getD j aj=aj)\/((o.apart ops oj=ai\/oj.apart ops o=ai)/\(∀ x∈f.wr,x∉fj.rd/\x∉fj.wr)):=by
  intro j oj fj hij hj;rcases hord j oj fj (by omega) hj with h|⟨h1,h2,_⟩
  .left;rw[h];simp;omega
  .right;exact⟨h1,h2⟩
 have hdd:∀ {x y:Oper},(x.apart ops y=ai\/y.apart ops x=ai)->∀ d,x.dst=af d->y.dst≠af d:=by
  intro x y h d hd he;rcases h with h|h
  .exact (Oper.apart_spec h).2.1 d hd he
  .exact (Oper.apart_spec h).2.1 d he hd
 have hlook:∀ {x y:Oper},(x.apart ops y=ai\/y.apart ops x=ai)->∀ d,y.dst=af d->d∉x.looksAt ops:=by
  intro x y h d hd;rcases h with h|h
  .exact (Oper.apart_spec h).2.2 d hd
  .exact (Oper.apart_spec h).1 d hd
 have heL:∀ t,t∈o.looksAt ops->Kp (λj=>listed.getD j aj) 0 l e0 t=Kp (λj=>decide (j<0+i)) 0 l e0 t:=λt ht=>by
  refine DA l 0 e0 e0 rfl λj oj fj hj hd=>?_
  simp only[bN];by_cases hji:j=i
  .subst hji;rw[hnf];simp
  .rcases hord j oj fj hji hj with h|⟨h,_⟩
   .exact h
   .exact cU ht (hlook h t hd)
 have hhL:∀ t,t∈f.rd\/t∈f.wr->BK (λj=>listed.getD j aj) 0 l h0 t=BK (λj=>decide (j<0+i)) 0 l h0 t:=λt ht=>by
  refine Dz l 0 h0 h0 rfl λj oj fj hj hd=>?_
  simp only[bN];by_cases hji:j=i
  .subst hji;rw[hnf];simp
  .rcases hord j oj fj hji hj with h|⟨_,_,h⟩
   .exact h
   .rcases ht with ht|ht
    .exact cU ht (h t hd).1
    .exact cU ht (h t hd).2
 have hE':∀ t,Kp (λj=>(listed.setIfInBounds i ai).getD j aj) 0 l e0 t=if o.dst=af t then af f.val else Kp (λj=>listed.getD j aj) 0 l e0 t:=λt=>by
  by_cases hd:o.dst=af t
  .rw[aF hd];refine O3 l 0 i e0 o f hf hd (by simp[J]) λj o' f' hij hj M=>?_
   simp only[bN,J,aC (show ¬j=i by omega)];rcases hlater j o' f' hij hj with h|⟨h,_⟩
   .exact h
   .exact cU M (hdd h t hd)
  .rw[aC hd];refine DA l 0 e0 e0 rfl λj oj fj hj M=>?_
   simp only[bN,J];rw[aC];intro hji;subst hji;rw[hf] at hj;cases hj;exact hd M
 have Y:BK (λj=>(listed.setIfInBounds i ai).getD j aj) 0 l h0=eL (BK (λj=>listed.getD j aj) 0 l h0) f.wr f.nw:=by
  funext t;unfold eL;by_cases hd:t∈f.wr
  .rw[aF hd];refine O2 l 0 i h0 o f hf hd (by simp[J]) λj o' f' hij hj M=>?_
   simp only[bN,J,aC (show ¬j=i by omega)];rcases hlater j o' f' hij hj with h|⟨_,h⟩
   .exact h
   .exact cU M (h t hd).2
  .rw[aC hd];refine Dz l 0 h0 h0 rfl λj oj fj hj M=>?_
   simp only[bN,J];rw[aC];intro hji;subst hji;rw[hf] at hj;cases hj;exact hd M
 obtain⟨φ,hm,hdom,hrep,henv,hdef,hsize⟩:=hst;have hfrN:∀ n∈f.N,φ n=ah:=λn hn=>by
  cases I:φ n with
  |none=>rfl
  |some k=>
   rcases hdom n k I with h|⟨j,oj,fj,hSj,hj,hnj⟩
   .rw[hfr i o f hf n hn] at h;cases h
   .have hji:j≠i:=by intro h;subst h;exact cU hSj (by simp only[hnf];simp)
    rcases b7 j i with h|h
    .exact cU hn (ni.names j i oj fj o f h hj hf n hnj)
    .exact cU hnj (ni.names i j o f oj fj (by omega) hf hj n hn)
 have hdsz:∀ d,o.dst=af d->d<a.tmps.size:=λd hd=>by rw[hsize];exact hsz i o ho d hd
 have main:∀ (v:Value) (φ':PM) (w':World),iV φ φ' (BK (λj=>listed.getD j aj) 0 l h0) (eL (BK (λj=>listed.getD j aj) 0 l h0) f.wr f.nw) w w'->
  (∀ i k,φ' i=af k->φ i=af k\/i∈f.N)->qL φ' E (eL (BK (λj=>listed.getD j aj) 0 l h0) f.wr f.nw) w'->
  cI φ' (tot E φ' (eL (BK (λj=>listed.getD j aj) 0 l h0) f.wr f.nw)) w' f.val v->K (a.put o.dst v) w':=by
  intro v φ' w' m1 d1 r1 v1;refine hK _ _ ⟨φ',?_,?_,?_,?_,?_,?_⟩
  .rw[Y];exact hm.trans m1
  .intro i' k h;rcases d1 i' k h with h|h
   .rcases hdom i' k h with h|⟨j,oj,fj,hSj,hj,hnj⟩
    .exact .inl h
    .refine .inr ⟨j,oj,fj,?_,hj,hnj⟩;show (listed.setIfInBounds i ai).getD j aj=ai;rw[J j];split
     .rfl
     .exact hSj
   .exact .inr ⟨i,o,f,(J i).trans (by simp),hf,h⟩
  .rw[Y];exact r1
  .rw[Y];intro t x I;rw[hE' t] at I;rw[HH hdsz];by_cases hd:o.dst=af t
   .rw[aF hd] at I ⊢;cases I;exact v1
   .rw[aC hd] at I ⊢;exact m1.keep (henv t x I)
  .rw[HI];exact hdef
  .rw[Pk];exact hsize
 have hstep:=hc.step 0 i o f hf;have hrun:gG P o (Kp (λj=>decide (j<0+i)) 0 l e0) (BK (λj=>decide (j<0+i)) 0 l h0) f->o.wp P a w K Q:=by
  intro ht;refine OU ?_ (ht φ E (BK (λj=>listed.getD j aj) 0 l h0) w a (λt h=>hhL t (.inl h)) (λt h=>hhL t (.inr h)) ?_ hrep hfrN)
  .rintro a' w' ⟨v,φ',rfl,m1,d1,r1,v1⟩;exact main v φ' w' m1 d1 r1 v1
  .intro t ht' y hy;refine henv t y ?_;rw[heL t (kW _ (List.mem_filterMap.2 ⟨.tmp t,by simpa using ht',rfl⟩))];exact hy
 have hyield:∀ (j t:Nat) (want b:Bool),o.guard=af (j,want)->(ops[j]?).bind (·.dst)=af t->Kp (λj=>decide (j<0+i)) 0 l e0 t=af (.f (.raw (.bool b)))->iF o (yielded ops a.tmps)=(b==want):=by
  intro j t want b hg hj he;rw[<- heL t (nj _ (by rw[hg];simp[hj]))] at he;have h1:=henv t _ he;have h2:a.tmps.getD t undef= .bool b:=by
   generalize Z:a.tmps.getD t undef=z at h1;cases h1 with
   |f h=>cases h;rfl
  have h3:a.tmps[t]? =af (.bool b):=by
   rw[gA] at h2;cases Z:a.tmps[t]? with
   |none=>rw[Z] at h2;simp[undef] at h2
   |some z=>rw[Z] at h2;simp at h2;rw[h2]
  unfold iF yielded;rw[hg];simp[hj,h3]
 unfold wpOp;simp only[ho];cases hstep with
 |run hg ht=>
  rw[aF (by unfold iF;rw[hg])];exact .inl (hrun ht)
 |runG j t want hg hj he ht=>
  rw[aF (by rw[hyield j t want want hg hj he];simp)];exact .inl (hrun ht)
 |skip j t want hg hj v he hv hf'=>
  have hnw:iF o (yielded ops a.tmps)=aj:=by
   rw[<- heL t (nj _ (by rw[hg];simp[hj]))] at he;have h1:=henv t _ he;have h2:a.tmps.getD t undef=v:=by
    generalize a.tmps.getD t undef=z at h1;cases h1 with
    |f h=>cases h;rfl
   unfold iF yielded;rw[hg];simp only[hj,aH];rw[gA] at h2;cases Z:a.tmps[t]? with
   |none=>simp
   |some z=>
    rw[Z] at h2;simp at h2;subst h2;cases z<;>simp at hv ⊢;exact hv
  rw[aC (by rw[hnw];simp)];subst hf';have hu:eL (BK (λj=>listed.getD j aj) 0 l h0) rC.wr rC.nw=BK (λj=>listed.getD j aj) 0 l h0:=by
   funext t;simp[eL,rC]
  refine main undef φ w ?_ (λ_ _ h=>.inl h) ?_ ?_
  .rw[hu];exact iV.refl _ _ _
  .rw[hu];exact hrep
  .exact .f (.raw _)
theorem XA {l:List Bool}:∀ {i:Nat},l[i]? =af aj->(l.set i ai).countP id=l.countP id+1:=by
 induction l with
 |nil=>intro i h;simp at h
 |cons b l I=>
  intro i h;cases i with
  |zero=>simp at h;subst h;simp
  |succ i=>
   simp only[List.set_cons_succ,List.countP_cons];rw[I (by simpa using h)];omega
theorem Ox {l:List Bool} (h:l.length<=l.countP id):∀ (j:Nat),j<l.length->l[j]? =af ai:=by
 have h1:l.countP id=l.length:=Nat.le_antisymm List.countP_le_length h;rw[List.countP_eq_length] at h1;intro j hj;rw[aA hj];simpa using h1 _ (uC hj)
theorem UN {ops:Array Oper} {l:List (Oper×AL)} (J:NIP ops l) {listed:Array Bool} (hs:listed.size=ops.size) (hr:GV .any ops listed=[]):
 ∀ (n j:Nat),j<n->j<ops.size->listed.getD j aj=ai:=by
 intro n;induction n with
 |zero=>intro j h;omega
 |succ n M=>
  intro j hj hjs;cases I:listed.getD j aj with
  |true=>rfl
  |false=>
   exfalso;have hmem:j∈GV .any ops listed:=by
    refine mem_ready.2 ⟨?_,ops[j],ib hjs,λe he hb=>?_⟩
    .have:j<listed.size:=by omega
     simp[this] at I ⊢;exact I
    .have h1:=J.edge j _ (ib hjs) e he hb;exact M e.on (by omega) (by omega)
   rw[hr] at hmem;cases hmem
theorem Mz {P:Program} {ops:Array Oper} {l:List (Oper×AL)} {e0 e':EF} {h0 h':HF} {φ0:PM} {E:Nat->Prop} {w0:World} {a0:Act}
 (hl:l.map (·.1)=ops.toList) (hc:zq P ops l e0 h0 e' h') (J:NIP ops l) (hfr:∀ (j:Nat) o f,l[j]? =af (o,f)->∀ n∈f.N,φ0 n=ah)
 (hsz:∀ (j:Nat) o,ops[j]? =af o->∀ d,o.dst=af d->d<a0.tmps.size) {Q:Exit->Act->World->Prop}
 (U:∀ a w,StP φ0 E e0 h0 w0 a0 l (λ_=>ai) a w->Q .normal a w):
 ∀ (fuel:Nat) (listed:Array Bool) (a:Act) (w:World),listed.size=ops.size->EO ops listed->ops.size<=fuel+listed.toList.countP id->
  StP φ0 E e0 h0 w0 a0 l (λj=>listed.getD j aj) a w->wpAny P .any ops Q fuel listed a w:=by
 have hlen:l.length=ops.size:=by have:=gE al hl;simpa using this
 have fin:∀ (listed:Array Bool) (a:Act) (w:World),(∀ j,j<ops.size->listed.getD j aj=ai)->StP φ0 E e0 h0 w0 a0 l (λj=>listed.getD j aj) a w->Q .normal a w:=by
  intro listed a w hall hst;refine U a w ?_;have h1:=hc.final 0 (λj=>listed.getD j aj) (λj hj=>by simp only[bN];exact hall j (by omega));have h2:=hc.final 0 (λ_=>ai) (λ_ _=>rfl);unfold StP at hst ⊢;rw[h1.1,h1.2] at hst;rw[h2.1,h2.2];obtain⟨φ,m,d,r⟩:=hst;refine ⟨φ,m,λi k h=>?_,r⟩;rcases d i k h with h|⟨j,o,f,_,hj,hn⟩
  .exact .inl h
  .exact .inr ⟨j,o,f,rfl,hj,hn⟩
 intro fuel;induction fuel with
 |zero=>
  intro listed a w hs hcl hcnt hst;have hall:∀ j,j<ops.size->listed.getD j aj=ai:=λj hj=>by
   have:=Ox (l:=listed.toList) (by simp only[ip];omega) j (by simp only[ip];omega);rw[cF] at this;rw[gA,this];rfl
  refine ⟨?_,fin listed a w hall hst⟩;cases hr:GV .any ops listed with
  |nil=>rfl
  |cons i r=>
   have hi:i∈GV .any ops listed:=by rw[hr];simp
   obtain⟨hun,o,I,_⟩:=mem_ready.1 hi;have hnf:=(sr hun).1;rw[hall i (cC.1 I).1] at hnf;cases hnf
 |succ fuel M=>
  intro listed a w hs hcl hcnt hst;refine ⟨λhr=>fin listed a w (λj hj=>UN J hs hr (j+1) j (by omega) hj) hst,λi hi=>?_⟩;obtain⟨hun,o,I,hdeps⟩:=mem_ready.1 hi;obtain⟨hnf,hlt⟩:=sr hun;refine Y1 hl hc J hfr hsz hcl hi (λa' w' h=>M _ a' w' ?_ ?_ ?_ h) hst
  .simpa using hs
  .intro j oj hoj hj e he hb;by_cases hji:i=j
   .subst hji;rw[I] at hoj;cases hoj;exact getD_set_true (hdeps e he hb)
   .rw[getD_set_ne aj hji] at hj;exact getD_set_true (hcl j oj hoj hj e he hb)
  .have h1:listed.toList[i]? =af aj:=by
    rw[cF,ib hlt];simp[hlt] at hnf;rw[hnf]
   rw[Array.toList_setIfInBounds,XA h1];omega
def alz (φ0:PM) (E:Nat->Prop) (e':EF) (h0 h':HF) (N:List Nat) (w0:World) (a0:Act) (a:Act) (w:World):Prop:=
 ∃ φ,iV φ0 φ h0 h' w0 w/\(∀ i k,φ i=af k->φ0 i=af k\/i∈N)/\qL φ E h' w/\MG φ (tot E φ h') w e' a/\a.defers=a0.defers/\a.tmps.size=a0.tmps.size
theorem iV.drew {φ:PM} {h:HF} (w:World):iV φ φ h h w {w with drawn:=w.drawn+1}:=
 ⟨λ_ _ h=>h,⟨rfl,rfl,rfl,bV _,λ_ _ _=>rfl,λ_ _=>rfl⟩,λ_ _ h=>h⟩
theorem qL.moved {φ:PM} {E:Nat->Prop} {h:HF} {w w':World} (r:qL φ E h w) (m:iV φ φ h h w w') (hk:∀ k,own φ h k->w'.heap[k]? =w.heap[k]?):qL φ E h w':=
 ⟨r.inj,λi b hb=>by
   obtain⟨k,h1,h2,o,J,I⟩:=r.at_ i b hb;exact⟨k,h1,h2,o,by rw[hk k ⟨i,b,hb,h1⟩];exact J,I.mono λ_ _ h=>m.keep h⟩,λk hk=>dt (r.el k hk) m.ext.size,
   λg cells hg=>m.keepF (r.gl g cells hg)⟩
theorem Ph {P:Program} {ops:Array Oper} {l:List (Oper×AL)} {e0 e':EF} {h0 h':HF} {φ0:PM} {E:Nat->Prop} {w0:World} {a0:Act} {id:Nat} {draw:Bool}
 (hm:P.follows .mixedOrders=ai) (hl:l.map (·.1)=ops.toList) (hc:zq P ops l e0 h0 e' h') (I:NIP ops l) (hfr:∀ n∈l.flatMap (λp=>p.2.N),φ0 n=ah)
 (hsz:∀ (j:Nat) o,ops[j]? =af o->∀ d,o.dst=af d->d<a0.tmps.size) (hrep:qL φ0 E h0 w0) (henv:MG φ0 (tot E φ0 h0) w0 e0 a0) {Q:Exit->Act->World->Prop}
 (Y:∀ a w,alz φ0 E e' h0 h' (l.flatMap (λp=>p.2.N)) w0 a0 a w->Q .normal a w):(Code.region id ops draw).wp P Q a0 w0:=by
 have hfr':∀ (j:Nat) o f,l[j]? =af (o,f)->∀ n∈f.N,φ0 n=ah:=λj o f hj n hn=>hfr n (uA.2 ⟨(o,f),a_ hj,hn⟩)
 have fin:∀ a w,StP φ0 E e0 h0 w0 a0 l (λ_=>ai) a w->Q .normal a w:=by
  rintro a w ⟨φ,m,d,r,en,Z,sz⟩;have h2:=hc.final 0 (λ_=>ai) (λ_ _=>rfl);rw[h2.2] at m r en;rw[h2.1] at en;refine Y a w ⟨φ,m,λi k h=>?_,r,en,Z,sz⟩;rcases d i k h with h|⟨j,o,f,_,hj,hn⟩
  .exact .inl h
  .exact .inr (uA.2 ⟨(o,f),a_ hj,hn⟩)
 have st0:∀ (w:World),iV φ0 φ0 h0 h0 w0 w->qL φ0 E h0 w->StP φ0 E e0 h0 w0 a0 l (λj=>(oh ops.size aj).getD j aj) a0 w:=by
  intro w m r;have e1:(λj=>(oh ops.size aj).getD j aj)=λ_=>aj:=by
   funext j;rw[gA,Array.getElem?_replicate];split<;>rfl
  rw[e1];have e2:Kp (λ_=>aj) 0 l e0=e0:=by funext t;rw[BU];intros;rfl
  have e3:BK (λ_=>aj) 0 l h0=h0:=by funext t;rw[BT];intros;rfl
  refine ⟨φ0,by rw[e3];exact m,λ_ _ h=>.inl h,by rw[e3];exact r,?_,rfl,rfl⟩;rw[e2,e3];exact λt x U=>m.keep (henv t x U)
 have cl0:EO ops (oh ops.size aj):=by
  intro j o ho hj;rw[gA,Array.getElem?_replicate] at hj;split at hj<;>simp at hj
 cases draw with
 |true=>
  refine wp_region_any hm ?_;exact Mz hl hc I hfr' hsz fin ops.size _ a0 _ (by simp) cl0 (by omega) (st0 _ (iV.drew w0) (hrep.moved (iV.drew w0) λ_ _=>rfl))
 |false=>
  have hany:=Mz (E:=E) (w0:=w0) hl hc I hfr' hsz fin ops.size _ a0 w0 (by simp) cl0 (by omega) (st0 _ (iV.refl _ _ _) hrep);refine wp_region ?_;have key:∀ (m k:Nat) (listed:Array Bool) (a:Act) (w:World),k+m=ops.size->listed.size=ops.size->(∀ j,j<k->listed.getD j aj=ai)->(∀ j,k<=j->j<ops.size->listed.getD j ai=aj)->
   wpAny P .any ops Q m listed a w->wpOps P ops Q (List.range' k m) a w:=by
   intro m;induction m with
   |zero=>intro k listed a w hk hs h1 h2 h;simpa[wpOps] using h.2
   |succ m M=>
    intro k listed a w hk hs h1 h2 h;rw[List.range'_succ,wpOps_cons];have hkr:k∈GV .any ops listed:=by
     refine mem_ready.2 ⟨h2 k (bV _) (by omega),ops[k]'(by omega),ib (by omega),λe he hb=>?_⟩;exact h1 _ (I.edge k _ (ib (by omega)) e he hb)
    refine wpOp_mono (λa' w' h'=>M (k+1) (listed.setIfInBounds k ai) a' w' (by omega) (by simpa using hs) ?_ ?_ h') (h.2 k hkr)
    .intro j hj;by_cases hjk:k=j
     .subst hjk;simp[show k<listed.size by omega]
     .rw[getD_set_ne aj hjk];exact h1 j (by omega)
    .intro j hj J;rw[getD_set_ne ai (by omega)];exact h2 j (by omega) J
  have:=key ops.size 0 (oh ops.size aj) a0 w0 (by omega) (by simp) (by intro j hj;omega) (by
   intro j _ hj;rw[gA,Array.getElem?_replicate,aF hj];rfl) hany
  rwa [List.range_eq_range']
inductive PT (α:Type) where
 |leaf
 |node (v:Option α) (l r:PT α)
namespace PT
variable {α:Type}
def get:PT α->Nat->Option α
 |leaf,_=>ah
 |node v l r,n=>match n with
  |0=>v
  |m+1=>if aB (m%2) 0 then get l (m/2) else get r (m/2)
def M4:Nat->PT α->Nat->Option α->PT α
 |0,t,_,_=>t
 |k+1,t,n,x=>match t with
  |leaf=>(match n with
   |0=>node x leaf leaf
   |m+1=>if aB (m%2) 0 then node ah (M4 k leaf (m/2) x) leaf else node ah leaf (M4 k leaf (m/2) x))
  |node v l r=>(match n with
   |0=>node x l r
   |m+1=>if aB (m%2) 0 then node v (M4 k l (m/2) x) r else node v l (M4 k r (m/2) x))
def set (t:PT α) (n:Nat) (x:Option α):PT α:=M4 (n+1) t n x
theorem yJ:∀ (k:Nat) (t:PT α) (n:Nat) (x:Option α),n<k->∀ i,(M4 k t n x).get i=if i=n then x else t.get i
 |0,_,_,_,h,_=>cU h (wK _)
 |k+1,t,n,x,h,i=>by
  cases n with
  |zero=>
   cases t<;>cases i<;>simp[M4,get]
  |succ m=>
   have hm:m/2<k:=by have:=Nat.div_le_self m 2;omega
   cases t with
   |leaf=>
    simp only[M4];cases hb:aB (m%2) 0 with
    |true=>
     have J:m%2=0:=aw hb;simp only[bC];cases i with
     |zero=>simp[get]
     |succ j=>
      simp only[get];cases hj:aB (j%2) 0 with
      |true=>
       have I:j%2=0:=aw hj;simp only[bC];rw[yJ k _ _ _ hm];by_cases he:j/2=m/2
       .rw[aF he,aF (by omega)]
       .rw[aC he,aC (by omega)];rfl
      |false=>
       have I:¬j%2=0:=hY hj;simp only[ct,dV];rw[aC (by omega)]
    |false=>
     have J:¬m%2=0:=hY hb;simp only[ct,dV];cases i with
     |zero=>simp[get]
     |succ j=>
      simp only[get];cases hj:aB (j%2) 0 with
      |true=>
       have I:j%2=0:=aw hj;simp only[bC];rw[aC (by omega)]
      |false=>
       have I:¬j%2=0:=hY hj;simp only[ct,dV];rw[yJ k _ _ _ hm];by_cases he:j/2=m/2
       .rw[aF he,aF (by omega)]
       .rw[aC he,aC (by omega)];rfl
   |node v l r=>
    simp only[M4];cases hb:aB (m%2) 0 with
    |true=>
     have J:m%2=0:=aw hb;simp only[bC];cases i with
     |zero=>simp[get]
     |succ j=>
      simp only[get];cases hj:aB (j%2) 0 with
      |true=>
       have I:j%2=0:=aw hj;simp only[bC];rw[yJ k _ _ _ hm];by_cases he:j/2=m/2
       .rw[aF he,aF (by omega)]
       .rw[aC he,aC (by omega)]
      |false=>
       have I:¬j%2=0:=hY hj;simp only[ct,dV];rw[aC (by omega)]
    |false=>
     have J:¬m%2=0:=hY hb;simp only[ct,dV];cases i with
     |zero=>simp[get]
     |succ j=>
      simp only[get];cases hj:aB (j%2) 0 with
      |true=>
       have I:j%2=0:=aw hj;simp only[bC];rw[aC (by omega)]
      |false=>
       have I:¬j%2=0:=hY hj;simp only[ct,dV];rw[yJ k _ _ _ hm];by_cases he:j/2=m/2
       .rw[aF he,aF (by omega)]
       .rw[aC he,aC (by omega)]
theorem get_set (t:PT α) (n:Nat) (x:Option α) (i:Nat):(t.set n x).get i=if i=n then x else t.get i:=yJ (n+1) t n x (by omega) i
def mask {β:Type}:PT α->PT β->PT α
 |leaf,_=>leaf
 |node _ _ _,leaf=>leaf
 |node v l r,node u J I=>node (match u with|some _=>v|none=>ah) (mask l J) (mask r I)
def mk:Option α->PT α->PT α->PT α
 |none,leaf,leaf=>leaf
 |v,l,r=>node v l r
def only (m:Nat):Nat->Nat->PT α->PT α
 |_,_,leaf=>leaf
 |a,b,node v l r=>mk (if aN m b then v else ah) (only m (2*a) (a+b) l) (only m (2*a) (2*a+b) r)
def exc (m:Nat):Nat->Nat->PT α->PT α
 |_,_,leaf=>leaf
 |a,b,node v l r=>mk (if aN m b then ah else v) (exc m (2*a) (a+b) l) (exc m (2*a) (2*a+b) r)
def merge (m:Nat):Nat->Nat->PT α->PT α->PT α
 |a,b,leaf,t=>only m a b t
 |a,b,node v l r,leaf=>exc m a b (node v l r)
 |a,b,node v l r,node I M J=>mk (if aN m b then I else v) (merge m (2*a) (a+b) l M) (merge m (2*a) (2*a+b) r J)
def all (p:Nat->α->Bool):Nat->Nat->PT α->Bool
 |_,_,leaf=>ai
 |a,b,node v l r=>(match v with|some x=>p b x|none=>ai)&&all p (2*a) (a+b) l&&all p (2*a) (2*a+b) r
theorem get_all (p:Nat->α->Bool):∀ (t:PT α) (a b i:Nat) (x:α),all p a b t=ai->t.get i=af x->p (a*i+b) x=ai
 |leaf,_,_,_,_,_,h=>by simp[get] at h
 |node v l r,a,b,0,x,h,I=>by
  simp only[get] at I;subst I;simp only[all,av] at h;rw[Nat.mul_zero,bN];exact h.1.1
 |node v l r,a,b,j+1,x,h,I=>by
  simp only[all,av] at h;simp only[get] at I;cases hj:aB (j%2) 0 with
  |true=>
   have J:j%2=0:=aw hj;simp only[hj,bC] at I;have key:=get_all p l _ _ _ x h.1.2 I;have:2*a*(j/2)+(a+b)=a*(j+1)+b:=by
    have e:j=2*(j/2):=by omega
    calc 2*a*(j/2)+(a+b)=a*(2*(j/2))+a+b:=by rw[GZ 2 a,Nat.mul_assoc];omega
     _=a*(j+1)+b:=by rw[<- e,Nat.mul_add];omega
   rw[this] at key;exact key
  |false=>
   have J:¬j%2=0:=hY hj;simp only[hj,ct,dV] at I;have key:=get_all p r _ _ _ x h.2 I;have:2*a*(j/2)+(2*a+b)=a*(j+1)+b:=by
    have e:j=2*(j/2)+1:=by omega
    have h2:a*(j+1)=a*(2*(j/2))+2*a:=by
     calc a*(j+1)=a*(2*(j/2)+2):=by rw[show j+1=2*(j/2)+2 from by omega]
      _=a*(2*(j/2))+2*a:=by rw[Nat.mul_add];omega
    have M:2*a*(j/2)=a*(2*(j/2)):=by rw[GZ 2 a,Nat.mul_assoc]
    omega
   rw[this] at key;exact key
def dom:Nat->Nat->PT α->Nat->Nat
 |_,_,leaf,acc=>acc
 |a,b,node v l r,acc=>dom (2*a) (a+b) l (dom (2*a) (2*a+b) r (match v with|some _=>acc|||(1<<<b)|none=>acc))
def emp:PT α:=leaf
end PT
abbrev zo:=PT AV
abbrev nQ:=PT wG
abbrev NW:=List (Nat×wG)
def zo.put (e:zo):Option Nat->AV->zo
 |none,_=>e
 |some d,x=>e.set d (af x)
def iZ:NW->HF
 |[],_=>ah
 |(s,x)::r,t=>if aB s t then af x else iZ r t
theorem YS (e:zo) (d:Option Nat) (x:AV):B5 e.get d x=(e.put d x).get:=by
 funext t;cases d with
 |none=>simp[B5,zo.put]
 |some d=>
  simp only[B5,zo.put,PT.get_set,ak];by_cases h:d=t
  .simp[h]
  .rw[aC h,aC (λe=>h e.symm)]
def Hi (acc:List Nat) (s:Nat) (e:Edge):Nat:=if zu .any e then (s|||2^e.on)|||acc.getD e.on 0 else s
def JV:List Oper->List Nat->List Nat
 |[],acc=>acc
 |o::r,acc=>JV r (acc++[o.after.toList.foldl (Hi acc) 0])
theorem JW {ops:Array Oper} {o:Oper} {k:Nat} {acc:List Nat} (J:ops[k]? =af o) (M:∀ (j:Nat) B,acc[j]? =af B->∀ i,B.testBit i=ai->Bef ops j i):
 ∀ (es:List Edge) (s:Nat),(∀ e∈es,e∈o.after)->(∀ i,s.testBit i=ai->Bef ops k i)->∀ i,(es.foldl (Hi acc) s).testBit i=ai->Bef ops k i
 |[],s,_,hs,i,hi=>hs i hi
 |e::r,s,he,hs,i,hi=>by
  refine JW J M r (Hi acc s e) (λe' h'=>he e' (cL _ h')) (λi hi=>?_) i hi;unfold Hi at hi;split at hi
  .rename_i hb;rw[bn,bn,iP,iP] at hi;rcases hi with (hi|hi)|hi
   .exact hs i hi
   .rw[Nat.testBit_two_pow] at hi;have:e.on=i:=by simpa using hi
    subst this;exact .one J (he e (dv ..)) hb
   .refine .more J (he e (dv ..)) hb ?_;rw[ay] at hi;cases I:acc[e.on]? with
    |none=>rw[I] at hi;simp at hi
    |some C=>rw[I] at hi;exact M _ C I i hi
  .exact hs i hi
theorem My {ops:Array Oper}:∀ (rest:List Oper) (acc:List Nat),(∀ (j:Nat),∀ o,rest[j]? =af o->ops[acc.length+j]? =af o)->
 (∀ (j:Nat) B,acc[j]? =af B->∀ i,B.testBit i=ai->Bef ops j i)->∀ (j:Nat) B,(JV rest acc)[j]? =af B->∀ i,B.testBit i=ai->Bef ops j i
 |[],acc,_,I=>I
 |o::r,acc,J,I=>by
  refine My r _ (λj o' hj=>?_) ?_
  .rw[bu,gm,show acc.length+1+j=acc.length+(j+1) from by omega];exact J (j+1) o' (by simpa using hj)
  .intro j B hj i hi;rcases b7 j acc.length with h|h
   .rw[bG h] at hj;exact I j B hj i hi
   .rw[bT h] at hj;have M:j-acc.length=0:=by
     rcases Kl (j-acc.length) with h0|h0
     .exact h0
     .rw[bO (by simp;omega)] at hj;cases hj
    have hjl:j=acc.length:=by omega
    subst hjl;simp at hj;subst hj;have hoo:ops[acc.length]? =af o:=by simpa using J 0 o rfl
    rw[<- Array.foldl_toList] at hi;exact JW hoo I _ 0 (λe he=>by simpa using he) (λi hi=>by simp at hi) i hi
inductive X3 where
 |mv (x:Operand)
 |pick (c a b:Operand)
 |alloc (ty:TypeId) (z:List Value)
 |box (ty:TypeId) (x:Operand)
 |build (z:List Value) (parts:List (Nat×Nat×Operand))
 |bsl (ty:TypeId) (sz len:Nat) (z:List Value) (parts:List (Nat×Nat×Operand))
 |load (sz:Nat) (ag:Bool) (x:Operand)
 |store (sz:Nat) (x v:Operand)
 |nilc (x:Operand)
 |bin (op:BinOp) (x y:Operand)
 |eqs (neg:Bool) (ds:List TypeDesc) (x y:Operand)
 |isnil (neg:Bool) (x:Operand)
 |eqb (neg:Bool) (x y:Operand)
 |not (x:Operand)
 |conv (k:IntKind) (x:Operand)
 |mksl (ty:TypeId) (sz bytes:Nat) (z:List Value) (l c:Operand)
 |slc (sz:Nat) (x:Operand) (lo hi mx:Option Operand)
 |fad (off:Nat) (x:Operand)
 |fld (off sz:Nat) (ag:Bool) (x:Operand)
 |iad (sz:Nat) (x i:Operand)
 |iada (n sz:Nat) (x i:Operand)
 |idx (n sz:Nat) (ag:Bool) (x i:Operand)
 |ext (x:Operand) (i:Nat)
 |len (x:Operand)
 |lens (x:Operand)
 |lenm (x:Operand)
 |max (x y:Operand)
 |min (x y:Operand)
 |sidx (x i:Operand)
 |app (ty:TypeId) (sz bytes:Nat) (s x:Operand)
 |copy (sz:Nat) (d x:Operand)
 |clr (sz:Nat) (z:List Value) (x:Operand)
 |mkf (f:FuncId) (caps:List Operand)
 |mkm
 |lku (str ok:Bool) (z:Value) (x k:Operand)
 |mup (str:Bool) (x k v:Operand)
 |rng (x:Operand)
 |nxt (x:Operand)
 |bad
inductive SI where
 |op (s:X3)
 |call (f:FuncId) (args:List Operand)
 |callv (x:Operand) (args:List Operand)
def WR (t:Nat):List Nat->Bool
 |[]=>aj
 |x::r=>aB x t||WR t r
def JQ:List Value->Bool
 |[]=>ai
 |v::r=>v.oneCell'&&JQ r
def Ev:Value->AV
 |.agg vs=>if JQ vs.toList then .agg (vs.toList.map λv=>.f (.raw v)) else .f (.raw (.agg vs))
 |v=>.f (.raw v)
def mw (e:zo):Operand->Option AV
 |.tmp t=>e.get t
 |.const v=>af (Ev v)
 |.func g=>af (.clo g [])
 |.global g=>match G g with|some cells=>af (.f (.ptr cells 0))|none=>ah
def VV (e:zo):List Operand->Option (List AV)
 |[]=>af []
 |x::xs=>match mw e x with|some y=>(match VV e xs with|some I=>af (y::I)|none=>ah)|none=>ah
structure BG where
 val:AV
 rd:List Nat
 wr:List Nat
 nw:NW
 N:List Nat
def BG.eff (r:BG):AL:=⟨r.val,r.rd,r.wr,iZ r.nw,r.N⟩
def rv (x:AV):Option BG:=af ⟨x,[],[],[],[]⟩
def raw (v:Value):AV:=.f (.raw v)
def pkV (ok:Bool) (v:AV) (b:Bool):AV:=match ok with|true=>.tup [v,raw (.bool b)]|false=>v
def xv:List AV->Option (List FV)
 |[]=>af []
 |.f x::r=>match xv r with|some l=>af (x::l)|none=>ah
 |_::_=>ah
def pd (l:List AV):BC:=match xv l with|some fs=>.fz fs|none=>.mx l
def LU (l:List AV):AV:=match xv l with|some fs=>.f (.agg fs)|none=>.agg l
def splice {α:Type} (l:List α) (off:Nat) (vs:List α):List α:=l.take off++vs++l.drop (off+vs.length)
def BC.toMx:BC->List AV
 |.fz l=>l.map .f
 |.mx l=>l
 |_=>[]
def gB:List AV->Bool
 |[]=>ai
 |x::r=>x.isCell&&gB r
def BC.put (c:BC) (off:Nat) (vs:List AV):Option BC:=
 if c.isCells&&eB (off+vs.length) c.len&&gB vs then
  match c,xv vs with
  |.fz l,af I=>af (.fz (splice l off I))
  |c,_=>af (.mx (splice c.toMx off vs))
 else ah
def BC.sub? (c:BC) (off sz:Nat):Bool->Option AV
 |false=>match sz with|1=>c.get off|_=>ah
 |true=>match c with
  |.fz l=>if eB (off+sz) l.length then af (.f (.agg ((l.drop off).take sz))) else ah
  |.mx l=>if eB (off+sz) l.length then af (.agg ((l.drop off).take sz)) else ah
  |_=>ah
def AV.cs:AV->List AV
 |.agg l=>l
 |.f (.agg l)=>l.map .f
 |x=>[x]
def Dj (h:nQ) (sz:Nat) (ag:Bool):AV->Option BG
 |.ptr id off=>match h.get id with
  |some b=>(match b.c.sub? off sz ag with|some v=>af ⟨v,[id],[],[],[]⟩|none=>ah)
  |none=>ah
 |.f (.ptr cells off)=>(match (BC.fz cells).sub? off sz ag with|some v=>rv v|none=>ah)
 |_=>ah
def JX (h:nQ) (sz:Nat) (v:AV):AV->Option BG
 |.ptr id off=>match h.get id with
  |some b=>if v.cs.length==sz then (match b.c.put off v.cs with|some c=>af ⟨raw undef,[id],[id],[(id,⟨b.ty,c⟩)],[]⟩|none=>ah) else ah
  |none=>ah
 |_=>ah
def yP (cells:List AV) (e:zo):List (Nat×Nat×Operand)->Option (List AV)
 |[]=>af cells
 |(off,sz,x)::r=>match mw e x with
  |some v=>if v.cs.length==sz&&eB (off+sz) cells.length&&gB v.cs then yP (splice cells off v.cs) e r else ah
  |none=>ah
def cV (a b:Int):Bool:=decide (a<=b)
def fP (a b:Int):Bool:=decide (a<b)
def LC (k:IntKind) (n:Int):Int:=
 match k with
 |.i64=>if cV (-9223372036854775808) n&&cV n 9223372036854775807 then n else oI .i64 n
 |.u8=>if cV 0 n&&cV n 255 then n else oI .u8 n
 |k=>oI k n
def nok:Int->Bool
 |.ofNat k=>aB k k
 |.negSucc k=>aB k k
theorem aj7 (n:Int):nok n=ai:=by cases n<;>exact rA _
def bl (k:IntKind) (n:Int):Int:=bif nok n then LC k n else 0
theorem G0 (k:IntKind) (n:Int):bl k n=LC k n:=by unfold bl;rw[aj7];rfl
def rL (a b:ByteArray):Bool:=a.data.toList==b.data.toList
def uu (op:BinOp):Value->Value->Option Value
 |.int k a,.int k' b=>if k==k' then
   match op with
   |.add=>af (.int k (bl k (a+b)))
   |.sub=>af (.int k (bl k (a-b)))
   |.mul=>af (.int k (bl k (a*b)))
   |.rem=>if b==0 then ah else af (.int k (a.tmod b))
   |.quo=>if b==0 then ah else af (.int k (bl k (a.tdiv b)))
   |.eql=>af (.bool (a==b))
   |.neq=>af (.bool (a !=b))
   |.lss=>af (.bool (fP a b))
   |.leq=>af (.bool (cV a b))
   |.gtr=>af (.bool (fP b a))
   |.geq=>af (.bool (cV b a))
   |_=>ah
  else ah
 |.string a,.string b=>match op with
   |.eql=>af (.bool (rL a b))
   |.neq=>af (.bool !(rL a b))
   |_=>ah
 |_,_=>ah
def xj:TypeDesc->FV->FV->Option Bool
 |.int _,.raw (.int k a),.raw (.int k' b)=>if k==k' then af (a==b) else ah
 |.bool,.raw (.bool a),.raw (.bool b)=>af (a==b)
 |.string,.raw (.string a),.raw (.string b)=>af (rL a b)
 |_,_,_=>ah
def oO:List TypeDesc->List FV->List FV->Option Bool
 |[],[],[]=>af ai
 |d::ds,x::xs,y::I=>match xj d x y with
  |some ai=>oO ds xs I
  |some aj=>af aj
  |none=>ah
 |_,_,_=>ah
def AV.row? (h:nQ) (sz:Nat):AV->Option (List AV×Nat×List Nat)
 |.f (.sl cells n)=>if eB (n*sz) cells.length then af ((cells.take (n*sz)).map .f,n,[]) else ah
 |.f (.raw (.slice ah 0 0))=>af ([],0,[])
 |.emp=>af ([],0,[])
 |.row id sz' n=>if sz'==sz then (match h.get id with|some b=>if b.c.isCells&&eB (n*sz) b.c.len then af (b.c.toMx.take (n*sz),n,[id]) else ah|none=>ah) else ah
 |.sl id off n=>match h.get id with|some b=>if b.c.isCells&&eB (off+n*sz) b.c.len then af ((b.c.toMx.drop off).take (n*sz),n,[id]) else ah|none=>ah
 |_=>ah
def AV.slen:AV->Option Nat
 |.f (.sl _ n)=>af n
 |.f (.raw (.slice _ n _))=>af n
 |.emp=>af 0
 |.row _ _ n=>af n
 |.sl _ _ n=>af n
 |_=>ah
def bc (n bytes:Nat):Bool:=eB n 1099511627776&&eB (n*bytes) 1099511627776
def repl (z:List Value):Nat->List FV
 |0=>[]
 |n+1=>z.map .raw++repl z n
def zI:Value->Bool
 |.slice ah 0 0=>ai
 |_=>aj
def If:AV->Bool
 |.emp=>ai
 |.f (.raw v)=>zI v
 |_=>aj
def sT (k:Value):List (Value×AV)->Option (Option AV)
 |[]=>af ah
 |(k',v)::r=>match uu .eql k k' with
  |some (.bool ai)=>af (af v)
  |some (.bool aj)=>sT k r
  |_=>ah
def yA (k:Value) (v:AV):List (Value×AV)->Option (List (Value×AV))
 |[]=>af [(k,v)]
 |(k',I)::r=>match uu .eql k k' with
  |some (.bool ai)=>af ((k,v)::r)
  |some (.bool aj)=>(match yA k v r with|some J=>af ((k',I)::J)|none=>ah)
  |_=>ah
def yC:Bool->Value->Bool
 |false,.int _ _=>ai
 |true,.string _=>ai
 |_,_=>aj
def eH (s:X3) (e:zo) (h:nQ) (nx:Nat):Option BG:=
 match s with
 |.mv x=>match mw e x with|some v=>rv v|none=>ah
 |.pick c a b=>match mw e c with
  |some (.f (.raw (.bool t)))=>(match mw e (if t then a else b) with|some v=>rv v|none=>ah)
  |_=>ah
 |.alloc ty z=>af ⟨.ptr nx 0,[],[nx],[(nx,⟨ty,.fz (z.map .raw)⟩)],[nx]⟩
 |.box ty x=>match mw e x with
  |some v=>if gB v.cs then af ⟨.ptr nx 0,[],[nx],[(nx,⟨ty,pd v.cs⟩)],[nx]⟩ else ah
  |none=>ah
 |.build z parts=>match yP (z.map raw) e parts with|some cs=>rv (LU cs)|none=>ah
 |.bsl ty sz len z parts=>match yP ((repl z len).map .f) e parts with
  |some cs=>af ⟨if len=0 then .emp else .row nx sz len,[],[nx],[(nx,⟨ty,pd cs⟩)],[nx]⟩
  |none=>ah
 |.load sz ag x=>match mw e x with|some p=>Dj h sz ag p|none=>ah
 |.store sz x v=>match mw e x,mw e v with|some p,af y=>JX h sz y p|_,_=>ah
 |.nilc x=>match mw e x with
  |some (.ptr id off)=>rv (.ptr id off)
  |some (.f (.ptr cells off))=>rv (.f (.ptr cells off))
  |some (.clo g cap)=>rv (.clo g cap)
  |_=>ah
 |.bin op x y=>match mw e x,mw e y with
  |some (.f (.raw u)),af (.f (.raw v))=>(match uu op u v with|some r=>rv (raw r)|none=>ah)
  |_,_=>ah
 |.eqs neg ds x y=>match mw e x,mw e y with
  |some (.f (.agg a)),af (.f (.agg b))=>(match oO ds a b with|some r=>rv (raw (.bool (r !=neg)))|none=>ah)
  |_,_=>ah
 |.eqb neg x y=>match mw e x,mw e y with
  |some (.f (.raw (.bool a))),af (.f (.raw (.bool b)))=>rv (raw (.bool ((a==b) !=neg)))
  |_,_=>ah
 |.isnil neg x=>match mw e x with
  |some (.row _ _ _)=>rv (raw (.bool neg))
  |some (.sl _ _ _)=>rv (raw (.bool neg))
  |some (.f (.sl _ (_+1)))=>rv (raw (.bool neg))
  |some (.f (.sl _ 0))=>rv .anyb
  |some .emp=>rv .anyb
  |some (.f (.raw v))=>if zI v then rv (raw (.bool !neg)) else ah
  |_=>ah
 |.not x=>match mw e x with|some (.f (.raw (.bool b)))=>rv (raw (.bool !b))|_=>ah
 |.conv k x=>match mw e x with|some (.f (.raw (.int _ n)))=>rv (raw (.int k (bl k n)))|_=>ah
 |.mksl ty sz bytes z l c=>match mw e l,mw e c with
  |some (.f (.raw (.int _ a))),af (.f (.raw (.int _ b)))=>
   if cV 0 a&&cV a b&&bc b.toNat bytes then af ⟨.row nx sz a.toNat,[],[nx],[(nx,⟨ty,.fz (repl z a.toNat)⟩)],[nx]⟩ else ah
  |_,_=>ah
 |.slc sz x lo hi mx=>match mw e x with
  |some v=>match lo,hi,mx with
   |none,af (.const (.int _ 0)),af (.const (.int _ 0))=>if v.slen.isSome then rv .emp else ah
   |none,af b,ah=>match v,mw e b with
    |.row id sz' n,af (.f (.raw (.int _ j)))=>if sz'==sz&&cV 0 j&&cV j n then (match h.get id with
     |some blk=>if blk.c.isCells&&eB (n*sz) blk.c.len then af ⟨.row nx sz j.toNat,[id],[nx,id],[(nx,⟨blk.ty,pd (blk.c.toMx.take (j.toNat*sz))⟩)],[nx]⟩ else ah
     |none=>ah) else ah
    |.f (.sl cells n),af (.f (.raw (.int _ j)))=>if cV 0 j&&cV j n&&eB (n*sz) cells.length then rv (.f (.sl (cells.take (j.toNat*sz)) j.toNat)) else ah
    |_,_=>ah
   |some b,ah,ah=>match v,mw e b with
    |.row id sz' n,af (.f (.raw (.int _ j)))=>if sz'==sz&&cV 0 j&&fP j n then rv (.sl id (j.toNat*sz) (n-j.toNat)) else ah
    |.f (.sl cells n),af (.f (.raw (.int _ j)))=>if cV 0 j&&cV j n&&eB (n*sz) cells.length then rv (.f (.sl ((cells.drop (j.toNat*sz)).take ((n-j.toNat)*sz)) (n-j.toNat))) else ah
    |_,_=>ah
   |_,_,_=>ah
  |none=>ah
 |.fad off x=>match mw e x with
  |some (.ptr id o)=>rv (.ptr id (o+off))
  |some (.f (.ptr cells o))=>rv (.f (.ptr cells (o+off)))
  |_=>ah
 |.fld off sz ag x=>match mw e x with
  |some (.agg l)=>(match (BC.mx l).sub? off sz ag with|some v=>rv v|none=>ah)
  |some (.f (.agg l))=>(match (BC.fz l).sub? off sz ag with|some v=>rv v|none=>ah)
  |_=>ah
 |.iad sz x i=>match mw e x,mw e i with
  |some v,af (.f (.raw (.int _ j)))=>match v with
   |.row id sz' n=>if sz'==sz&&cV 0 j&&fP j n then rv (.ptr id (j.toNat*sz)) else ah
   |.sl id off n=>if cV 0 j&&fP j n then rv (.ptr id (off+j.toNat*sz)) else ah
   |.f (.sl cells n)=>if cV 0 j&&fP j n then rv (.f (.ptr cells (j.toNat*sz))) else ah
   |_=>ah
  |_,_=>ah
 |.iada n sz x i=>match mw e x,mw e i with
  |some v,af (.f (.raw (.int _ j)))=>if cV 0 j&&fP j n then (match v with
   |.ptr id off=>rv (.ptr id (off+j.toNat*sz))
   |.f (.ptr cells off)=>rv (.f (.ptr cells (off+j.toNat*sz)))
   |_=>ah) else ah
  |_,_=>ah
 |.idx n sz ag x i=>match mw e x,mw e i with
  |some v,af (.f (.raw (.int _ j)))=>if cV 0 j&&fP j n then (match v with
   |.agg l=>(match (BC.mx l).sub? (j.toNat*sz) sz ag with|some v=>rv v|none=>ah)
   |.f (.agg l)=>(match (BC.fz l).sub? (j.toNat*sz) sz ag with|some v=>rv v|none=>ah)
   |_=>ah) else ah
  |_,_=>ah
 |.ext x i=>match mw e x with|some (.tup l)=>(match l[i]? with|some v=>rv v|none=>ah)|_=>ah
 |.len x=>match mw e x with
  |some v=>(match v.slen with|some n=>rv (raw (.int .i64 n))|none=>ah)
  |none=>ah
 |.lens x=>match mw e x with
  |some (.f (.raw (.string s)))=>rv (raw (.int .i64 s.data.toList.length))
  |_=>ah
 |.lenm x=>match mw e x with
  |some (.mp id)=>(match h.get id with|some ⟨_,.mp es⟩=>af ⟨raw (.int .i64 es.length),[id],[],[],[]⟩|_=>ah)
  |_=>ah
 |.max x y=>match mw e x,mw e y with
  |some (.f (.raw (.int k a))),af (.f (.raw (.int _ b)))=>rv (raw (.int k (if fP a b then b else a)))
  |_,_=>ah
 |.min x y=>match mw e x,mw e y with
  |some (.f (.raw (.int k a))),af (.f (.raw (.int _ b)))=>rv (raw (.int k (if fP b a then b else a)))
  |_,_=>ah
 |.sidx x i=>match mw e x,mw e i with
  |some (.f (.raw (.string s))),af (.f (.raw (.int _ j)))=>if cV 0 j then (match s.data.toList[j.toNat]? with|some b=>rv (raw (.int .u8 b.toNat))|none=>ah) else ah
  |_,_=>ah
 |.app ty sz bytes s x=>match mw e s,mw e x with
  |some b,af y=>match y.row? h sz with
   |some (src,m,rd)=>match b with
    |.row id sz' n=>match h.get id with
     |some blk=>if sz'==sz&& !(WR id rd)&&blk.c.isCells&&eB (n*sz) blk.c.len&&blk.ty==ty&&bc (n+m) bytes then
       af ⟨.row nx sz (n+m),id::rd,[nx,id],[(nx,⟨ty,pd (blk.c.toMx.take (n*sz)++src)⟩)],[nx]⟩ else ah
     |none=>ah
    |b=>if If b&&bc m bytes then
      (if m==0 then af ⟨b,rd,[],[],[]⟩ else af ⟨.row nx sz m,rd,[nx],[(nx,⟨ty,pd src⟩)],[nx]⟩) else ah
   |none=>ah
  |_,_=>ah
 |.copy sz d x=>match mw e d,mw e x with
  |some (.row id sz' n),af y=>(match h.get id,y.row? h sz with
   |some blk,af (src,m,rd)=>if sz'==sz&& !(WR id rd)&&eB (n*sz) blk.c.len then
     (match blk.c.put 0 (src.take (iN m n*sz)) with
     |some c=>af ⟨raw (.int .i64 (iN m n)),id::rd,[id],[(id,⟨blk.ty,c⟩)],[]⟩
     |none=>ah) else ah
   |_,_=>ah)
  |_,_=>ah
 |.clr _ z x=>match mw e x with
  |some (.sl id off n)=>(match h.get id with
   |some blk=>if gd 0 n then (match blk.c.put off ((repl z n).map .f) with
    |some c=>af ⟨.tup [],[id],[id],[(id,⟨blk.ty,c⟩)],[]⟩
    |none=>ah) else ah
   |none=>ah)
  |_=>ah
 |.mkf f caps=>match VV e caps with|some l=>rv (.clo f l)|none=>ah
 |.mkm=>af ⟨.mp nx,[],[nx],[(nx,⟨0,.mp []⟩)],[nx]⟩
 |.lku str ok z x k=>match mw e x,mw e k with
  |some (.mp id),af (.f (.raw key))=>(match h.get id with
   |some ⟨_,.mp es⟩=>if yC str key then (match sT key es with|some (af v)=>af ⟨pkV ok v ai,[id],[],[],[]⟩|some ah=>af ⟨pkV ok (raw z) aj,[id],[],[],[]⟩|none=>ah) else ah
   |_=>ah)
  |_,_=>ah
 |.mup str x k v=>match mw e x,mw e k,mw e v with
  |some (.mp id),af (.f (.raw key)),af y=>(match h.get id with
   |some ⟨ty,.mp es⟩=>if yC str key then (match yA key y es with|some es'=>af ⟨raw undef,[id],[id],[(id,⟨ty,.mp es'⟩)],[]⟩|none=>ah) else ah
   |_=>ah)
  |_,_,_=>ah
 |.rng x=>match mw e x with
  |some (.f (.raw (.string s)))=>af ⟨.ptr nx 0,[],[nx],[(nx,⟨0,.it s 0⟩)],[nx]⟩
  |_=>ah
 |.nxt x=>match mw e x with
  |some (.ptr id 0)=>(match h.get id with
   |some ⟨ty,.it s p⟩=>(match s.data.toList[p]? with
    |some b=>if gd b.toNat 128 then af ⟨.tup [raw (.bool ai),raw (.int .i64 p),raw (.int .i32 b.toNat)],[id],[id],[(id,⟨ty,.it s (p+1)⟩)],[]⟩ else ah
    |none=>af ⟨.tup [raw (.bool aj)],[id],[id],[(id,⟨ty,.it s p⟩)],[]⟩)
   |_=>ah)
  |_=>ah
 |.bad=>ah
structure r_ where
 dst:Option Nat
 op:SI
 guard:Option (Nat×Bool)
inductive SC where
 |skip
 |reg (ops:List r_) (prs:List (Nat×Nat))
 |seq (a b:SC)
 |cond (c:Nat) (a b:SC)
 |block (id:Nat) (b:SC)
 |loop (b:SC)
 |exit (id:Nat)
 |ret
 |defer (f:FuncId) (caps:List Operand) (t:Nat)
 |bad
structure alx where
 val:AV
 h:nQ
 nx:Nat
 wr:Nat
abbrev Wv:=FuncId->List AV->nQ->Nat->Option alx
mutual
def AV.ids:AV->Nat->Nat
 |.ptr id _,acc=>acc|||(1<<<id)
 |.sl id _ _,acc=>acc|||(1<<<id)
 |.row id _ _,acc=>acc|||(1<<<id)
 |.mp id,acc=>acc|||(1<<<id)
 |.agg l,acc=>AV.idsL l acc
 |.tup l,acc=>AV.idsL l acc
 |.clo _ l,acc=>AV.idsL l acc
 |.f _,acc=>acc
 |.emp,acc=>acc
 |.anyb,acc=>acc
def AV.idsL:List AV->Nat->Nat
 |[],acc=>acc
 |x::r,acc=>AV.idsL r (AV.ids x acc)
end
mutual
def AV.all (p:Nat->Bool):AV->Bool
 |.ptr id _=>p id
 |.sl id _ _=>p id
 |.row id _ _=>p id
 |.mp id=>p id
 |.agg l=>AV.allL p l
 |.tup l=>AV.allL p l
 |.clo _ l=>AV.allL p l
 |.f _=>ai
 |.emp=>ai
 |.anyb=>ai
def AV.allL (p:Nat->Bool):List AV->Bool
 |[]=>ai
 |x::r=>AV.all p x&&AV.allL p r
end
def BC.ids:BC->Nat->Nat
 |.mx l,acc=>AV.idsL l acc
 |.mp es,acc=>AV.idsL (es.map (·.2)) acc
 |_,acc=>acc
def BC.all (p:Nat->Bool):BC->Bool
 |.mx l=>AV.allL p l
 |.mp es=>AV.allL p (es.map (·.2))
 |_=>ai
def nQ.all (p:Nat->Bool) (h:nQ):Bool:=PT.all (λi b=>p i&&b.c.all p) 1 0 h
def Vg:Nat->nQ->Nat->Nat->Nat
 |0,_,_,Kw=>Kw
 |n+1,h,todo,Kw=>
  if aB todo 0 then Kw else
  match Nat.log2 todo with
  |id=>if aN Kw id then Vg n h (todo ^^^ (1<<<id)) Kw else
   match h.get id with
   |some b=>Vg n h (b.c.ids (todo ^^^ (1<<<id))) (Kw|||(1<<<id))
   |none=>Vg n h (todo ^^^ (1<<<id)) Kw
section force
variable {α:Type}
def sw (n:Nat) (k:Nat->α):α:=match n with|0=>k 0|m+1=>k (m+1)
def frcI (n:Int) (k:Int->α):α:=match n with|.ofNat m=>sw m λm=>k (.ofNat m)|.negSucc m=>sw m λm=>k (.negSucc m)
def frcB (b:Bool) (k:Bool->α):α:=match b with|true=>k ai|false=>k aj
def frcV (v:Value) (k:Value->α):α:=match v with
 |.int kd n=>frcI n λn=>k (.int kd n)
 |.bool b=>frcB b λb=>k (.bool b)
 |v=>k v
def ajg (x:FV) (k:FV->α):α:=match x with
 |.raw v=>frcV v λv=>k (.raw v)
 |.ptr cells off=>sw off λoff=>k (.ptr cells off)
 |.sl cells n=>sw n λn=>k (.sl cells n)
 |.agg l=>k (.agg l)
def ZG:List FV->(List FV->α)->α
 |[],k=>k []
 |x::r,k=>ajg x λx=>ZG r λr=>k (x::r)
def ajf (x:FV) (k:FV->α):α:=match x with
 |.agg l=>ZG l λl=>k (.agg l)
 |x=>ajg x k
def aer (x:AV) (k:AV->α):α:=match x with
 |.f x=>ajf x λx=>k (.f x)
 |.ptr id off=>sw id λid=>sw off λoff=>k (.ptr id off)
 |.sl id off n=>sw id λid=>sw off λoff=>sw n λn=>k (.sl id off n)
 |.row id sz n=>sw id λid=>sw sz λsz=>sw n λn=>k (.row id sz n)
 |.mp id=>sw id λid=>k (.mp id)
 |x=>k x
def Qm:List AV->(List AV->α)->α
 |[],k=>k []
 |x::r,k=>aer x λx=>Qm r λr=>k (x::r)
def ajh (x:AV) (k:AV->α):α:=match x with
 |.agg l=>Qm l λl=>k (.agg l)
 |.tup l=>Qm l λl=>k (.tup l)
 |.clo f l=>Qm l λl=>k (.clo f l)
 |x=>aer x k
def frcC (c:BC) (k:BC->α):α:=match c with
 |.fz l=>ZG l λl=>k (.fz l)
 |.mx l=>Qm l λl=>k (.mx l)
 |.it s p=>sw p λp=>k (.it s p)
 |.mp es=>k (.mp es)
def Ql {β:Type}:PT β->(PT β->α)->α
 |.leaf,k=>k .leaf
 |.node v l r,k=>(match v with
  |none=>λ(k:Option β->α)=>k ah
  |some x=>λk=>k (af x)) λv=>Ql l λl=>Ql r λr=>k (.node v l r)
def SA {β:Type}:Nat->PT β->Nat->Option β->(PT β->α)->α
 |0,t,_,_,k=>k t
 |f+1,t,n,x,k=>match t with
  |.leaf=>(match n with
   |0=>k (.node x .leaf .leaf)
   |m+1=>if aB (m%2) 0 then sw (m/2) λq=>SA f .leaf q x λu=>k (.node ah u .leaf) else sw (m/2) λq=>SA f .leaf q x λu=>k (.node ah .leaf u))
  |.node v l r=>(match n with
   |0=>k (.node x l r)
   |m+1=>if aB (m%2) 0 then sw (m/2) λq=>SA f l q x λu=>k (.node v u r) else sw (m/2) λq=>SA f r q x λu=>k (.node v l u))
theorem NK {β:Type}:∀ (x:PT β) (k:PT β->α),Ql x k=k x
 |.leaf,_=>rfl
 |.node v l r,k=>by cases v<;>simp only[Ql,NK l,NK r]
end force
structure IS where
 e:zo
 h:nQ
 nx:Nat
 wr:Nat
structure afb where
 val:AV
 rd:Nat
 wr:Nat
 h:nQ
 nx:Nat
def bits:List Nat->Nat->Nat
 |[],acc=>acc
 |x::r,acc=>bits r (acc|||(1<<<x))
def afn {α:Type} (h:nQ) (nw:NW):List Nat->(nQ->α)->α
 |[],k=>k h
 |i::r,k=>match iZ nw i with
  |none=>SA (i+1) h i ah λh=>afn h nw r k
  |some ⟨ty,c⟩=>frcC c λc=>SA (i+1) h i (af ⟨ty,c⟩) λh=>afn h nw r k
def aex (call:Wv) (f:FuncId) (args:List AV) (h:nQ) (nx:Nat):Option afb:=
 sw (Vg 1000000 h (AV.idsL args 0) 0) λids=>Ql (PT.only ids 1 0 h) λhc=>
 if AV.allL (gd · nx) args&&nQ.all (gd · nx) hc then
  match call f args hc nx with
  |some ⟨val,h',nx',wr⟩=>ajh val λval=>sw nx' λnx'=>sw wr λwr=>Ql (PT.merge wr 1 0 h h') λhm=>af ⟨val,ids,wr,hm,nx'⟩
  |none=>ah
 else ah
def opA (call:Wv) (o:SI) (e:zo) (h:nQ) (nx:Nat):Option afb:=
 match o with
 |.call f args=>match VV e args with|some l=>aex call f l h nx|none=>ah
 |.callv x args=>match mw e x,VV e args with|some (.clo f cap),af l=>aex call f (l++cap) h nx|_,_=>ah
 |.op o=>match eH o e h nx with
  |some ⟨val,rd,wr,nw,N⟩=>ajh val λval=>sw (bits rd 0) λrd=>sw (bits wr 0) λI=>sw (nx+N.length) λnx'=>afn h nw wr λh=>af ⟨val,rd,I,h,nx'⟩
  |none=>ah
def aiv (e:zo):Option (Nat×Bool)->Option Bool
 |none=>af ai
 |some (t,want)=>match e.get t with
  |some (.f (.raw (.bool b)))=>af (b==want)
  |some (.f (.raw (.tuple _)))=>af aj
  |_=>ah
def afv {α:Type} (e:zo) (dst:Option Nat) (v:AV) (k:zo->α):α:=match dst with
 |none=>k e
 |some d=>SA (d+1) e d (af v) k
structure FPm where
 rd:Nat
 wr:Nat
def SJ (call:Wv):List r_->IS->Option (IS×List FPm)
 |[],s=>af (s,[])
 |o::r,⟨e,h,nx,wr⟩=>
  match aiv e o.guard with
  |some ai=>(match opA call o.op e h nx with
   |some ⟨val,rd,w,h',nx'⟩=>afv e o.dst val λe'=>sw (wr|||w) λwr'=>(match SJ call r ⟨e',h',nx',wr'⟩ with
    |some (s',fs)=>af (s',⟨rd,w⟩::fs)
    |none=>ah)
   |none=>ah)
  |some aj=>afv e o.dst (raw undef) λe'=>(match SJ call r ⟨e',h,nx,wr⟩ with
   |some (s',fs)=>af (s',⟨0,0⟩::fs)
   |none=>ah)
  |none=>ah
def Xi:List FPm->Nat->Option FPm
 |[],_=>ah
 |f::_,0=>af f
 |_::r,n+1=>Xi r n
def C7 (a b:Nat):Bool:=aB (a&&&b) 0
def E3 (fs:List FPm):List (Nat×Nat)->Bool
 |[]=>ai
 |(i,j)::r=>(match Xi fs i,Xi fs j with
  |some a,af b=>C7 a.wr b.rd&&C7 a.wr b.wr&&C7 b.wr a.rd
  |_,_=>aj)&&E3 fs r
inductive Ex where
 |normal
 |exit (id:Nat)
 |ret
def aeo (body:IS->Option (Ex×IS)) (e0:zo):Nat->IS->Option (Ex×IS)
 |0,_=>ah
 |n+1,s=>match body s with
  |some (.normal,⟨e,h,nx,wr⟩)=>Ql (PT.mask e e0) λe=>aeo body e0 n ⟨e,h,nx,wr⟩
  |r=>r
def run (call:Wv) (inert:FuncId->Bool) (fuel:Nat):SC->IS->Option (Ex×IS)
 |.skip,s=>af (.normal,s)
 |.reg ops prs,s=>match SJ call ops s with
  |some (s',fs)=>if E3 fs prs then af (.normal,s') else ah
  |none=>ah
 |.seq a b,s=>match run call inert fuel a s with
  |some (.normal,s')=>run call inert fuel b s'
  |r=>r
 |.cond c a b,s=>match s.e.get c with
  |some (.f (.raw (.bool ai)))=>run call inert fuel a s
  |some (.f (.raw (.bool aj)))=>run call inert fuel b s
  |_=>ah
 |.block id b,s=>match run call inert fuel b s with
  |some (.exit i,s')=>if aB i id then af (.normal,s') else af (.exit i,s')
  |r=>r
 |.loop b,s=>aeo (run call inert fuel b) s.e fuel s
 |.exit id,s=>af (.exit id,s)
 |.ret,s=>af (.ret,s)
 |.defer f caps t,⟨e,h,nx,wr⟩=>match VV e caps with
  |some l=>if inert f then afv e (af t) (.clo f l) λe'=>af (.normal,⟨e',h,nx,wr⟩) else ah
  |none=>ah
 |.bad,_=>ah
inductive RV where
 |tmp (t:Nat)
 |cell (a:Nat) (sz:Nat) (ag:Bool)
structure SF where
 code:SC
 res:List RV
 nt:Nat
def Dx:List AV->AV
 |[x]=>x
 |l=>.tup l
def agi:Value->Value->Bool
 |.bool a,.bool b=>a==b
 |.int k a,.int k' b=>k==k'&&a==b
 |.string a,.string b=>rL a b
 |.slice ah n c,.slice ah I c'=>aB n I&&aB c c'
 |.pointer ah,.pointer ah=>ai
 |.tuple a,.tuple b=>a.isEmpty&&b.isEmpty
 |_,_=>aj
def fh (P:Program) (t:TypeId):Option Nat:=(P.info? t).map (·.size)
def EA (P:Program) (t:TypeId):Option Nat:=(P.info? t).map (·.bytes)
def sF (P:Program) (t:TypeId):Option (List Value):=((P.info? t).bind (·.zero)).map (·.cells.toList)
def Dk (P:Program) (t:TypeId):Option Bool:=(P.underlying t).map λ|.struct _=>ai|.array _ _=>ai|_=>aj
def An (P:Program) (t:TypeId):Option TypeId:=match P.underlying t with|some (.slice e)=>af e|_=>ah
def AW (P:Program) (t:TypeId) (i:Nat):Option (Nat×Nat):=match P.underlying t with
 |some (.struct fs)=>(fs[i]?).bind λf=>(fh P f.type).map (f.offset,·)
 |some (.array _ el)=>(fh P el).map λs=>(i*s,s)
 |some (.slice el)=>(fh P el).map λs=>(i*s,s)
 |_=>ah
def wS (P:Program) (t:TypeId):List (Nat×Operand)->Option (List (Nat×Nat×Operand))
 |[]=>af []
 |(i,x)::r=>match AW P t i,wS P t r with|some (o,s),af l=>af ((o,s,x)::l)|_,_=>ah
def mq (z:List Value):Bool:=z.all λv=>v.oneCell'
def HL:TypeDesc->Bool
 |.int _=>ai
 |.bool=>ai
 |.string=>ai
 |_=>aj
def rD (P:Program):Nat→List Field→Option (List TypeDesc)
 |_,[]=>af []
 |k,f::r=>match P.underlying f.type,rD P (k+1) r with
  |some d,af ds=>if f.name != "_" &&f.offset==k&&HL d then af (d::ds) else ah
  |_,_=>ah
def YW (P:Program) (t:TypeId):Option (List TypeDesc):=match P.underlying t with
 |some (.struct fs)=>if P.stoodInHeld t then ah else rD P 0 fs.toList
 |_=>ah
def Ru (P:Program) (c:Call):Option X3:=
 match c.callee with
 |.builtin .len=>(match c.args.toList,c.argTypes.toList with
  |[x],[t]=>(match P.underlying t with
   |some (.slice _)=>af (.len x)
   |some .string=>af (.lens x)
   |some (.map _ _)=>af (.lenm x)
   |_=>ah)
  |_,_=>ah)
 |.builtin .max=>(match c.args.toList with
  |[x,y]=>af (.max x y)
  |_=>ah)
 |.builtin .min=>(match c.args.toList with
  |[x,y]=>af (.min x y)
  |_=>ah)
 |.builtin .copy=>(match c.args.toList,c.argTypes.toList with
  |[d,x],[t,u]=>(match An P t,An P u with
   |some el,af _=>(fh P el).bind λsz=>if sz !=0 then af (.copy sz d x) else ah
   |_,_=>ah)
  |_,_=>ah)
 |.builtin .clear=>(match c.args.toList,c.argTypes.toList with
  |[x],[t]=>(An P t).bind λel=>(sF P el).bind λz=>(fh P el).bind λsz=>if mq z&&z.length==sz&&sz !=0 then af (.clr sz z x) else ah
  |_,_=>ah)
 |.builtin .append=>(match c.args.toList,c.argTypes.toList with
  |[s,x],[t,u]=>(match An P t,An P u with
   |some el,af _=>(fh P el).bind λsz=>(EA P el).bind λb=>(sF P el).bind λz=>if sz !=0&&z.length==sz then af (.app el sz b s x) else ah
   |_,_=>ah)
  |_,_=>ah)
 |_=>ah
def c_ (P:Program):Op->Option X3
 |.move x=>af (.mv x)
 |.assign x=>af (.mv x)
 |.pick c a b=>af (.pick c a b)
 |.alloc t=>(sF P t).bind λz=>if mq z then af (.alloc t z) else ah
 |.box t x=>af (.box t x)
 |.build t ps=>match P.underlying t with
  |some (.struct fs)=>(sF P t).bind λz=>if mq z&&(fs.toList.all λf=>(fh P f.type).isSome) then (wS P t ps.toList).map (.build z) else ah
  |some (.array _ el)=>(sF P t).bind λz=>if mq z&&(fh P el).isSome then (wS P t ps.toList).map (.build z) else ah
  |_=>ah
 |.buildSlice t n ps=>(An P t).bind λel=>(sF P el).bind λz=>(fh P el).bind λsz=>if mq z&&z.length==sz&&eB (n*sz) 65536&&sz !=0 then (wS P t ps.toList).map (.bsl el sz n z) else ah
 |.load t x=>(fh P t).bind λsz=>(Dk P t).map λag=>.load sz ag x
 |.store t x v=>(fh P t).map λsz=>.store sz x v
 |.nilCheck x=>af (.nilc x)
 |.binOp op t x y _=>match P.underlying t with
  |some (.int _)|some .string=>af (.bin op x y)
  |some .bool=>(match op with|.eql=>af (.eqb aj x y)|.neq=>af (.eqb ai x y)|_=>ah)
  |some (.slice _)=>(match op,y with
   |.eql,.const (.slice ah 0 0)=>af (.isnil aj x)
   |.neq,.const (.slice ah 0 0)=>af (.isnil ai x)
   |_,_=>ah)
  |some (.struct _)=>(YW P t).bind λds=>(match op with|.eql=>af (.eqs aj ds x y)|.neq=>af (.eqs ai ds x y)|_=>ah)
  |_=>ah
 |.unOp .not _ x=>af (.not x)
 |.unOp .neg t x=>match P.underlying t with|some (.int k)=>af (.bin .sub (.const (.int k 0)) x)|_=>ah
 |.convert s d x=>match P.underlying s,P.underlying d with|some (.int _),af (.int k)=>af (.conv k x)|_,_=>ah
 |.makeSlice t l c=>(An P t).bind λel=>(sF P el).bind λz=>(fh P el).bind λsz=>(EA P el).bind λb=>if mq z&&z.length==sz&&sz !=0 then af (.mksl el sz b z l c) else ah
 |.slice t x lo hi mx=>(An P t).bind λel=>(fh P el).map λsz=>.slc sz x lo hi mx
 |.fieldAddr t x k=>match P.underlying t with
  |some (.struct fs)=>(fs[k]?).bind λf=>(fh P f.type).bind λsz=>if sz !=0 then af (.fad f.offset x) else ah
  |_=>ah
 |.field t x k=>match P.underlying t with
  |some (.struct fs)=>(fs[k]?).bind λf=>(fh P f.type).bind λsz=>(Dk P f.type).map λag=>.fld f.offset sz ag x
  |_=>ah
 |.indexAddr t x i=>match P.underlying t with
  |some (.slice el)=>(fh P el).map λsz=>.iad sz x i
  |some (.array n el)=>(fh P el).map λsz=>.iada n sz x i
  |_=>ah
 |.index t x i=>match P.underlying t with
  |some (.array n el)=>(fh P el).bind λsz=>(Dk P el).map λag=>.idx n sz ag x i
  |some .string=>af (.sidx x i)
  |_=>ah
 |.extract x i=>af (.ext x i)
 |.makeFunc (.func f) first caps=>if first.isEmpty then af (.mkf f caps.toList) else ah
 |.makeMap t ah=>match P.underlying t with|some (.map _ _)=>af .mkm|_=>ah
 |.lookup t x k ok=>match P.underlying t with
  |some (.map I el)=>(match P.underlying I,(P.info? el).bind (·.zero) with
   |some (.int _),af z=>if z.oneCell' then af (.lku aj ok z x k) else ah
   |some .string,af z=>if z.oneCell' then af (.lku ai ok z x k) else ah
   |_,_=>ah)
  |_=>ah
 |.mapUpdate t m k v=>match P.underlying t with
  |some (.map I _)=>(match P.underlying I with
   |some (.int _)=>af (.mup aj m k v)
   |some .string=>af (.mup ai m k v)
   |_=>ah)
  |_=>ah
 |.range t x=>match P.underlying t with|some .string=>af (.rng x)|_=>ah
 |.next x ai=>af (.nxt x)
 |.call c=>Ru P c
 |_=>ah
def Oo:Op->Option SI
 |.call c=>(match c.callee with
  |.value (.func f)=>af (.call f c.args.toList)
  |.value (.tmp t)=>af (.callv (.tmp t) c.args.toList)
  |_=>ah)
 |_=>ah
def xV (P:Program) (op:Op):SI:=match Oo op with
 |some i=>i
 |none=>(match c_ P op with|some s=>.op s|none=>.op .bad)
def X3.still:X3->Bool
 |.mv _|.pick _ _ _|.build _ _|.nilc _|.bin _ _ _|.eqs _ _ _ _|.isnil _ _|.eqb _ _ _|.not _|.conv _ _|.fad _ _|.fld _ _ _ _|.iad _ _ _|.iada _ _ _ _|.idx _ _ _ _ _|.ext _ _|.max _ _|.min _ _|.sidx _ _|.mkf _ _|.bad=>ai
 |_=>aj
def SI.still:SI->Bool
 |.op s=>s.still
 |_=>aj
def rK (P:Program) (ops:Array Oper):List Oper->Option (List r_)
 |[]=>af []
 |o::r=>match rK P ops r with
  |some l=>(match o.guard with
   |none=>af (⟨o.dst,xV P o.op,ah⟩::l)
   |some (j,want)=>(match (ops[j]?).bind (·.dst) with
    |some t=>af (⟨o.dst,xV P o.op,af (t,want)⟩::l)
    |none=>ah))
  |none=>ah
def LP (ops:Array Oper) (l:List r_):Option (List (Nat×Nat)):=
 let B:=JV ops.toList []
 if (eS ops.size).all λj=>((ops[j]?).all λoj=>oj.after.toList.all λe=> !zu .any e||decide (e.on<j))&&
     (eS j).all λi=>aN (B.getD j 0) i||(match ops[i]?,ops[j]? with|some oi,af oj=>oi.apart ops oj|_,_=>aj)
 then af ((eS ops.size).flatMap λj=>(eS j).filterMap λi=>
  if aN (B.getD j 0) i||(match l[i]?,l[j]? with|some a,af b=>a.op.still||b.op.still|_,_=>aj) then ah else af (i,j))
 else ah
def C8 (ops:Array Oper) (I:Bool):Option (FuncId×List Operand×Nat):=match ops.toList,I with
 |[p,q],aj=>(match p.op,p.guard,p.dst,q.op,q.guard,q.dst with
  |.makeFunc (.func f) first caps,ah,af t,.defer c,ah,ah=>(match c.callee,c.args.toList with
   |.value (.tmp t'),[]=>if aB t t'&&first.isEmpty then af (f,caps.toList,t) else ah
   |_,_=>ah)
  |_,_,_,_,_,_=>ah)
 |_,_=>ah
def co (P:Program) (nt:Nat):Code->SC
 |.skip=>.skip
 |.region _ ops I=>if ops.toList.all λo=>match o.dst with|some d=>decide (d<nt)|none=>ai then
   (match C8 ops I with
   |some (f,caps,t)=>.defer f caps t
   |none=>(match rK P ops ops.toList with
    |some l=>(match LP ops l with|some prs=>.reg l prs|none=>.bad)
    |none=>.bad)) else .bad
 |.seq a b=>.seq (co P nt a) (co P nt b)
 |.cond (.tmp c) a b=>.cond c (co P nt a) (co P nt b)
 |.cond (.const (.bool ai)) a _=>co P nt a
 |.cond (.const (.bool aj)) _ b=>co P nt b
 |.block id b=>.block id (co P nt b)
 |.loop b=>.loop (co P nt b)
 |.exit id=>.exit id
 |.ret=>.ret
 |_=>.bad
def uW (P:Program):List ResultVar->Option (List RV)
 |[]=>af []
 |.tmp t::r=>match uW P r with|some l=>af (.tmp t::l)|none=>ah
 |.cell a t::r=>match uW P r,fh P t,Dk P t with|some l,af sz,af ag=>af (.cell a sz ag::l)|_,_,_=>ah
def zf (P:Program) (f:FuncId):Option SF:=
 match P.funcs[f]? with
 |some fn=>if fn.name== "runtime.NumGoroutine" then ah else (match fn.body,uW P fn.results.toList with
  |some c,af r=>af ⟨co P fn.ntmps c,r,fn.ntmps⟩
  |_,_=>ah)
 |none=>ah
inductive Xp where
 |mk (op n:Int) (name:List UInt8) (l:List Xp)
inductive Sx where
 |mk (op line:Int) (name arg:List UInt8) (index:List Xp) (expr:Xp) (body els:List Sx)
def Xp.op:Xp->Int|.mk a _ _ _=>a
def Xp.n:Xp->Int|.mk _ a _ _=>a
def Xp.name:Xp->List UInt8|.mk _ _ a _=>a
def Xp.l:Xp->List Xp|.mk _ _ _ a=>a
def Sx.op:Sx->Int|.mk a _ _ _ _ _ _ _=>a
def Sx.line:Sx->Int|.mk _ a _ _ _ _ _ _=>a
def Sx.name:Sx->List UInt8|.mk _ _ a _ _ _ _ _=>a
def Sx.arg:Sx->List UInt8|.mk _ _ _ a _ _ _ _=>a
def Sx.index:Sx->List Xp|.mk _ _ _ _ a _ _ _=>a
def Sx.expr:Sx->Xp|.mk _ _ _ _ _ a _ _=>a
def Sx.body:Sx->List Sx|.mk _ _ _ _ _ _ a _=>a
def Sx.els:Sx->List Sx|.mk _ _ _ _ _ _ _ a=>a
inductive Ty where
 |int (k:IntKind)
 |bool
 |str
 |sl (t:Ty)
 |st (t:Ty)
 |pr (a b:Ty)
 |un
 |ex
 |sm
 deriving DecidableEq
@[reducible] def Ty.den:Ty->Type
  |.int _=>Int
  |.bool=>Bool
  |.str=>List UInt8
  |.sl t=>List t.den
  |.st t=>t.den
  |.pr a b=>a.den×b.den
  |.un=>Unit
  |.ex=>Xp
  |.sm=>Sx
def Ty.size:Ty->Nat
 |.st t=>t.size
 |.pr a b=>a.size+b.size
 |.un=>0
 |.ex=>4
 |.sm=>11
 |_=>1
def Ty.zero:(t:Ty)->t.den
 |.int _=>(0:Int)
 |.bool=>aj
 |.str=>[]
 |.sl _=>[]
 |.st t=>t.zero
 |.pr a b=>(a.zero,b.zero)
 |.un=>()
 |.ex=>.mk 0 0 [] []
 |.sm=>.mk 0 0 [] [] [] (.mk 0 0 [] []) [] []
def Ty.one:Ty->Bool
 |.int _=>ai
 |.bool=>ai
 |.str=>ai
 |.sl _=>ai
 |_=>aj
def L_:Ty:=.pr (.int .i64) (.pr (.int .i64) (.pr .str (.sl .ex)))
def LK:Ty:=.pr (.int .i64) (.pr (.int .i64) (.pr .str (.pr .str (.pr (.sl .ex) (.pr .ex (.pr (.sl .sm) (.sl .sm)))))))
def MS (e:Xp):L_.den:=(e.op,e.n,e.name,e.l)
def dT (x:L_.den):Xp:=.mk x.1 x.2.1 x.2.2.1 x.2.2.2
def MR (e:Sx):LK.den:=(e.op,e.line,e.name,e.arg,e.index,e.expr,e.body,e.els)
def nE (x:LK.den):Sx:=.mk x.1 x.2.1 x.2.2.1 x.2.2.2.1 x.2.2.2.2.1 x.2.2.2.2.2.1 x.2.2.2.2.2.2.1 x.2.2.2.2.2.2.2
mutual
def v9:Xp->List FV
 |.mk op n name l=>[.raw (.int .i64 op),.raw (.int .i64 n),.raw (.string ⟨name.toArray⟩),.sl (I1 l) l.length]
def I1:List Xp->List FV
 |[]=>[]
 |x::r=>v9 x++I1 r
end
mutual
def xJ:Sx->List FV
 |.mk op line name arg index expr body els=>[.raw (.int .i64 op),.raw (.int .i64 line),.raw (.string ⟨name.toArray⟩),.raw (.string ⟨arg.toArray⟩),.sl (I1 index) index.length]++v9 expr++[.sl (I0 body) body.length,.sl (I0 els) els.length]
def I0:List Sx->List FV
 |[]=>[]
 |x::r=>xJ x++I0 r
end
def bQ:(T:Ty)->T.den->List FV
 |.int k,n=>[.raw (.int k n)]
 |.bool,b=>[.raw (.bool b)]
 |.str,s=>[.raw (.string ⟨s.toArray⟩)]
 |.sl t,xs=>[.sl (List.flatMap (bQ t) xs) (al xs)]
 |.st t,v=>bQ t v
 |.pr a b,v=>bQ a v.1++bQ b v.2
 |.un,_=>[]
 |.ex,v=>v9 v
 |.sm,v=>xJ v
def gC:(T:Ty)->T.den->FV
 |.int k,n=>.raw (.int k n)
 |.bool,b=>.raw (.bool b)
 |.str,s=>.raw (.string ⟨s.toArray⟩)
 |.sl t,xs=>.sl (List.flatMap (bQ t) xs) (al xs)
 |.st t,v=>.agg (bQ t v)
 |.pr a b,v=>.agg (bQ a v.1++bQ b v.2)
 |.un,_=>.agg []
 |.ex,v=>.agg (v9 v)
 |.sm,v=>.agg (xJ v)
def OO:(T:Ty)->T.den->T.den->Bool
 |.int _,a,b=>decide ((a:Int)=b)
 |.bool,a,b=>(a:Bool)==b
 |.str,a,b=>decide ((a:List UInt8)=b)
 |.st t,a,b=>OO t a b
 |.pr x y,a,b=>OO x a.1 b.1&&OO y a.2 b.2
 |_,_,_=>ai
def wy {S:Ty} (T:Ty) (v:S.den):Option T.den:=if h:S=T then af (h▸v) else ah
def fe (j:Int) (n:Nat):Bool:=cV 0 j&&fP j n
def aJ {T:Ty} (xs:List T.den) (j:Int):T.den:=xs.getD j.toNat T.zero
def cq {α:Type} (xs:List α) (j:Int) (x:α):List α:=xs.set j.toNat x
def Sm {α:Type} (xs I:List α):List α:=I.take xs.length++xs.drop I.length
def j9 (a b:Int):Int:=if fP a b then b else a
def Gh (a b:Int):Int:=if fP b a then b else a
def zS (s:List UInt8) (j:Int):Int:=aO (s.getD j.toNat 0).toNat
def bcase {R:Type} (b:Bool) (t f:Option R):Option R:=match b with|true=>t|false=>f
def chk {R:Type} (b:Bool) (k:b=ai->Option R):Option R:=match b,k with|true,k=>k rfl|false,_=>ah
open Classical in
def EB {R:Type} (a b:Option R):Option R:=if a=b then a else ah
open Classical in
def same {α R:Type} (a b:α) (r:Option R):Option R:=if a=b then r else ah
def obind {α R:Type} (o:Option α) (k:α->Option R):Option R:=match o with|some x=>k x|none=>ah
def lt {α R:Type} (x:α) (k:α->Option R):Option R:=k x
def jn {α R:Type} (o:Option (R⊕α)) (k:α->Option R):Option R:=match o with|some (.inr x)=>k x|some (.inl r)=>af r|none=>ah
def iterN {σ R:Type} (step:σ->Option (σ⊕R)):Nat->σ->Option R
 |0,_=>ah
 |n+1,x=>match step x with
  |some (.inl y)=>iterN step n y
  |some (.inr r)=>af r
  |none=>ah
open Classical in
def iter {σ R:Type} (step:σ->Option (σ⊕R)) (x:σ):Option R:=
 if h:∃ n,(iterN step n x).isSome=ai then iterN step (Classical.choose h) x else ah
def fX {σ R:Type} (step:σ->Option (σ⊕R)) (x:σ):Option R:=iterN step 18446744073709551616 x
abbrev ye:Type 1:=∀ σ R:Type,(σ->Option (σ⊕R))->σ->Option R
def kT {R:Type} (a b:Option R):Prop:=∀ y,a=af y->b=af y
theorem kT.rfl {R:Type} {a:Option R}:kT a a:=λ_ h=>h
theorem kT.bcase {R:Type} {b:Bool} {t f t' f':Option R} (h1:kT t t') (h2:kT f f'):kT (AI.bcase b t f) (AI.bcase b t' f'):=by cases b<;>assumption
theorem kT.chk {R:Type} {b:Bool} {k k':Option R} (h:kT k k'):kT (AI.chk b λ_=>k) (AI.chk b λ_=>k'):=by
 cases b with
 |true=>exact h
 |false=>exact λ_ h=>by cases h
theorem kT.obind {α R:Type} {o o':Option α} {k k':α->Option R} (h:kT o o') (hk:∀ x,kT (k x) (k' x)):kT (AI.obind o k) (AI.obind o' k'):=by
 intro y I;cases o with
 |none=>cases I
 |some x=>rw[h x (by exact Eq.refl _)];exact hk x y I
theorem kT.lt {α R:Type} {x:α} {k k':α->Option R} (h:∀ y,kT (k y) (k' y)):kT (AI.lt x k) (AI.lt x k'):=h x
theorem kT.jn {α R:Type} {o o':Option (R⊕α)} {k k':α->Option R} (h:kT o o') (hk:∀ x,kT (k x) (k' x)):kT (AI.jn o k) (AI.jn o' k'):=by
 intro y I;cases o with
 |none=>cases I
 |some x=>
  rw[h x (by exact Eq.refl _)];cases x with
  |inl r=>exact I
  |inr a=>exact hk a y I
theorem kT.iterN {σ R:Type} {f g:σ->Option (σ⊕R)} (h:∀ x,kT (f x) (g x)):∀ (n:Nat) (x:σ),kT (AI.iterN f n x) (AI.iterN g n x)
 |0,_=>λ_ h=>by cases h
 |n+1,x=>by
  intro y I;cases hf:f x with
  |none=>rw[AI.iterN,hf] at I;cases I
  |some s=>
   rw[AI.iterN,hf] at I;rw[AI.iterN,h x s hf];cases s with
   |inl z=>exact kT.iterN h n z y I
   |inr r=>exact I
theorem Ie {σ R:Type} {f:σ->Option (σ⊕R)}:∀ {n:Nat} {x:σ} {r:R},iterN f n x=af r->iterN f (n+1) x=af r
 |0,x,r,h=>by cases h
 |n+1,x,r,h=>by
  cases hf:f x with
  |none=>rw[iterN,hf] at h;cases h
  |some s=>
   cases s with
   |inl y=>rw[iterN,hf] at h;rw[iterN,hf];exact Ie h
   |inr q=>rw[iterN,hf] at h;rw[iterN,hf];exact h
theorem yF {σ R:Type} {f:σ->Option (σ⊕R)} {n m:Nat} {x:σ} {r:R} (h:iterN f n x=af r) (hle:n<=m):iterN f m x=af r:=by
 induction hle with
 |refl=>exact h
 |step _ I=>exact Ie I
theorem yE {σ R:Type} {f:σ->Option (σ⊕R)} {n:Nat} {x:σ} {r:R} (h:iterN f n x=af r):iter f x=af r:=by
 have J:∃ n,(iterN f n x).isSome=ai:=⟨n,by rw[h];exact Eq.refl _⟩
 unfold iter;rw[dif_pos J];have hc:=Classical.choose_spec J;obtain⟨M,I⟩:=iG.1 hc;rw[I];rcases Nat.le_total n (Classical.choose J) with hl|hl
 .rw[yF h hl] at I;exact I.symm
 .rw[yF I hl] at h;exact h
theorem kT.iter {σ R:Type} {f g:σ->Option (σ⊕R)} {x:σ} (h:∀ x,kT (f x) (g x)):kT (fX f x) (AI.iter g x):=λy I=>yE (kT.iterN h _ x y I)
def orE {R:Type} (a b:Option R):Option R:=match a with|some y=>af y|none=>b
def fuel:Nat:=Classical.choose (⟨100000,rfl⟩:∃ n:Nat,n=100000)
theorem jL:fuel=100000:=Classical.choose_spec (⟨100000,rfl⟩:∃ n:Nat,n=100000)
def F9 (a:Ty):Ty->Ty
 |.un=>a
 |.int k=>.pr a (.int k)
 |.bool=>.pr a .bool
 |.str=>.pr a .str
 |.sl t=>.pr a (.sl t)
 |.st t=>.pr a (.st t)
 |.pr x y=>.pr a (.pr x y)
 |.ex=>.pr a .ex
 |.sm=>.pr a .sm
def spr:Ty->Ty->Ty
 |.un,b=>b
 |.int k,b=>F9 (.int k) b
 |.bool,b=>F9 .bool b
 |.str,b=>F9 .str b
 |.sl t,b=>F9 (.sl t) b
 |.st t,b=>F9 (.st t) b
 |.pr x y,b=>F9 (.pr x y) b
 |.ex,b=>F9 .ex b
 |.sm,b=>F9 .sm b
def Pw (a:Ty):(b:Ty)->a.den->b.den->(F9 a b).den
 |.un,x,_=>x
 |.int _,x,y=>(x,y)
 |.bool,x,y=>(x,y)
 |.str,x,y=>(x,y)
 |.sl _,x,y=>(x,y)
 |.st _,x,y=>(x,y)
 |.pr _ _,x,y=>(x,y)
 |.ex,x,y=>(x,y)
 |.sm,x,y=>(x,y)
def fsN (a:Ty):(b:Ty)->(F9 a b).den->a.den
 |.un,z=>z
 |.int _,z=>z.1
 |.bool,z=>z.1
 |.str,z=>z.1
 |.sl _,z=>z.1
 |.st _,z=>z.1
 |.pr _ _,z=>z.1
 |.ex,z=>z.1
 |.sm,z=>z.1
def snN (a:Ty):(b:Ty)->(F9 a b).den->b.den
 |.un,_=>()
 |.int _,z=>z.2
 |.bool,z=>z.2
 |.str,z=>z.2
 |.sl _,z=>z.2
 |.st _,z=>z.2
 |.pr _ _,z=>z.2
 |.ex,z=>z.2
 |.sm,z=>z.2
def S_:(a b:Ty)->a.den->b.den->(spr a b).den
 |.un,_,_,y=>y
 |.int k,b,x,y=>Pw (.int k) b x y
 |.bool,b,x,y=>Pw .bool b x y
 |.str,b,x,y=>Pw .str b x y
 |.sl t,b,x,y=>Pw (.sl t) b x y
 |.st t,b,x,y=>Pw (.st t) b x y
 |.pr u v,b,x,y=>Pw (.pr u v) b x y
 |.ex,b,x,y=>Pw .ex b x y
 |.sm,b,x,y=>Pw .sm b x y
def NJ:(a b:Ty)->(spr a b).den->a.den
 |.un,_,_=>()
 |.int k,b,z=>fsN (.int k) b z
 |.bool,b,z=>fsN .bool b z
 |.str,b,z=>fsN .str b z
 |.sl t,b,z=>fsN (.sl t) b z
 |.st t,b,z=>fsN (.st t) b z
 |.pr u v,b,z=>fsN (.pr u v) b z
 |.ex,b,z=>fsN .ex b z
 |.sm,b,z=>fsN .sm b z
def Ku:(a b:Ty)->(spr a b).den->b.den
 |.un,_,z=>z
 |.int k,b,z=>snN (.int k) b z
 |.bool,b,z=>snN .bool b z
 |.str,b,z=>snN .str b z
 |.sl t,b,z=>snN (.sl t) b z
 |.st t,b,z=>snN (.st t) b z
 |.pr u v,b,z=>snN (.pr u v) b z
 |.ex,b,z=>snN .ex b z
 |.sm,b,z=>snN .sm b z
theorem sY (a b:Ty) (x:a.den) (y:b.den):NJ a b (S_ a b x y)=x:=by cases a<;>cases b<;>rfl
theorem uE (a b:Ty) (x:a.den) (y:b.den):Ku a b (S_ a b x y)=y:=by cases a<;>cases b<;>rfl
inductive TV where
 |f (T:Ty) (v:T.den)
 |fel (T:Ty) (xs:List T.den) (j:Int) (h:fe j xs.length=ai) (off:Nat)
 |pel (id sz:Nat) (j:Int) (off:Nat)
 |ptr (id off:Nat)
 |row (id:Nat)
 |csl (id sz n:Nat)
 |emp
 |nil
 |mp (id:Nat)
 |agg (l:List TV)
 |tup (l:List TV)
 |clo (g:FuncId) (l:List TV)
 |undef
 |np
 |anyb
 |rtl (id:Nat) (j:Int)
inductive im where
 |rows (ty:TypeId) (p:Bool) (T:Ty) (xs:List T.den)
 |cells (ty:TypeId) (l:List TV)
 |dead (p:Bool) (sz n:Nat)
 |mp (K V:Ty) (es:List (K.den×V.den))
abbrev iK:=PT TV
abbrev bf:=PT im
def cst:Value->Option TV
 |.int k n=>af (.f (.int k) n)
 |.bool b=>af (.f .bool b)
 |.string s=>af (.f .str s.data.toList)
 |.slice ah 0 0=>af .nil
 |.pointer ah=>af .np
 |_=>ah
def Jw:List Value->Option (List TV)
 |[]=>af []
 |v::r=>match cst v,Jw r with|some x,af l=>af (x::l)|_,_=>ah
def aga:Value->Option TV
 |.agg vs=>if JQ vs.toList then (match Jw vs.toList with|some l=>af (.agg l)|none=>ah) else ah
 |v=>cst v
def cellsOf:Nat->(T:Ty)->T.den->Option (List TV)
 |0,_,_=>ah
 |n+1,.st t,v=>cellsOf n t v
 |n+1,.pr a b,v=>match cellsOf n a v.1,cellsOf n b v.2 with|some x,af y=>af (x++y)|_,_=>ah
 |_+1,.un,_=>af []
 |n+1,.ex,v=>cellsOf n L_ (MS v)
 |n+1,.sm,v=>cellsOf n LK (MR v)
 |_+1,.int k,v=>af [.f (.int k) v]
 |_+1,.bool,v=>af [.f .bool v]
 |_+1,.str,v=>af [.f .str v]
 |_+1,.sl t,v=>af [.f (.sl t) v]
def TV.isC:TV->Bool
 |.f T _=>T.one
 |.fel _ _ _ _ _=>ai
 |.pel _ _ _ _=>ai
 |.ptr _ _=>ai
 |.row _=>ai
 |.csl _ _ _=>ai
 |.emp=>ai
 |.nil=>ai
 |.np=>ai
 |.mp _=>ai
 |.clo _ _=>ai
 |_=>aj
def kn:List TV->Bool
 |[]=>ai
 |x::r=>x.isC&&kn r
def TV.cs (v:TV):Option (List TV):=match v with
 |.agg l=>if kn l then af l else ah
 |.f T x=>cellsOf 40 T x
 |x=>if x.isC then af [x] else ah
def kG (i:Nat):Nat:=1<<<i
def iD (h:bf) (T:Ty):TV->Option (T.den×Nat)
 |.f _ v=>match wy T v with|some x=>af (x,0)|none=>ah
 |.emp=>(match T with|.sl _=>af ([],0)|_=>ah)
 |.nil=>(match T with|.sl _=>af ([],0)|_=>ah)
 |.row id=>match h.get id with
  |some (.rows _ _ S xs)=>(match wy (S:=.sl S) T xs with|some x=>af (x,kG id)|none=>ah)
  |_=>ah
 |_=>ah
def eT (h:bf):Nat->(T:Ty)->List TV->Option (T.den×Nat×List TV)
 |0,_,_=>ah
 |n+1,.st t,l=>eT h n t l
 |n+1,.pr a b,l=>match eT h n a l with
  |some (x,m,r)=>(match eT h n b r with|some (y,m',I)=>af ((x,y),m|||m',I)|none=>ah)
  |none=>ah
 |_+1,.un,l=>af ((),0,l)
 |n+1,.ex,l=>match eT h n L_ l with|some (x,m,r)=>af (dT x,m,r)|none=>ah
 |n+1,.sm,l=>match eT h n LK l with|some (x,m,r)=>af (nE x,m,r)|none=>ah
 |_+1,.int k,l=>match l with|c::r=>(match iD h (.int k) c with|some (x,m)=>af (x,m,r)|none=>ah)|[]=>ah
 |_+1,.bool,l=>match l with|c::r=>(match iD h .bool c with|some (x,m)=>af (x,m,r)|none=>ah)|[]=>ah
 |_+1,.str,l=>match l with|c::r=>(match iD h .str c with|some (x,m)=>af (x,m,r)|none=>ah)|[]=>ah
 |_+1,.sl t,l=>match l with|c::r=>(match iD h (.sl t) c with|some (x,m)=>af (x,m,r)|none=>ah)|[]=>ah
def Di (h:bf) (T:Ty) (v:TV):Option (T.den×Nat):=match v with
 |.agg l=>if T.one then ah else (match eT h 40 T l with|some (x,m,[])=>af (x,m)|_=>ah)
 |x=>iD h T x
def nS:Nat->(T:Ty)->T.den->Nat->Nat->Bool->Option TV
 |0,_,_,_,_,_=>ah
 |n+1,.st t,v,off,sz,ag=>if aB off 0&&aB sz t.size&&ag then af (.f (.st t) v) else nS n t v off sz ag
 |n+1,.pr a b,v,off,sz,ag=>if gd off a.size then nS n a v.1 off sz ag else nS n b v.2 (off-a.size) sz ag
 |_+1,.un,_,_,_,_=>ah
 |n+1,.ex,v,off,sz,ag=>if aB off 0&&aB sz 4&&ag then af (.f .ex v) else nS n L_ (MS v) off sz ag
 |n+1,.sm,v,off,sz,ag=>if aB off 0&&aB sz 11&&ag then af (.f .sm v) else nS n LK (MR v) off sz ag
 |_+1,.int k,v,off,sz,ag=>if aB off 0&&aB sz 1&& !ag then af (.f (.int k) v) else ah
 |_+1,.bool,v,off,sz,ag=>if aB off 0&&aB sz 1&& !ag then af (.f .bool v) else ah
 |_+1,.str,v,off,sz,ag=>if aB off 0&&aB sz 1&& !ag then af (.f .str v) else ah
 |_+1,.sl t,v,off,sz,ag=>if aB off 0&&aB sz 1&& !ag then af (.f (.sl t) v) else ah
def gI (h:bf) (x:TV):Nat->(T:Ty)->T.den->Nat->Nat->Option (T.den×Nat)
 |0,_,_,_,_=>ah
 |n+1,.st t,v,off,sz=>match (if aB off 0&&aB sz t.size then Di h (.st t) x else ah) with
  |some y=>af y
  |none=>gI h x n t v off sz
 |n+1,.pr a b,v,off,sz=>if gd off a.size then (match gI h x n a v.1 off sz with|some (y,m)=>af ((y,v.2),m)|none=>ah) else (match gI h x n b v.2 (off-a.size) sz with|some (y,m)=>af ((v.1,y),m)|none=>ah)
 |_+1,.un,_,_,_=>ah
 |n+1,.ex,v,off,sz=>match (if aB off 0&&aB sz 4 then Di h .ex x else ah) with
  |some y=>af y
  |none=>(match gI h x n L_ (MS v) off sz with|some (y,m)=>af (dT y,m)|none=>ah)
 |n+1,.sm,v,off,sz=>match (if aB off 0&&aB sz 11 then Di h .sm x else ah) with
  |some y=>af y
  |none=>(match gI h x n LK (MR v) off sz with|some (y,m)=>af (nE y,m)|none=>ah)
 |_+1,.int k,_,off,sz=>if aB off 0&&aB sz 1 then iD h (.int k) x else ah
 |_+1,.bool,_,off,sz=>if aB off 0&&aB sz 1 then iD h .bool x else ah
 |_+1,.str,_,off,sz=>if aB off 0&&aB sz 1 then iD h .str x else ah
 |_+1,.sl t,_,off,sz=>if aB off 0&&aB sz 1 then iD h (.sl t) x else ah
def ym (h:bf) (T:Ty):Nat->List TV->Option (List T.den×Nat)
 |0,[]=>af ([],0)
 |0,_::_=>ah
 |n+1,l=>match eT h 40 T l with
  |some (x,m,r)=>(match ym h T n r with|some (xs,m')=>af (x::xs,m|||m')|none=>ah)
  |none=>ah
def sD:Ty->List Value
 |.int k=>[.int k 0]
 |.bool=>[.bool aj]
 |.str=>[.string ⟨#[]⟩]
 |.sl _=>[.slice ah 0 0]
 |.st t=>sD t
 |.pr a b=>sD a++sD b
 |.un=>[]
 |.ex=>[.int .i64 0,.int .i64 0,.string ⟨#[]⟩,.slice ah 0 0]
 |.sm=>[.int .i64 0,.int .i64 0,.string ⟨#[]⟩,.string ⟨#[]⟩,.slice ah 0 0,.int .i64 0,.int .i64 0,.string ⟨#[]⟩,.slice ah 0 0,.slice ah 0 0,.slice ah 0 0]
def RC:List Value->List Value->Bool
 |[],[]=>ai
 |x::xs,y::I=>agi x y&&RC xs I
 |_,_=>aj
def Ty.flat:Ty->Bool
 |.int _=>ai
 |.bool=>ai
 |.str=>ai
 |.st t=>t.flat
 |.pr a b=>a.flat&&b.flat
 |.un=>ai
 |_=>aj
def qJ:List TypeDesc->Option Ty
 |[]=>af .un
 |.int k::r=>match qJ r with|some t=>af (.pr (.int k) t)|none=>ah
 |.bool::r=>match qJ r with|some t=>af (.pr .bool t)|none=>ah
 |.string::r=>match qJ r with|some t=>af (.pr .str t)|none=>ah
 |_=>ah
inductive PV where
 |d (T:Ty)
 |ptr (id off:Nat)
 |row (id:Nat)
 |csl (id sz n:Nat)
 |mp (id:Nat)
 |nil
 |emp
 |clo (q:FuncId) (id off:Nat)
 |agg (l:List PV)
inductive PB where
 |rows (ty:TypeId) (p:Bool) (T:Ty)
 |rowsP (ty:TypeId) (T:Ty)
 |cells (ty:TypeId) (l:List PV)
 |mp (K V:Ty)
 |gone
mutual
def PV.ty:PV->Ty
 |.d T=>T
 |.agg l=>PV.tyL l
 |.ptr _ _=>.un
 |.row _=>.un
 |.csl _ _ _=>.un
 |.clo _ _ _=>.un
 |.mp _=>.un
 |.nil=>.un
 |.emp=>.un
def PV.tyL:List PV->Ty
 |[]=>.un
 |p::r=>spr p.ty (PV.tyL r)
end
def PB.ty:PB->Ty
 |.rows _ _ T=>.sl T
 |.rowsP _ T=>.pr .bool (.sl T)
 |.cells _ l=>PV.tyL l
 |.mp K V=>.sl (.pr K V)
 |.gone=>.un
def PB.tyL:List PB->Ty
 |[]=>.un
 |p::r=>spr p.ty (PB.tyL r)
structure Tm where
 vs:List PV
 bs:List PB
def Tm.ty (t:Tm):Ty:=spr (PV.tyL t.vs) (PB.tyL t.bs)
mutual
def pf (g:Nat->Nat) (h:bf):(p:PV)->List TV->Option (p.ty.den×Nat×List TV)
 |.d T,l=>eT h 40 T l
 |.ptr i o,l=>match l with|.ptr i' o'::r=>if aB (g i) i'&&aB o o' then af ((),0,r) else ah|_=>ah
 |.row i,l=>match l with|.row i'::r=>if aB (g i) i' then af ((),0,r) else ah|_=>ah
 |.csl i s n,l=>match l with|.csl i' s' n'::r=>if aB (g i) i'&&aB s s'&&aB n n' then af ((),0,r) else ah|_=>ah
 |.clo q i o,l=>match l with|.clo q' [.ptr i' o']::r=>if aB q q'&&aB (g i) i'&&aB o o' then af ((),0,r) else ah|_=>ah
 |.mp i,l=>match l with|.mp i'::r=>if aB (g i) i' then af ((),0,r) else ah|_=>ah
 |.nil,l=>match l with|.nil::r=>af ((),0,r)|_=>ah
 |.emp,l=>match l with|.nil::r=>af ((),0,r)|.emp::r=>af ((),0,r)|_=>ah
 |.agg ps,l=>yL g h ps l
def yL (g:Nat->Nat) (h:bf):(ps:List PV)->List TV->Option ((PV.tyL ps).den×Nat×List TV)
 |[],l=>af ((),0,l)
 |p::r,l=>match pf g h p l with
  |some (x,m,l')=>(match yL g h r l' with|some (y,m',l'')=>af (S_ p.ty (PV.tyL r) x y,m|||m',l'')|none=>ah)
  |none=>ah
end
def xc (g:Nat->Nat) (h:bf):(p:PV)->TV->Option (p.ty.den×Nat)
 |.d T,v=>Di h T v
 |.agg ps,v=>if v.isC then ah else (match v.cs with
  |some l=>(match yL g h ps l with|some (x,m,[])=>af (x,m)|_=>ah)
  |none=>ah)
 |.ptr i o,v=>match pf g h (.ptr i o) [v] with|some (x,m,_)=>af (x,m)|none=>ah
 |.row i,v=>match pf g h (.row i) [v] with|some (x,m,_)=>af (x,m)|none=>ah
 |.csl i s n,v=>match pf g h (.csl i s n) [v] with|some (x,m,_)=>af (x,m)|none=>ah
 |.clo q i o,v=>match pf g h (.clo q i o) [v] with|some (x,m,_)=>af (x,m)|none=>ah
 |.mp i,v=>match pf g h (.mp i) [v] with|some (x,m,_)=>af (x,m)|none=>ah
 |.nil,v=>match pf g h .nil [v] with|some (x,m,_)=>af (x,m)|none=>ah
 |.emp,v=>match pf g h .emp [v] with|some (x,m,_)=>af (x,m)|none=>ah
def xF (g:Nat->Nat) (h:bf):(ps:List PV)->List TV->Option ((PV.tyL ps).den×Nat)
 |[],[]=>af ((),0)
 |p::r,v::vs=>match xc g h p v with
  |some (x,m)=>(match xF g h r vs with|some (y,m')=>af (S_ p.ty (PV.tyL r) x y,m|||m')|none=>ah)
  |none=>ah
 |[],_::_=>ah
 |_::_,[]=>ah
def Eb (g:Nat->Nat) (h:bf) (i:Nat):(b:PB)->Option (b.ty.den×Nat)
 |.rows ty p T=>match h.get (g i) with
  |some (.rows ty' I S xs)=>if ty==ty'&&p==I then (match wy (S:=.sl S) (.sl T) xs with|some x=>af (x,0)|none=>ah) else ah
  |_=>ah
 |.rowsP ty T=>match h.get (g i) with
  |some (.rows ty' I S xs)=>if ty==ty' then (match wy (S:=.sl S) (.sl T) xs with|some x=>af ((I,x),0)|none=>ah) else ah
  |_=>ah
 |.cells ty ps=>match h.get (g i) with
  |some (.cells ty' l)=>if ty==ty' then (match yL g h ps l with|some (x,m,[])=>af (x,m)|_=>ah) else ah
  |_=>ah
 |.mp K V=>match h.get (g i) with
  |some (.mp K' V' es)=>(match wy (S:=.sl (.pr K' V')) (.sl (.pr K V)) es with|some x=>af (x,0)|none=>ah)
  |_=>ah
 |.gone=>af ((),0)
def Am (g:Nat->Nat) (h:bf):Nat->(bs:List PB)->Option ((PB.tyL bs).den×Nat)
 |_,[]=>af ((),0)
 |i,b::r=>match Eb g h i b with
  |some (x,m)=>(match Am g h (i+1) r with|some (y,m')=>af (S_ b.ty (PB.tyL r) x y,m|||m')|none=>ah)
  |none=>ah
mutual
def pE (g:Nat->Nat):(p:PV)->p.ty.den->Option (List TV)
 |.d T,x=>cellsOf 40 T x
 |.ptr i o,_=>af [.ptr (g i) o]
 |.row i,_=>af [.row (g i)]
 |.csl i s n,_=>af [.csl (g i) s n]
 |.mp i,_=>af [.mp (g i)]
 |.clo q i o,_=>af [.clo q [.ptr (g i) o]]
 |.nil,_=>af [.nil]
 |.emp,_=>af [.emp]
 |.agg ps,x=>qH g ps x
def qH (g:Nat->Nat):(ps:List PV)->(PV.tyL ps).den->Option (List TV)
 |[],_=>af []
 |p::r,x=>match pE g p (NJ p.ty (PV.tyL r) x) with
  |some a=>(match qH g r (Ku p.ty (PV.tyL r) x) with|some b=>af (a++b)|none=>ah)
  |none=>ah
end
def sQ (g:Nat->Nat):(p:PV)->p.ty.den->Option TV
 |.d T,x=>af (.f T x)
 |.ptr i o,_=>af (.ptr (g i) o)
 |.row i,_=>af (.row (g i))
 |.csl i s n,_=>af (.csl (g i) s n)
 |.mp i,_=>af (.mp (g i))
 |.clo q i o,_=>af (.clo q [.ptr (g i) o])
 |.nil,_=>af .nil
 |.emp,_=>af .emp
 |.agg ps,x=>match qH g ps x with|some l=>af (.agg l)|none=>ah
def pK (g:Nat->Nat):(ps:List PV)->(PV.tyL ps).den->Option (List TV)
 |[],_=>af []
 |p::r,x=>match sQ g p (NJ p.ty (PV.tyL r) x) with
  |some a=>(match pK g r (Ku p.ty (PV.tyL r) x) with|some b=>af (a::b)|none=>ah)
  |none=>ah
def B7 (g:Nat->Nat):(b:PB)->b.ty.den->Option (Option im)
 |.rows ty p T,x=>af (af (.rows ty p T x))
 |.rowsP ty T,x=>af (af (.rows ty x.1 T x.2))
 |.cells ty ps,x=>match qH g ps x with|some l=>af (af (.cells ty l))|none=>ah
 |.mp K V,x=>af (af (.mp K V x))
 |.gone,_=>af ah
def uJ:im->im
 |.rows _ p T xs=>.dead p T.size xs.length
 |.cells _ _=>.dead ai 0 0
 |.mp _ _ _=>.dead ai 0 0
 |.dead p sz n=>.dead p sz n
def kill (h:bf) (i:Nat):bf:=match h.get i with
 |some b=>h.set i (af (uJ b))
 |none=>h
def oo (g:Nat->Nat):(bs:List PB)->(PB.tyL bs).den->Option (List (Option im))
 |[],_=>af []
 |b::r,x=>match B7 g b (NJ b.ty (PB.tyL r) x) with
  |some c=>(match oo g r (Ku b.ty (PB.tyL r) x) with|some l=>af (c::l)|none=>ah)
  |none=>ah
def zZ (g:Nat->Nat):Nat->List (Option im)->bf->bf
 |_,[],h=>h
 |i,af c::r,h=>zZ g (i+1) r (h.set (g i) (af c))
 |i,ah::r,h=>zZ g (i+1) r (kill h (g i))
def LO (g:Nat->Nat) (bs:List PB) (x:(PB.tyL bs).den) (h:bf):Option bf:=match oo g bs x with
 |some l=>af (zZ g 0 l h)
 |none=>ah
def sH {K V:Ty} (k:K.den):List (K.den×V.den)->Option V.den
 |[]=>ah
 |(k',v)::r=>if OO K k k' then af v else sH k r
def HZ {K V:Ty} (k:K.den) (v:V.den):List (K.den×V.den)->List (K.den×V.den)
 |[]=>[(k,v)]
 |(k',I)::r=>if OO K k k' then (k,v)::r else (k',I)::HZ k v r
def Nf {K V:Ty} (k:K.den) (es:List (K.den×V.den)):Bool:=match sH k es with|some _=>ai|none=>aj
def E8 {K V:Ty} (k:K.den) (es:List (K.den×V.den)) (z:V.den):V.den:=match sH k es with|some v=>v|none=>z
def aj2 (T:Ty):Nat->Ty
 |0=>.un
 |1=>T
 |n+2=>.pr T (aj2 T (n+1))
def kwT:Ty:=.st (aj2 .str 22)
def kwV:kwT.den:=([118,97,114],[118,111,108,97,116,105,108,101],[109,117,116,101,120],[114,119,108,111,99,107],[99,111,110,100],[102,117,116,117,114,101],[116,104,114,101,97,100],[105,102],[101,108,115,101],[119,104,105,108,101],[108,111,99,107],[114,101,97,100],[119,114,105,116,101],[116,114,97,110,115,97,99,116,105,111,110],[97,116,111,109,105,99],[119,97,105,116],[110,111,116,105,102,121],[110,111,116,105,102,121,97,108,108],[115,112,97,119,110],[106,111,105,110],[115,101,116],[103,101,116])
@[simp] theorem dl {R:Type} (t f:Option R):bcase ai t f=t:=Eq.trans rfl rfl
@[simp] theorem dH {R:Type} (t f:Option R):bcase aj t f=f:=Eq.trans rfl rfl
@[simp] theorem chk_t {R:Type} (k:ai=ai->Option R):chk ai k=k rfl:=Eq.trans rfl rfl
theorem cA {R:Type} {b:Bool} (h:b=ai) (k:Option R):chk b (λ_=>k)=k:=by cases b with|true=>rfl|false=>cases h
@[simp] theorem cW {α R:Type} (x:α) (k:α->Option R):obind (af x) k=k x:=Eq.trans rfl rfl
@[simp] theorem me {α R:Type} (x:α) (k:α->Option R):jn (af (.inr x)) k=k x:=Eq.trans rfl rfl
@[simp] theorem jn_l {α R:Type} (r:R) (k:α->Option R):jn (af (.inl r)) k=af r:=Eq.trans rfl rfl
theorem ac4 {σ R:Type} {f:σ->Option (σ⊕R)} {n:Nat} {x:σ} {r:R} (h:iterN f n x=af r) (hn:n<=18446744073709551616):fX f x=af r:=yF h hn
theorem vW {σ R:Type} {f:σ->Option (σ⊕R)} (n:Nat) (hn:n<18446744073709551616) (st:Nat->σ) {r:R} (h0:∀ i,i<n->f (st i)=af (.inl (st (i+1)))) (h1:f (st n)=af (.inr r)):fX f (st 0)=af r:=by
 have key:∀ k i,i+k=n->iterN f (k+1) (st i)=af r:=by
  intro k;induction k with
  |zero=>intro i hi;have:i=n:=by omega
         subst this;simp only[iterN,h1]
  |succ k I=>intro i hi;rw[iterN,h0 i (by omega)];exact I (i+1) (by omega)
 exact ac4 (key n 0 (by omega)) (by omega)
@[simp] theorem Zn {a b:Int}:cV a b=ai↔a<=b:=by unfold cV;simp
@[simp] theorem Zm {a b:Int}:fP a b=ai↔a<b:=by unfold fP;simp
theorem qI {a b:Int} (h:a<=b):cV a b=ai:=Zn.2 h
theorem tV {a b:Int} (h:a<b):fP a b=ai:=Zm.2 h
theorem Zo {a b:Int} (h:b<a):cV a b=aj:=by unfold cV;simp;omega
theorem uK {a b:Int} (h:b<=a):fP a b=aj:=by unfold fP;simp;omega
theorem ajb {j:Int} {n:Nat} (h0:0<=j) (h1:j<n):fe j n=ai:=by unfold fe;rw[qI h0,tV h1];rfl
theorem cY {j n:Nat} (h1:j<n):fe (j:Int) n=ai:=ajb (by omega) (by omega)
theorem wP {n b:Nat} (h0:n<=1099511627776) (h1:n*b<=1099511627776):bc n b=ai:=by
 unfold bc;rw[bB h0,bB h1];rfl
theorem aea {n:Int} (h0: -9223372036854775808<=n) (h1:n<=9223372036854775807):bl .i64 n=n:=by
 rw[G0];unfold LC;simp only[];rw[qI h0,qI h1];rfl
theorem nk {i n:Nat} (h:i<n) (hn:n<=1099511627776):bl .i64 ((i:Int)+1)=((i+1:Nat):Int):=by
 rw[aea (by omega) (by omega)];omega
theorem tR (a b:Nat):j9 (aO a) (aO b)=((max a b:Nat):Int):=by
 unfold j9;by_cases h:a<b
 .rw[tV (by simp;omega),aF rfl];simp;omega
 .rw[uK (by simp;omega)];simp;omega
theorem ua {T:Ty} (xs:List T.den) (i:Nat):aJ xs (i:Int)=xs.getD i T.zero:=by unfold aJ;simp
theorem mf (xs:List (List Int)) (i:Nat):aJ (T:=.sl (.int .i64)) xs (i:Int)=xs.getD i []:=ua (T:=.sl (.int .i64)) xs i
theorem ag4 (xs:List Int) (i:Nat):aJ (T:=.int .i64) xs (i:Int)=xs.getD i 0:=ua (T:=.int .i64) xs i
theorem eM {α:Type} (xs:List α) (i:Nat) (x:α):cq xs (i:Int) x=xs.set i x:=by unfold cq;simp
structure cu where
 pre:Tm
 post:Tm
 m:pre.ty.den->Option post.ty.den
mutual
def aez:PV->List TV->PT Nat->PT Nat×List TV
 |.d T,l,σ=>(σ,l.drop T.size)
 |.ptr i _,l,σ=>match l with|.ptr a _::r=>(σ.set i (af a),r)|l=>(σ,l.drop 1)
 |.row i,l,σ=>match l with|.row a::r=>(σ.set i (af a),r)|l=>(σ,l.drop 1)
 |.csl i _ _,l,σ=>match l with|.csl a _ _::r=>(σ.set i (af a),r)|l=>(σ,l.drop 1)
 |.mp i,l,σ=>match l with|.mp a::r=>(σ.set i (af a),r)|l=>(σ,l.drop 1)
 |.clo _ i _,l,σ=>match l with|.clo _ [.ptr a _]::r=>(σ.set i (af a),r)|l=>(σ,l.drop 1)
 |.nil,l,σ=>(σ,l.drop 1)
 |.emp,l,σ=>(σ,l.drop 1)
 |.agg ps,l,σ=>UI ps l σ
def UI:List PV->List TV->PT Nat->PT Nat×List TV
 |[],l,σ=>(σ,l)
 |p::r,l,σ=>match aez p l σ with|(σ',l')=>UI r l' σ'
end
def ajw (p:PV) (v:TV) (σ:PT Nat):PT Nat:=match p with
 |.d _=>σ
 |p=>match v.cs with|some l=>(aez p l σ).1|none=>σ
def Z6:List PV->List TV->PT Nat->PT Nat
 |p::r,v::vs,σ=>Z6 r vs (ajw p v σ)
 |_,_,σ=>σ
def UJ (h:bf):Nat->List PB->PT Nat->PT Nat
 |_,[],σ=>σ
 |i,b::r,σ=>UJ h (i+1) r (match b with
  |.cells _ ps=>(match σ.get i with
   |some a=>(match h.get a with|some (.cells _ l)=>(UI ps l σ).1|_=>σ)
   |none=>σ)
  |_=>σ)
def hZ (σ:PT Nat) (i:Nat):Nat:=match σ.get i with|some a=>a|none=>0
def YJ (σ:PT Nat):Nat->Nat->Nat->Option Nat
 |0,_,acc=>af acc
 |n+1,i,acc=>match σ.get i with
  |some a=>if aN acc a then ah else YJ σ n (i+1) (acc|||kG a)
  |none=>ah
def idn:Nat->PT Nat
 |0=>.leaf
 |n+1=>(idn n).set n (af n)
def VR (σ:PT Nat):Nat->Bool
 |0=>ai
 |n+1=>(match σ.get n with|some a=>aB a n|none=>aj)&&VR σ n
structure afd (t:Tm) where
 x:t.ty.den
 m:Nat
 σ:PT Nat
 sm:Nat
def DM (np:Nat) (t:Tm) (vs:List TV) (h:bf):Option (afd t):=
 Ql (UJ h 0 t.bs (UJ h 0 t.bs (Z6 t.vs vs (idn np)))) λσ=>
 match YJ σ t.bs.length 0 0 with
 |some sm=>(match xF (hZ σ) h t.vs vs with
  |some (x,m)=>(match Am (hZ σ) h 0 t.bs with
   |some (y,m')=>if C7 (m|||m') sm&&VR σ np then af ⟨S_ _ _ x y,m|||m',σ,sm⟩ else ah
   |none=>ah)
  |none=>ah)
 |none=>ah
def PT.updI {α:Type} (f:Nat->α->α):Nat->Nat->PT α->PT α
 |_,_,.leaf=>.leaf
 |a,b,.node v l r=>.node (match v with|some x=>af (f b x)|none=>ah) (PT.updI f (2*a) (a+b) l) (PT.updI f (2*a) (2*a+b) r)
def em (m:Nat) (h:bf):bf:=if aB m 0 then h else PT.updI (λi b=>if aN m i then uJ b else b) 1 0 h
def Tg:Operand->Bool
 |.const (.agg _)=>ai
 |_=>aj
def fI (e:iK):Operand->Option TV
 |.tmp t=>e.get t
 |.const v=>aga v
 |.func g=>af (.clo g [])
 |.global g=>match G g with|some _=>af (.fel kwT [kwV] 0 (Eq.refl ai) 0)|none=>ah
def E4 (e:iK):List Operand->Option (List TV)
 |[]=>af []
 |x::xs=>match fI e x with|some y=>(match E4 e xs with|some I=>af (y::I)|none=>ah)|none=>ah
def IQ (cells:List TV) (e:iK):List (Nat×Nat×Operand)->Option (List TV)
 |[]=>af cells
 |(off,sz,x)::r=>match fI e x with
  |some v=>(match v.cs with
   |some cs=>if cs.length==sz&&eB (off+sz) cells.length then IQ (splice cells off cs) e r else ah
   |none=>ah)
  |none=>ah
def Sw (l:List TV) (off sz:Nat):Bool->Option TV
 |false=>if aB sz 1 then l[off]? else ah
 |true=>if eB (off+sz) l.length then af (.agg ((l.drop off).take sz)) else ah
def eh (h:bf) (id:Nat):Option (Bool×Nat×Nat):=match h.get id with
 |some (.rows _ p T xs)=>af (p,T.size,xs.length)
 |some (.dead p sz n)=>af (p,sz,n)
 |_=>ah
def lenOf (h:bf):TV->Option Nat
 |.f (.sl _) xs=>af (al xs)
 |.emp=>af 0
 |.nil=>af 0
 |.row id=>match eh h id with|some (_,_,n)=>af n|none=>ah
 |.csl _ _ n=>af n
 |_=>ah
mutual
def KC (h:bf):TV->Bool
 |.row id=>(eh h id).isSome
 |.rtl id _=>(eh h id).isSome
 |.agg l=>kJ h l
 |.tup l=>kJ h l
 |.clo _ l=>kJ h l
 |.f _ _=>ai
 |.fel _ _ _ _ _=>ai
 |.pel _ _ _ _=>ai
 |.ptr _ _=>ai
 |.csl _ _ _=>ai
 |.emp=>ai
 |.nil=>ai
 |.mp _=>ai
 |.undef=>ai
 |.np=>ai
 |.anyb=>ai
def kJ (h:bf):List TV->Bool
 |[]=>ai
 |x::r=>KC h x&&kJ h r
end
mutual
def KF (n:Nat):TV->Bool
 |.row id=>gd id n
 |.rtl id _=>gd id n
 |.pel id _ _ _=>gd id n
 |.ptr id _=>gd id n
 |.csl id _ _=>gd id n
 |.mp id=>gd id n
 |.agg l=>rf n l
 |.tup l=>rf n l
 |.clo _ l=>rf n l
 |.f _ _=>ai
 |.fel _ _ _ _ _=>ai
 |.emp=>ai
 |.nil=>ai
 |.undef=>ai
 |.np=>ai
 |.anyb=>ai
def rf (n:Nat):List TV->Bool
 |[]=>ai
 |x::r=>KF n x&&rf n r
end
def Cl (t:Tm) (x:t.ty.den):Option (List TV×bf):=
 match pK (λi=>i) t.vs (NJ _ _ x) with
 |some vs=>(match LO (λi=>i) t.bs (Ku _ _ x) PT.leaf with
  |some h=>if kJ h vs&&rf t.bs.length vs&&PT.all (λ_ b=>match b with|.cells _ l=>kJ h l&&rf t.bs.length l|_=>ai) 1 0 h then af (vs,h) else ah
  |none=>ah)
 |none=>ah
abbrev KO (R:Type):=TV->Nat->Nat->bf->Nat->Option R
def Pe:List TV->TV
 |[x]=>x
 |l=>.tup l
def Bd:List PB->Bool
 |[]=>ai
 |.gone::_=>aj
 |_::r=>Bd r
def Hk:List PB->Bool
 |[]=>ai
 |.rows _ _ _::r=>Hk r
 |_::_=>aj
def tC (h h2:bf) (g:Nat->Nat):Nat->Bool
 |0=>ai
 |n+1=>(match eh h (g n) with
  |some (p,s,k)=>(match eh h2 (g n) with|some (I,s',k')=>(p==I)&&aB s s'&&aB k k'|none=>aj)
  |none=>ai)&&tC h h2 g n
def Wc {R:Type} (con:FuncId->Option cu) (f:FuncId) (l:List TV) (h:bf) (nx:Nat) (K:KO R):Option R:=
 match con f with
 |some c=>(match DM 0 c.pre l h with
  |some ⟨x,m,σ,sm⟩=>(match Cl c.pre x with
   |some _=>obind (c.m x) λy=>(match Cl c.post y with
    |some _=>if eB c.pre.bs.length c.post.bs.length&&Bd c.pre.bs then
      let np:=c.pre.bs.length
      let I:=c.post.bs.length-np
      let g:=λi=>if gd i np then hZ σ i else nx+(i-np)
      (match pK g c.post.vs (NJ _ _ y) with
      |some rs=>if !(aB m 0)&&aB c.post.bs.length 0&&(PV.tyL c.post.vs).flat then K (Pe rs) m 0 h nx else
       (match LO g c.post.bs (Ku _ _ y) (em m h) with
       |some h2=>chk (tC h h2 g np) λ_=>K (Pe rs) (sm|||m) (sm|||m|||(((1<<<I)-1)<<<nx)) h2 (nx+I)
       |none=>ah)
      |none=>ah) else if aB c.post.bs.length 0&&Hk c.pre.bs then
      let np:=c.pre.bs.length
      let g:=λi=>if gd i np then hZ σ i else nx+(i-np)
      (match pK g c.post.vs (NJ _ _ y) with
      |some rs=>(match LO g c.pre.bs (Ku _ _ x) (em m h) with
       |some h2=>K (Pe rs) (sm|||m) m h2 nx
       |none=>ah)
      |none=>ah) else ah
    |none=>ah)
   |none=>ah)
  |none=>ah)
 |none=>ah
def agh {R:Type} (op:BinOp) (x y:TV) (q:TV->Option R):Option R:=
 match x,y with
 |.f (.int k) a,.f (.int k') b=>if k==k' then
   (match op with
   |.add=>q (.f (.int k) (bl k (a+b)))
   |.sub=>q (.f (.int k) (bl k (a-b)))
   |.mul=>q (.f (.int k) (bl k (a*b)))
   |.rem=>chk (!decide ((b:Int)=0)) λ_=>q (.f (.int k) (zB a b))
   |.quo=>chk (!decide ((b:Int)=0)) λ_=>q (.f (.int k) (bl k (Int.tdiv a b)))
   |.eql=>q (.f .bool (decide ((a:Int)=b)))
   |.neq=>q (.f .bool (!decide ((a:Int)=b)))
   |.lss=>q (.f .bool (fP a b))
   |.leq=>q (.f .bool (cV a b))
   |.gtr=>q (.f .bool (fP b a))
   |.geq=>q (.f .bool (cV b a))
   |_=>ah)
  else ah
 |.f .str a,.f .str b=>match op with
   |.eql=>q (.f .bool (decide ((a:List UInt8)=b)))
   |.neq=>q (.f .bool (!decide ((a:List UInt8)=b)))
   |_=>ah
 |_,_=>ah
def WS:Bool->Ty->Bool
 |false,.int _=>ai
 |true,.str=>ai
 |_,_=>aj
abbrev itK:Ty:=.st (.pr .str (.int .i64))
def isIt:Ty->Bool
 |.st (.pr .str (.int .i64))=>ai
 |_=>aj
def S8 (K:Ty):Bool:= !isIt K
def ON:List ((List UInt8×Int)×Unit)->List UInt8
 |[]=>[]
 |e::_=>e.1.1
def Nl:List ((List UInt8×Int)×Unit)->Nat
 |[]=>0
 |e::_=>aS e.1.2
def itE:(K V:Ty)->List (K.den×V.den)->Option (List UInt8×Nat)
 |.st (.pr .str (.int .i64)),.un,es=>af (ON es,Nl es)
 |_,_,_=>ah
def mpE:(K V:Ty)->List (K.den×V.den)->Bool
 |.un,.un,[]=>ai
 |_,_,_=>aj
def yc (T:Ty):List TV->Option (List T.den)
 |[]=>af []
 |.f S v::r=>match wy (S:=S) T v with
  |some x=>(match yc T r with|some l=>af (x::l)|none=>ah)
  |none=>ah
 |_::_=>ah
def Z9:List TV->Option ((T:Ty)×List T.den)
 |.f T v::r=>match yc T (.f T v::r) with|some l=>af ⟨T,l⟩|none=>ah
 |_=>ah
def ajd (n sz:Nat) (v:TV):Bool->Option ((T:Ty)×List T.den)
 |true=>ah
 |false=>if aB sz 1&& !v.isC then (match v.cs with|some l=>if aB l.length n then Z9 l else ah|none=>ah) else ah
def arrB (n sz off:Nat):Option im->Option ((T:Ty)×List T.den)
 |some (.cells _ l)=>if aB sz 1&&aB off 0&&aB l.length n then Z9 l else ah
 |_=>ah
def aet:Ty->Nat
 |.pr .un t=>aet t+1
 |_=>0
def Db:Option Ty->Option Nat
 |some (.pr .un t)=>af (aet t)
 |_=>ah
def aew {R:Type} (ty:TypeId) (sz bytes:Nat) (b y:TV) (h:bf) (nx:Nat) (K:KO R):Option R:=match y with
 |.csl id2 sz2 m=>(match h.get id2 with
  |some (.cells _ l2)=>if aB sz2 sz&&aB l2.length (m*sz)&& !(aB m 0) then (match b with
   |.csl id sz1 n=>(match h.get id with
    |some (.cells ty1 l)=>if aB sz1 sz&&ty1==ty&&aB l.length (n*sz)&& !(aB id id2) then
      chk (bc (n+m) bytes) λ_=>K (.csl nx sz (n+m)) (kG id|||kG id2) (kG id|||kG nx) ((h.set id (af (.dead ai 0 0))).set nx (af (.cells ty (l++l2)))) (nx+1) else ah
    |_=>ah)
   |.nil=>chk (bc m bytes) λ_=>K (.csl nx sz m) (kG id2) (0|||kG nx) ((em 0 h).set nx (af (.cells ty l2))) (nx+1)
   |_=>ah) else ah
  |_=>ah)
 |_=>ah
def pkT (ok:Bool) (v b:TV):TV:=match ok with|true=>.tup [v,b]|false=>v
def dO {R:Type} (con:FuncId->Option cu) (b9:TypeId->Option Ty) (o:SI) (e:iK) (h:bf) (nx:Nat) (K:KO R):Option R:=
 match o with
 |.call f args=>match E4 e args with|some l=>Wc con f l h nx K|none=>ah
 |.callv x args=>match fI e x,E4 e args with
  |some (.clo f cap),af l=>Wc con f (l++cap) h nx K
  |_,_=>ah
 |.op s=>match s with
  |.mksl ty sz bytes z l c=>match Db (b9 ty) with
   |some n=>(match Jw z,fI e l,fI e c with
    |some J,af (.f (.int _) a),af (.f (.int _) b)=>chk (cV 0 a&&cV a b&&bc (aS b) bytes&&decide ((a:Int)=aO n)) λ_=>K (.csl nx sz n) 0 (0|||kG nx) ((em 0 h).set nx (af (.cells ty (aG n J).flatten))) (nx+1)
    |_,_,_=>ah)
   |none=>match b9 ty,fI e l,fI e c with
   |some T,af (.f (.int _) a),af (.f (.int _) b)=>if aB sz T.size&&RC z (sD T) then
     chk (cV 0 a&&cV a b&&bc (aS b) bytes) λ_=>K (.row nx) 0 (kG nx) (h.set nx (af (.rows ty aj T (aG (aS a) T.zero)))) (nx+1) else ah
   |_,_,_=>ah
  |.bsl ty sz len z parts=>match Db (b9 ty) with
   |some _=>(match Jw z with
    |some J=>(match IQ ((aG len J).flatten) e parts with
     |some cs=>if aB len 0 then ah else K (.csl nx sz len) 0 (0|||kG nx) ((em 0 h).set nx (af (.cells ty cs))) (nx+1)
     |none=>ah)
    |none=>ah)
   |none=>match b9 ty,Jw z with
   |some T,af J=>if aB sz T.size then (match IQ ((aG len J).flatten) e parts with
    |some cs=>(match ym h T len cs with
     |some (xs,m)=>K (.row nx) m (m|||kG nx) ((em m h).set nx (af (.rows ty (aB len 0) T xs))) (nx+1)
     |none=>ah)
    |none=>ah) else ah
   |_,_=>ah
  |.app ty sz bytes s x=>match Db (b9 ty) with
   |some _=>(match fI e s,fI e x with
    |some b,af y=>aew ty sz bytes b y h nx K
    |_,_=>ah)
   |none=>match b9 ty,fI e s,fI e x with
   |some T,af b,af y=>if aB sz T.size then (match Di h (.sl T) y with
    |some (I,m)=>(match b with
     |.row id=>(match h.get id with
      |some (.rows ty' p S xs)=>(match wy (S:=.sl S) (.sl T) xs with
       |some xs=>if ty'==ty&& !(aN m id) then
         chk (bc (al xs+al I) bytes) λ_=>K (.row nx) (kG id|||m) (kG id|||kG nx) ((h.set id (af (.dead p sz (al xs)))).set nx (af (.rows ty p T (xs++I)))) (nx+1)
        else ah
       |none=>ah)
      |_=>ah)
     |.emp=>chk (bc (al I) bytes) λ_=>K (.row nx) m (kG nx) (h.set nx (af (.rows ty ai T I))) (nx+1)
     |.nil=>chk (bc (al I) bytes) λ_=>K (.row nx) m (kG nx) (h.set nx (af (.rows ty ai T I))) (nx+1)
     |_=>ah)
    |none=>ah) else ah
   |_,_,_=>ah
  |.copy sz d x=>match fI e d,fI e x with
   |some (.row id),af y=>(match h.get id with
    |some (.rows ty p T xs)=>if aB sz T.size then (match Di h (.sl T) y with
     |some (I,m)=>if !(aN m id)&& !p then
       K (.f (.int .i64) (aO (iN (al I) (al xs)))) (kG id|||m) (kG id) (h.set id (af (.rows ty p T (Sm xs I)))) nx else ah
     |none=>ah) else ah
    |_=>ah)
   |_,_=>ah
  |.clr sz z x=>match fI e x with
   |some (.rtl id j)=>(match h.get id with
    |some (.rows ty p T xs)=>if (aB sz T.size&&RC z (sD T))&&mq z then
      chk (cV 0 j&&fP j (al xs)) λ_=>K (.tup []) (kG id) (0|||kG id) ((em 0 h).set id (af (.rows ty p T (du (aS j) xs++aG (al xs-aS j) T.zero)))) nx
     else ah
    |_=>ah)
   |_=>ah
  |.mv x=>match fI e x with|some v=>K v 0 0 h nx|none=>ah
  |.pick c a b=>match fI e c with
   |some (.f .bool t)=>bcase t (match fI e a with|some v=>K v 0 0 h nx|none=>ah) (match fI e b with|some v=>K v 0 0 h nx|none=>ah)
   |_=>ah
  |.alloc ty z=>match Jw z with
   |some l=>K (.ptr nx 0) 0 (kG nx) (h.set nx (af (.cells ty l))) (nx+1)
   |none=>ah
  |.box ty x=>match fI e x with
   |some v=>(match v.cs with|some l=>K (.ptr nx 0) 0 (kG nx) (h.set nx (af (.cells ty l))) (nx+1)|none=>ah)
   |none=>ah
  |.build z parts=>match Jw z with
   |some l=>(match IQ l e parts with|some cs=>K (.agg cs) 0 0 h nx|none=>ah)
   |none=>ah
  |.load sz ag x=>match fI e x with
   |some (.ptr id off)=>(match h.get id with
    |some (.cells _ l)=>(match Sw l off sz ag with|some v=>K v (kG id) 0 h nx|none=>ah)
    |_=>ah)
   |some (.pel id sz' j off)=>(match h.get id with
    |some (.rows _ _ T xs)=>if aB sz' T.size then chk (fe j xs.length) λ_=>(match nS 40 T (aJ xs j) off sz ag with|some v=>K v (kG id) 0 h nx|none=>ah) else ah
    |some (.cells _ l)=>(match ag with
     |true=>ah
     |false=>if aB sz 1&&aB sz' 1&&aB off 0 then (match Z9 l with
      |some ⟨T,xs⟩=>chk (fe j l.length) λ_=>K (.f T (aJ xs j)) (kG id) 0 h nx
      |none=>ah) else ah)
    |_=>ah)
   |some (.fel T xs j _ off)=>(match nS 40 T (aJ xs j) off sz ag with|some v=>K v 0 0 h nx|none=>ah)
   |_=>ah
  |.store sz x v=>match fI e x,fI e v with
   |some (.ptr id off),af y=>(match h.get id with
    |some (.cells ty l)=>(match y.cs with
     |some cs=>if cs.length==sz&&eB (off+sz) l.length then K .undef (kG id) (kG id) (h.set id (af (.cells ty (splice l off cs)))) nx else ah
     |none=>ah)
    |_=>ah)
   |some (.pel id sz' j off),af y=>(match h.get id with
    |some (.rows ty p T xs)=>if aB sz' T.size then chk (fe j xs.length) λ_=>(match gI h y 40 T (aJ xs j) off sz with
     |some (z,m)=>if aN m id then ah else K .undef (m|||kG id) (m|||kG id) ((em m h).set id (af (.rows ty p T (cq xs j z)))) nx
     |none=>ah) else ah
    |some (.cells ty l)=>if aB sz 1&&(aB sz' 1&&aB off 0) then chk (fe j l.length) λ_=>(match y.cs with
     |some cs=>if aB cs.length 1 then K .undef (kG id) (kG id) (h.set id (af (.cells ty (splice l j.toNat cs)))) nx else ah
     |none=>ah) else ah
    |_=>ah)
   |_,_=>ah
  |.nilc x=>match fI e x with
   |some (.ptr id off)=>K (.ptr id off) 0 0 h nx
   |some (.pel id sz j off)=>K (.pel id sz j off) 0 0 h nx
   |some (.fel T xs j hj off)=>K (.fel T xs j hj off) 0 0 h nx
   |some (.clo g cap)=>K (.clo g cap) 0 0 h nx
   |_=>ah
  |.bin op x y=>match fI e x,fI e y with
   |some u,af v=>agh op u v λr=>K r 0 0 h nx
   |_,_=>ah
  |.eqs neg ds x y=>match qJ ds,fI e x,fI e y with
   |some T,af u,af v=>if u.isC||v.isC||Tg x||Tg y then ah else (match u.cs,v.cs with
    |some lu,af lv=>(match eT PT.leaf 40 T lu,eT PT.leaf 40 T lv with
     |some (a,_,[]),af (b,_,[])=>K (.f .bool (OO T a b !=neg)) 0 0 h nx
     |_,_=>ah)
    |_,_=>ah)
   |_,_,_=>ah
  |.isnil neg x=>match fI e x with
   |some .nil=>K (.f .bool (!neg)) 0 0 h nx
   |some .emp=>K .anyb 0 0 h nx
   |some (.f (.sl _) xs)=>bcase (aB (al xs) 0) (K .anyb 0 0 h nx) (K (.f .bool neg) 0 0 h nx)
   |some (.row id)=>(match h.get id with
    |some (.rows _ aj _ _)=>K (.f .bool neg) 0 0 h nx
    |_=>ah)
   |_=>ah
  |.eqb neg x y=>match fI e x,fI e y with
   |some (.f .bool a),af (.f .bool b)=>K (.f .bool ((a==b) !=neg)) 0 0 h nx
   |_,_=>ah
  |.not x=>match fI e x with|some (.f .bool b)=>K (.f .bool (!b)) 0 0 h nx|_=>ah
  |.conv k x=>match fI e x with|some (.f (.int _) n)=>K (.f (.int k) (bl k n)) 0 0 h nx|_=>ah
  |.slc sz x lo hi mx=>match fI e x with
   |some v=>(match lo,hi,mx with
    |none,af (.const (.int _ 0)),af (.const (.int _ 0))=>if (lenOf h v).isSome then K .emp 0 0 h nx else ah
    |none,af b,ah=>(match v,fI e b with
     |.f (.sl T) xs,af (.f (.int _) j)=>if aB sz T.size then chk (cV 0 j&&cV j (al xs)) λ_=>K (.f (.sl T) (du (aS j) xs)) 0 0 h nx else ah
     |.row id,af (.f (.int _) j)=>(match h.get id with
      |some (.rows ty p T xs)=>if aB sz T.size then
        chk (cV 0 j&&fP j (al xs)) λ_=>K (.row nx) (kG id) (kG id|||kG nx) ((h.set id (af (.dead p sz (al xs)))).set nx (af (.rows ty aj T (du (aS j) xs)))) (nx+1)
       else ah
      |_=>ah)
     |_,_=>ah)
    |some b,ah,ah=>(match v,fI e b with
     |.f (.sl T) xs,af (.f (.int _) j)=>if aB sz T.size then chk (cV 0 j&&cV j (al xs)) λ_=>K (.f (.sl T) (List.drop (aS j) xs)) 0 0 h nx else ah
     |.row id,af (.f (.int _) j)=>(match h.get id with
      |some (.rows _ _ T xs)=>if aB sz T.size then chk (cV 0 j&&fP j (al xs)) λ_=>K (.rtl id j) 0 0 h nx else ah
      |_=>ah)
     |_,_=>ah)
    |_,_,_=>ah)
   |none=>ah
  |.fad off x=>match fI e x with
   |some (.ptr id o)=>K (.ptr id (o+off)) 0 0 h nx
   |some (.pel id sz j o)=>K (.pel id sz j (o+off)) 0 0 h nx
   |some (.fel T xs j hj o)=>K (.fel T xs j hj (o+off)) 0 0 h nx
   |_=>ah
  |.fld off sz ag x=>match fI e x with
   |some (.agg l)=>(match Sw l off sz ag with|some v=>K v 0 0 h nx|none=>ah)
   |some (.f T v)=>if T.one then ah else (match nS 40 T v off sz ag with|some v=>K v 0 0 h nx|none=>ah)
   |_=>ah
  |.iad sz x i=>match fI e x,fI e i with
   |some (.row id),af (.f (.int _) j)=>(match h.get id with
    |some (.rows _ _ T xs)=>if aB sz T.size then chk (fe j xs.length) λ_=>K (.pel id sz j 0) 0 0 h nx else ah
    |_=>ah)
   |some (.f (.sl T) xs),af (.f (.int _) j)=>if aB sz T.size then chk (fe j (al xs)) λhj=>K (.fel T xs j hj 0) 0 0 h nx else ah
   |some (.csl id sz' n),af (.f (.int _) j)=>if aB sz' sz then chk (cV 0 j&&fP j n) λ_=>K (.ptr id (aS j*sz)) 0 0 h nx else ah
   |_,_=>ah
  |.iada n sz x i=>match fI e x,fI e i with
   |some (.ptr id off),af (.f (.int _) j)=>(match arrB n sz off (h.get id) with
    |some _=>chk (cV 0 j&&fP j n) λ_=>K (.pel id sz j off) 0 0 h nx
    |none=>chk (cV 0 j&&fP j n) λ_=>K (.ptr id (off+aS j*sz)) 0 0 h nx)
   |_,_=>ah
  |.idx n sz ag x i=>match fI e x,fI e i with
   |some v,af (.f (.int _) j)=>(match ajd n sz v ag with
    |some ⟨T,xs⟩=>chk (cV 0 j&&fP j n) λ_=>K (.f T (aJ xs j)) 0 0 h nx
    |none=>(match v with
     |.agg l=>chk (cV 0 j&&fP j n) λ_=>(match Sw l (aS j*sz) sz ag with|some v=>K v 0 0 h nx|none=>ah)
     |.f T v=>if T.one then ah else chk (cV 0 j&&fP j n) λ_=>(match nS 40 T v (aS j*sz) sz ag with|some v=>K v 0 0 h nx|none=>ah)
     |_=>ah))
   |_,_=>ah
  |.ext x i=>match fI e x with|some (.tup l)=>(match l[i]? with|some v=>K v 0 0 h nx|none=>ah)|_=>ah
  |.len x=>match fI e x with
   |some v=>(match lenOf h v with|some n=>K (.f (.int .i64) (aO n)) 0 0 h nx|none=>ah)
   |none=>ah
  |.lens x=>match fI e x with
   |some (.f .str s)=>K (.f (.int .i64) (aO (al s))) 0 0 h nx
   |_=>ah
  |.max x y=>match fI e x,fI e y with
   |some (.f (.int k) a),af (.f (.int k') b)=>if k==k' then K (.f (.int k) (j9 a b)) 0 0 h nx else ah
   |_,_=>ah
  |.min x y=>match fI e x,fI e y with
   |some (.f (.int k) a),af (.f (.int k') b)=>if k==k' then K (.f (.int k) (Gh a b)) 0 0 h nx else ah
   |_,_=>ah
  |.sidx x i=>match fI e x,fI e i with
   |some (.f .str s),af (.f (.int _) j)=>chk (fe j (al s)) λ_=>K (.f (.int .u8) (zS s j)) 0 0 h nx
   |_,_=>ah
  |.rng x=>match fI e x with
   |some (.f .str s)=>K (.ptr nx 0) 0 (0|||kG nx) ((em 0 h).set nx (af (.mp itK .un [((s,0),())]))) (nx+1)
   |_=>ah
  |.nxt x=>match fI e x with
   |some (.ptr id 0)=>(match h.get id with
    |some (.mp K' V es)=>(match itE K' V es with
     |some (s,p)=>bcase (gd p (al s)) (chk (fP (zS s (aO p)) 128) λ_=>K (.tup [.f .bool ai,.f (.int .i64) (aO p),.f (.int .i32) (zS s (aO p))]) (kG id) (0|||kG id) ((em 0 h).set id (af (.mp itK .un [((s,aO (p+1)),())]))) nx)
       (K (.tup [.f .bool aj]) (kG id) (0|||kG id) ((em 0 h).set id (af (.mp itK .un [((s,aO p),())]))) nx)
     |none=>ah)
    |_=>ah)
   |_=>ah
  |.mkm=>K (.mp nx) 0 (0|||kG nx) ((em 0 h).set nx (af (.mp .un .un []))) (nx+1)
  |.lku str ok z x k=>match fI e x,fI e k with
   |some (.mp id),af (.f KT M)=>(match h.get id with
    |some (.mp K' V es)=>if WS str KT&&S8 K' then (match mpE K' V es with
     |true=>(match cst z with|some v=>K (pkT ok v (.f .bool aj)) (kG id) 0 h nx|none=>ah)
     |false=>(match wy (S:=KT) K' M,cst z with
      |some kv',af (.f Z Y)=>(match wy (S:=Z) V Y with
       |some zv'=>K (pkT ok (.f V (E8 kv' es zv')) (.f .bool (Nf kv' es))) (kG id) 0 h nx
       |none=>ah)
      |_,_=>ah)) else ah
    |_=>ah)
   |_,_=>ah
  |.mup str x k v=>match fI e x,fI e k,fI e v with
   |some (.mp id),af (.f KT M),af (.f VT U)=>(match h.get id with
    |some (.mp K' V es)=>if (WS str KT&&VT.one)&&S8 K' then (match mpE K' V es with
     |true=>K .undef (kG id) (0|||kG id) ((em 0 h).set id (af (.mp KT VT [(M,U)]))) nx
     |false=>(match wy (S:=KT) K' M,wy (S:=VT) V U with
      |some kv',af vv'=>K .undef (kG id) (0|||kG id) ((em 0 h).set id (af (.mp K' V (HZ kv' vv' es)))) nx
      |_,_=>ah)) else ah
    |_=>ah)
   |_,_,_=>ah
  |.lenm x=>match fI e x with
   |some (.mp id)=>(match h.get id with
    |some (.mp K' _ es)=>if S8 K' then K (.f (.int .i64) (aO es.length)) (kG id) 0 h nx else ah
    |_=>ah)
   |_=>ah
  |.mkf f caps=>match E4 e caps with|some l=>K (.clo f l) 0 0 h nx|none=>ah
  |_=>ah
def Yx {R:Type} (e:iK) (g:Option (Nat×Bool)) (K:Bool->iK->Option R):Option R:=match g with
 |none=>K ai e
 |some (t,want)=>match e.get t with
  |some (.f .bool b)=>(match want with
   |true=>bcase b (K ai (e.set t (af (.f .bool ai)))) (K aj (e.set t (af (.f .bool aj))))
   |false=>bcase b (K aj (e.set t (af (.f .bool ai)))) (K ai (e.set t (af (.f .bool aj)))))
  |some .undef=>K aj e
  |_=>ah
def DE (e:iK) (d:Option Nat) (v:TV):iK:=match d with
 |none=>e
 |some d=>e.set d (af v)
structure TS where
 e:iK
 h:bf
 nx:Nat
def Kz {R:Type} (con:FuncId->Option cu) (b9:TypeId->Option Ty):List r_->TS->List FPm->(TS->List FPm->Option R)->Option R
 |[],s,fs,K=>K s fs.reverse
 |o::r,s,fs,K=>Yx s.e o.guard λrun e=>match run with
  |true=>dO con b9 o.op e s.h s.nx λv rd wr h nx=>if KC h v then Kz con b9 r ⟨DE e o.dst v,h,nx⟩ (⟨rd,wr⟩::fs) K else ah
  |false=>Kz con b9 r ⟨DE e o.dst .undef,s.h,s.nx⟩ (⟨0,0⟩::fs) K
inductive Adj where
 |nil (k:Nat) (ty:TypeId) (T:Ty)
 |cel (k:Nat) (off:Nat) (ty:TypeId) (T:Ty)
 |mpt (k:Nat) (K V:Ty)
 |pk (k:Nat) (off:Nat) (T:Ty)
 |ren (k:Nat) (off:Nat)
mutual
def Kt (id sz n:Nat):TV->TV
 |.csl i s m=>if aB i id&&aB s sz&&aB m n then .row id else .csl i s m
 |.agg l=>.agg (BS id sz n l)
 |.tup l=>.tup (BS id sz n l)
 |.clo g l=>.clo g (BS id sz n l)
 |.f T v=>.f T v
 |.fel T xs j h off=>.fel T xs j h off
 |.pel a b c d=>.pel a b c d
 |.ptr a b=>.ptr a b
 |.row a=>.row a
 |.rtl a j=>.rtl a j
 |.emp=>.emp
 |.nil=>.nil
 |.mp a=>.mp a
 |.undef=>.undef
 |.np=>.np
 |.anyb=>.anyb
def BS (id sz n:Nat):List TV->List TV
 |[]=>[]
 |x::r=>Kt id sz n x::BS id sz n r
end
def WA (id sz n:Nat):im->im
 |.cells ty l=>.cells ty (BS id sz n l)
 |.rows ty p T xs=>.rows ty p T xs
 |.dead p s m=>.dead p s m
 |.mp K V es=>.mp K V es
def aju (s:TS) (k off:Nat):Option (Nat×Nat×Nat):=match s.e.get k with
 |some (.csl id sz n)=>af (id,sz,n)
 |some (.agg l)=>(match l[off]? with|some (.csl id sz n)=>af (id,sz,n)|_=>ah)
 |some (.ptr a o)=>(match s.h.get a with
  |some (.cells _ l)=>(match l[o+off]? with|some (.csl id sz n)=>af (id,sz,n)|_=>ah)
  |_=>ah)
 |_=>ah
def pkS (s:TS) (T:Ty) (id sz n:Nat):Option TS:=match s.h.get id with
 |some (.cells ty l)=>if aB sz T.size then (match ym s.h T n l with
  |some (xs,m)=>if aN m id then ah else af ⟨PT.updI (λ_ v=>Kt id sz n v) 1 0 s.e,(PT.updI (λ_ b=>WA id sz n b) 1 0 (em m s.h)).set id (af (.rows ty aj T xs)),s.nx⟩
  |none=>ah) else ah
 |_=>ah
def ac5:TV->Bool
 |.nil=>ai
 |.emp=>ai
 |_=>aj
def aj1:Option TV->Option (Nat×Nat)
 |some (.ptr id o)=>af (id,o)
 |some (.csl id _ _)=>af (id,0)
 |_=>ah
def Oy (s:TS):Adj->Option TS
 |.nil k ty T=>match s.e.get k with
  |some v=>if ac5 v then af ⟨s.e.set k (af (.row s.nx)),s.h.set s.nx (af (.rows ty ai T [])),s.nx+1⟩ else af s
  |none=>ah
 |.cel k off ty T=>match aj1 (s.e.get k) with
  |some (id,o)=>(match s.h.get id with
   |some (.cells cty l)=>(match l[o+off]? with
    |some v=>if ac5 v then af ⟨s.e,(s.h.set s.nx (af (.rows ty ai T []))).set id (af (.cells cty (splice l (o+off) [.row s.nx]))),s.nx+1⟩ else af s
    |none=>ah)
   |_=>ah)
  |_=>ah
 |.mpt k K V=>match s.e.get k with
  |some (.mp id)=>(match s.h.get id with
   |some (.mp K' V' es)=>(match mpE K' V' es&&S8 K with
    |true=>af ⟨s.e,s.h.set id (af (.mp K V [])),s.nx⟩
    |false=>af s)
   |_=>ah)
  |_=>ah
 |.pk k off T=>match aju s k off with
  |some (id,sz,n)=>pkS s T id sz n
  |none=>ah
 |.ren k off=>match s.e.get k with
  |some (.ptr b o)=>(match s.h.get b with
   |some (.cells cty l)=>(match l[o+off]? with
    |some (.row id)=>(match s.h.get id with
     |some (.rows ty p T xs)=>af ⟨s.e,((s.h.set id (af (.dead p T.size xs.length))).set s.nx (af (.rows ty p T xs))).set b (af (.cells cty (splice l (o+off) [.row s.nx]))),s.nx+1⟩
     |_=>ah)
    |_=>ah)
   |_=>ah)
  |some (.row id)=>(match s.h.get id with
   |some (.rows ty p T xs)=>af ⟨s.e.set k (af (.row s.nx)),(s.h.set id (af (.dead p T.size xs.length))).set s.nx (af (.rows ty p T xs)),s.nx+1⟩
   |_=>ah)
  |_=>ah
def XN (s:TS):List Adj->Option TS
 |[]=>af s
 |a::r=>match Oy s a with|some s'=>XN s' r|none=>ah
structure Yr where
 keep:List Nat
 ks:List Nat
 t:Tm
 pre:List Adj
abbrev Yr.D (A:Yr):Type:=A.t.ty.den
mutual
def tW:TV->Bool
 |.f _ _=>ai
 |.fel _ _ _ _ _=>ai
 |.emp=>ai
 |.nil=>ai
 |.undef=>ai
 |.np=>ai
 |.anyb=>ai
 |.agg l=>qc l
 |.tup l=>qc l
 |.pel _ _ _ _=>aj
 |.ptr _ _=>aj
 |.csl _ _ _=>aj
 |.row _=>aj
 |.rtl _ _=>aj
 |.mp _=>aj
 |.clo _ _=>aj
def qc:List TV->Bool
 |[]=>ai
 |x::r=>tW x&&qc r
end
def Cj (am:Nat) (e:iK):List Nat->iK
 |[]=>PT.leaf
 |k::r=>match e.get k with|some v=>if tW v&& !(aN am k) then (Cj am e r).set k (af v) else Cj am e r|none=>Cj am e r
def nM (e:iK):List Nat->Option (List TV)
 |[]=>af []
 |k::r=>match e.get k with|some v=>(match nM e r with|some l=>af (v::l)|none=>ah)|none=>ah
def WD (e:iK):List Nat->List TV->iK
 |k::r,v::l=>(WD e r l).set k (af v)
 |_,_=>e
def G9 (am:Nat) (e0 e:iK):List Nat->Bool
 |[]=>ai
 |k::r=>(match e0.get k with
  |some v=> !(tW v)||aN am k||(match e.get k with|some _=>ai|none=>aj)
  |none=>ai)&&G9 am e0 e r
def K9 (np:Nat) (A:Yr) (am:Nat) (I s:TS):Option A.D:=if eB np A.t.bs.length&&G9 am I.e s.e A.keep then (match XN s A.pre with
 |some s=>(match nM s.e A.ks with
  |some vs=>(match DM np A.t vs s.h with
   |some ⟨x,_,_,_⟩=>af x
   |none=>ah)
  |none=>ah)
 |none=>ah) else ah
def F_ (A:Yr) (am:Nat) (s:TS) (x:A.D):Option TS:=match Cl A.t x with
 |some (vs,h)=>if aB vs.length A.ks.length then af ⟨WD (Cj am s.e A.keep) A.ks vs,h,A.t.bs.length⟩ else ah
 |none=>ah
inductive TC where
 |skip
 |reg (ops:List r_) (prs:List (Nat×Nat))
 |seq (a b:TC)
 |jseq (A:Yr) (a b:TC)
 |cond (c:Nat) (a b:TC)
 |block (id:Nat) (b:TC)
 |jblock (A:Yr) (id:Nat) (b:TC)
 |loop (A:Yr) (b:TC)
 |exit (id:Nat)
 |ret
 |defer (f:FuncId) (caps:List Operand) (t:Nat)
 |adj (l:List Adj) (c:TC)
 |split (k off lo n:Nat) (c:TC)
 |unl (n:Nat) (b:TC)
 |bad
def Ou:List r_->Nat->Nat
 |[],acc=>acc
 |o::r,acc=>Ou r (match o.dst with|some d=>acc|||kG d|none=>acc)
def KH:List Nat->Nat->Nat
 |[],acc=>acc
 |k::r,acc=>KH r (acc|||kG k)
def od:List Adj->Nat->Nat
 |[],acc=>acc
 |.nil k _ _::r,acc=>od r (acc|||kG k)
 |.cel _ _ _ _::r,acc=>od r acc
 |.mpt _ _ _::r,acc=>od r acc
 |.pk _ _ _::r,acc=>od r acc
 |.ren k _::r,acc=>od r (acc|||kG k)
def TC.asg:TC->Nat->Nat
 |.reg ops _,acc=>Ou ops acc
 |.seq a b,acc=>b.asg (a.asg acc)
 |.jseq A a b,acc=>b.asg (a.asg (KH A.ks acc))
 |.cond _ a b,acc=>b.asg (a.asg acc)
 |.block _ b,acc=>b.asg acc
 |.jblock A _ b,acc=>b.asg (KH A.ks acc)
 |.loop A b,acc=>b.asg (KH A.ks acc)
 |.defer _ _ t,acc=>acc|||kG t
 |.adj l c,acc=>c.asg (od l acc)
 |.split _ _ _ _ c,acc=>c.asg acc
 |.unl _ b,acc=>b.asg acc
 |.skip,acc=>acc
 |.exit _,acc=>acc
 |.ret,acc=>acc
 |.bad,acc=>acc
inductive aar where
 |j (A:Yr)
 |a (l:List Adj)
 |s (k off lo n:Nat)
 |u (n:Nat)
def Hp (H:PT aar) (n:Nat) (c:TC):TC:=match H.get n with|some (.a l)=>.adj l c|some (.s k off lo m)=>.split k off lo m c|_=>c
def C9 (H:PT aar):SC->Nat->TC×Nat
 |.skip,n=>(Hp H n .skip,n+1)
 |.reg o p,n=>(Hp H n (.reg o p),n+1)
 |.seq a b,n=>match C9 H a (n+1) with
  |(a',k)=>(match C9 H b k with|(b',k')=>((match H.get n with|some (.j A)=>.jseq A a' b'|_=>.seq a' b'),k'))
 |.cond c a b,n=>match C9 H a (n+1) with
  |(a',k)=>(match C9 H b k with|(b',k')=>(Hp H n (.cond c a' b'),k'))
 |.block id b,n=>match C9 H b (n+1) with|(b',k)=>((match H.get n with|some (.j A)=>.jblock A id b'|_=>.block id b'),k)
 |.loop b,n=>match C9 H b (n+1) with|(b',k)=>((match H.get n with|some (.j A)=>.loop A b'|some (.u m)=>.unl m b'|_=>.bad),k)
 |.exit id,n=>(Hp H n (.exit id),n+1)
 |.ret,n=>(Hp H n .ret,n+1)
 |.defer f c t,n=>(.defer f c t,n+1)
 |.bad,n=>(.bad,n+1)
def Zi (s:TS) (k off:Nat):Option (IntKind×Int):=match s.e.get k with
 |some (.f (.int kd) v)=>af (kd,v)
 |some (.ptr a o)=>(match s.h.get a with
  |some (.cells _ l)=>(match l[o+off]? with|some (.f (.int kd) v)=>af (kd,v)|_=>ah)
  |_=>ah)
 |_=>ah
def SD (s:TS) (k off:Nat) (kd:IntKind) (v:Int):Option TS:=match s.e.get k with
 |some (.f (.int _) _)=>af ⟨s.e.set k (af (.f (.int kd) v)),s.h,s.nx⟩
 |some (.ptr a o)=>(match s.h.get a with
  |some (.cells ty l)=>af ⟨s.e,s.h.set a (af (.cells ty (splice l (o+off) [.f (.int kd) v]))),s.nx⟩
  |_=>ah)
 |_=>ah
def spl {R:Type} (v:Int) (f:Nat->Option R):Nat->Nat->Option R
 |_,0=>ah
 |i,m+1=>bcase (decide ((v:Int)=aO i)) (f i) (spl v f (i+1) m)
def abe {R:Type} (f:TS->(Ex->TS->Option R)->Option R):Nat->TS->(Ex->TS->Option R)->Option R
 |0,_,_=>ah
 |m+1,s,K=>f s λex s'=>match ex with
  |.normal=>abe f m s' K
  |ex=>K ex s'
def oS {R:Type} (np:Nat) (con:FuncId->Option cu) (b9:TypeId->Option Ty) (inert:FuncId->Bool):TC->TS->(Ex->TS->Option R)->Option R
 |.skip,s,K=>K .normal s
 |.reg ops prs,s,K=>Kz con b9 ops s [] λs' fs=>if E3 fs prs then K .normal s' else ah
 |.seq a b,s,K=>oS np con b9 inert a s λex s'=>match ex with|.normal=>oS np con b9 inert b s' K|ex=>K ex s'
 |.jseq A a b,s,K=>jn (oS np con b9 inert a s λex s'=>match ex with
   |.normal=>obind (K9 np A (a.asg 0) s s') λx=>af (.inr x)
   |ex=>obind (K ex s') λr=>af (.inl r)) λx=>(match F_ A (a.asg 0) s x with|some s'=>oS np con b9 inert b s' K|none=>ah)
 |.cond c a b,s,K=>match s.e.get c with
  |some (.f .bool t)=>bcase t (oS np con b9 inert a s K) (oS np con b9 inert b s K)
  |some .anyb=>EB (oS np con b9 inert a s K) (oS np con b9 inert b s K)
  |_=>ah
 |.block id b,s,K=>oS np con b9 inert b s λex s'=>match ex with
  |.exit i=>if aB i id then K .normal s' else K (.exit i) s'
  |ex=>K ex s'
 |.jblock A id b,s,K=>jn (oS np con b9 inert b s λex s'=>match ex with
   |.normal=>obind (K9 np A (b.asg 0) s s') λx=>af (.inr x)
   |.exit i=>if aB i id then obind (K9 np A (b.asg 0) s s') λx=>af (.inr x) else obind (K (.exit i) s') λr=>af (.inl r)
   |.ret=>obind (K .ret s') λr=>af (.inl r)) λx=>(match F_ A (b.asg 0) s x with|some s'=>K .normal s'|none=>ah)
 |.loop A b,s,K=>obind (K9 np A (b.asg 0) s s) λx=>iter (λx=>match F_ A (b.asg 0) s x with
   |some s'=>oS np con b9 inert b s' λex s'=>(match ex with
    |.normal=>obind (K9 np A (b.asg 0) s s') λy=>af (.inl y)
    |ex=>obind (K ex s') λr=>af (.inr r))
   |none=>ah) x
 |.exit id,s,K=>K (.exit id) s
 |.ret,s,K=>K .ret s
 |.defer f caps t,s,K=>match E4 s.e caps with
  |some l=>if inert f then K .normal ⟨s.e.set t (af (.clo f l)),s.h,s.nx⟩ else ah
  |none=>ah
 |.adj l c,s,K=>match XN s l with|some s'=>oS np con b9 inert c s' K|none=>ah
 |.split k off lo n c,s,K=>match Zi s k off with
  |some (kd,v)=>spl v (λi=>match SD s k off kd (aO i) with|some s'=>oS np con b9 inert c s' K|none=>ah) lo n
  |none=>ah
 |.unl n b,s,K=>abe (λs K=>oS np con b9 inert b s K) n s K
 |.bad,_,_=>ah
def J0:Nat->List TV->iK
 |_,[]=>PT.leaf
 |k,x::r=>(J0 (k+1) r).set k (af x)
def rvT (s:TS):RV->Option TV
 |.tmp t=>s.e.get t
 |.cell a sz ag=>match s.e.get a with
  |some (.ptr id off)=>(match s.h.get id with|some (.cells _ l)=>Sw l off sz ag|_=>ah)
  |_=>ah
def SH (s:TS):List RV->Option (List TV)
 |[]=>af []
 |x::r=>match rvT s x with|some v=>(match SH s r with|some l=>af (v::l)|none=>ah)|none=>ah
structure FT where
 pre:Tm
 post:Tm
 hints:PT aar
def YF (con:FuncId->Option cu) (b9:TypeId->Option Ty) (inert:FuncId->Bool) (F:Option SF) (D:FT) (x:D.pre.ty.den):Option D.post.ty.den:=
 match F with
 |some I=>(match Cl D.pre x with
  |some (args,h)=>if eB args.length I.nt&&eB D.pre.bs.length D.post.bs.length then
    oS D.pre.bs.length con b9 inert (C9 D.hints I.code 0).1 ⟨J0 0 args,h,D.pre.bs.length⟩ λex s=>(match ex with
    |.exit _=>ah
    |_=>(match SH s I.res with
     |some l=>(match DM D.pre.bs.length D.post l s.h with
      |some ⟨y,_,_,_⟩=>(match Cl D.post y with|some _=>af y|none=>ah)
      |none=>ah)
     |none=>ah)) else ah
  |none=>ah)
 |none=>ah
abbrev aM:Ty:=(.int .i64)
abbrev kw:Ty:=(.st (.pr .str (.pr aM (.pr aM (.pr .bool aM)))))
abbrev ry:Ty:=(.st (.pr .str .bool))
abbrev lY:Ty:=(.st (.pr .str aM))
abbrev oD:Ty:=(.st (.pr aM (.pr aM aM)))
abbrev ne:Ty:=(.st (.pr (.sl kw) (.pr (.sl ry) (.pr (.sl lY) (.pr (.sl .str) (.pr (.sl .str) (.sl oD)))))))
abbrev ku:Ty:=(.sl (.sl aM))
abbrev eO:Ty:=(.st (.pr aM (.pr (.sl aM) (.pr ku aM))))
abbrev qD:Ty:=(.st (.pr aM (.pr aM (.pr aM (.pr aM (.pr aM aM))))))
abbrev dS:Ty:=(.st (.pr aM (.sl aM)))
abbrev pH:Ty:=(.sl .bool)
abbrev hX:Ty:=(.st (.pr aM (.pr aM .bool)))
abbrev GP:Ty:=(.st (.pr (.sl dS) (.pr aM (.pr pH (.sl hX)))))
abbrev jM:Ty:=(.st (.pr aM (.pr aM (.pr aM (.pr aM (.pr aM (.pr (.sl aM) (.sl aM))))))))
abbrev F6:Ty:=(.st (.pr aM (.pr aM (.pr .str (.pr aM (.pr aM .str))))))
abbrev sB:Ty:=(.st (.pr .str (.pr aM (.pr (.sl .str) (.sl .sm)))))
abbrev MF:Ty:=(.st (.pr (.sl F6) (.sl sB)))
abbrev wD:Ty:=(.st (.pr aM (.sl qD)))
abbrev uj:Ty:=(.st (.pr ne (.sl wD)))
abbrev vA:Ty:=(.st (.pr GP (.pr (.sl aM) (.pr (.sl aM) (.sl eO)))))
abbrev iL:Ty:=(.st (.pr GP (.pr (.sl aM) (.pr (.sl aM) (.sl aM)))))
abbrev Dn:Ty:=(.sl (.int .u8))
abbrev yd:Ty:=(.st (.pr Dn aM))
abbrev iE:Ty:=(.st (.pr aM aM))
abbrev oe:Ty:=(.st (.pr ne (.sl jM)))
abbrev RK:=((List UInt8)×Int×Int×Bool×Int)
abbrev gO:=(List RK)
abbrev gy:=(List ((List UInt8)×Bool))
abbrev fg:=((List UInt8)×Int)
abbrev ca:=(List (List UInt8))
abbrev dG:=(gO×gy×(List fg)×ca×ca×List (Int×Int×Int))
abbrev rx:=(gO×gy×(List fg)×ca×ca×(List (Int×Int×Int))×ca×Int×Int)
abbrev gx:=(List (Int×List Int))
abbrev dj:=(Int×Int×Bool)
abbrev oR:=(gx×Int×(List Bool)×List dj)
abbrev tw:=(Int×(List Int)×(List (List Int))×Int)
abbrev jO:=(Int×Int×Int×Int×Int×Int)
abbrev gF:=(Int×Int×Int×Int×Int×(List Int)×List Int)
abbrev aa3:=(Int×Int×(List UInt8)×Int×Int×List UInt8)
abbrev rO:=(List aa3)
abbrev rN:=((List UInt8)×Int×ca×List Sx)
abbrev yf:=(Int×Int×Bool×Bool×Bool×Bool)
abbrev zm:=(dG×List (Int×List jO))
abbrev vu:=(Int×Int×Int×Int×Int)
abbrev ey:=(oR×(List Int)×(List Int)×List Int)
abbrev fK:=((List Int)×Int)
abbrev wC:=(oR×(List Int)×(List Int)×List tw)
abbrev GG:=(Int×Int×(List UInt8)×(List UInt8)×Int×Int×List UInt8)
abbrev qE:=(rO×(List rN)×Int)
abbrev RL:=(Bool×List (List UInt8))
abbrev Ya23:=(Int×Int×tw×tw×Int×(List Int)×(List (List Int))×Int)
abbrev Ya24:=(tw×Int×Int×tw×Int×(List Int)×(List (List Int))×Int)
abbrev Ya25:=(tw×tw×Int×Int×Int×(List Int)×(List (List Int))×Int)
abbrev aa5:=((List Sx)×yf×fK×Bool×List (List UInt8))
abbrev Ya27:=(Int×Int×tw×Int×(List Int)×(List (List Int))×Int)
abbrev Ya28:=(tw×Int×Int×Int×(List Int)×(List (List Int))×Int)
abbrev Ya29:=(Int×Int×Int×(List Int)×(List (List Int))×Int)
abbrev XP:=(Int×yf×fK×Bool×List (List UInt8))
abbrev aa4:=(Sx×yf×fK×Bool×List (List UInt8))
abbrev adi:=((Int×Int)×qE×(Bool×List Sx)×ca×List (List UInt8))
abbrev Lu:=(Sx×rx×List jO)
abbrev Dl:=(wC×gF×Bool)
abbrev aa2:=((Sx×Int×Int×Int)×rx×List jO)
abbrev adh:=((Int×Int)×yf×fK×Bool×List (List UInt8))
abbrev adg:=(fg×yf×fK×Bool×List (List UInt8))
abbrev XO:=(yf×fK×RL×List Sx)
abbrev adf:=(Xp×yf×fK×Bool×List (List UInt8))
abbrev Ya42:=(tw×tw×tw×Int×Int)
abbrev aa1:=((List Sx)×rx×List jO)
abbrev aX {α:Type} (l:List α):Int:=aO (al l)
abbrev cB (n:Int):Int:=bl .i64 (n+1)
abbrev aE {R α:Type} (x:α):Option (R⊕α):=af (bU x)
abbrev cK {R α:Type} (x:R):Option (R⊕α):=af (oE x)
abbrev bK {R:Type} (T:Ty) (l:List T.den) (j:Int) (k:T.den->Option R):Option R:=chk (fe j (al l)) λ_=>lt (aJ (T:=T) l j) k
abbrev kA {R:Type} (T:Ty) (l:List T.den) (j:Int) (k:T.den->Option R):Option R:=chk (fe j (al l)) λ_=>chk (fe j (al l)) λ_=>lt (aJ (T:=T) l j) k
abbrev ve {R α:Type} (j:Int) (l:List α) (k:Option R):Option R:=chk (fe j (al l)) λ_=>k
abbrev bE {R:Type} (b:Bool) (k:Option R):Option R:=chk b λ_=>k
abbrev be {R:Type} (a b:Int) (t f:Option R):Option R:=bcase (decide (a=b)) t f
abbrev iI {R:Type} (a b:Int) (t f:Option R):Option R:=bcase (!decide (a=b)) t f
abbrev bx {R:Type} (a b:Int) (t f:Option R):Option R:=bcase (fP a b) t f
abbrev jN {R:Type} (a b:Int) (t f:Option R):Option R:=bcase (cV a b) t f
def ck {R:Type} (b:Bool) (k:Option R):Option R:=chk b λ_=>chk b λ_=>k
def dW (s:Sx):Sx:=nE (Sx.op s,Sx.line s,Sx.name s,Sx.arg s,Sx.index s,dT (Xp.op (Sx.expr s),Xp.n (Sx.expr s),Xp.name (Sx.expr s),Xp.l (Sx.expr s)),Sx.body s,Sx.els s)
def ki (x:Unit):Option ca:=
 (af ([[118,97,114],[118,111,108,97,116,105,108,101],[109,117,116,101,120],[114,119,108,111,99,107],[99,111,110,100],[102,117,116,117,114,101],[116,104,114,101,97,100],[105,102],[101,108,115,101],[119,104,105,108,101],[108,111,99,107],[114,101,97,100],[119,114,105,116,101],[116,114,97,110,115,97,99,116,105,111,110],[97,116,111,109,105,99],[119,97,105,116],[110,111,116,105,102,121],[110,111,116,105,102,121,97,108,108],[115,112,97,119,110],[106,111,105,110],[115,101,116],[103,101,116]]))
def jz (x:List UInt8):Option (Bool):=
 (obind (ki ()) λJ=>(iter (σ:=Int) (λI=>(bx I (aX J) (bK (.str) J I λM=>(bcase (decide ((M:List UInt8)=x)) (aE ai) (cK (cB I)))) (aE aj))) 0))
def k9 (x:Int):Option (Bool):=
 (jn (α:=Bool) (jN 97 x (jN x 122 (aE ai) (jN 65 x (aE (cV x 90)) (aE aj))) (jN 65 x (aE (cV x 90)) (aE aj))) λI=>(af I))
def qX (x:Int):Option (Bool):=
 (jn (α:=Bool) (jN 48 x (aE (cV x 57)) (aE aj)) λI=>(af I))
def o_ (x:Int):Option (Bool):=
 (jn (α:=Bool) (obind (k9 x) λJ=>(bcase J (aE ai) (obind (qX x) λI=>(bcase I (aE ai) (aE (decide ((x:Int)=95))))))) λM=>(af M))
def e_ (x:List UInt8):Option (Bool):=
 (jn (α:=Bool) (bx (aX x) 1 (aE ai) (bx 12 (aX x) (aE ai) (ve 0 x (obind (k9 (zS x 0)) λU=>(bcase (!U) (aE ai) (obind (jz x) λM=>(aE M))))))) λY=>(bcase Y (af aj) (iter (σ:=Int) (λI=>(bx I (aX x) (ve I x (obind (o_ (zS x I)) λJ=>(bcase (!J) (aE aj) (cK (cB I))))) (aE ai))) 0)))
def fQ (x:Bool):Option (Int):=
 (bcase x (af 1) (af 0))
def tP (x:Int×Int):Option (Int×Bool):=
 (be x.1 4 (af ((bl .i64 (0-x.2)),ai)) (be x.1 5 (obind (fQ (decide ((x.2:Int)=0))) λI=>(af (I,ai))) (af (0,aj))))
def rS (x:Int×Int×Int):Option (Int×Bool):=
 (be x.1 6 (af ((bl .i64 (x.2.1+x.2.2)),ai)) (be x.1 7 (af ((bl .i64 (x.2.1-x.2.2)),ai)) (be x.1 8 (af ((bl .i64 (x.2.1*x.2.2)),ai)) (be x.1 9 (be x.2.2 0 (af (0,ai)) (bE (!decide ((x.2.2:Int)=0)) (af ((bl .i64 (Int.tdiv x.2.1 x.2.2)),ai)))) (be x.1 10 (be x.2.2 0 (af (0,ai)) (bE (!decide ((x.2.2:Int)=0)) (af ((zB x.2.1 x.2.2),ai)))) (be x.1 11 (obind (fQ (decide ((x.2.1:Int)=x.2.2))) λy1=>(af (y1,ai))) (be x.1 12 (obind (fQ (!decide ((x.2.1:Int)=x.2.2))) λy2=>(af (y2,ai))) (be x.1 13 (obind (fQ (fP x.2.1 x.2.2)) λy3=>(af (y3,ai))) (be x.1 14 (obind (fQ (cV x.2.1 x.2.2)) λy4=>(af (y4,ai))) (be x.1 15 (obind (fQ (fP x.2.2 x.2.1)) λy5=>(af (y5,ai))) (be x.1 16 (obind (fQ (cV x.2.2 x.2.1)) λZ=>(af (Z,ai))) (be x.1 17 (jn (α:=Int×Bool) (iI x.2.1 0 (obind (fQ (!decide ((x.2.2:Int)=0))) λY=>(aE (Y,ai))) (obind (fQ aj) λU=>(aE (U,ai)))) λx7=>(af x7)) (be x.1 18 (jn (α:=Int×Bool) (iI x.2.1 0 (obind (fQ ai) λJ=>(aE (J,ai))) (obind (fQ (!decide ((x.2.2:Int)=0))) λI=>(aE (I,ai)))) λM=>(af M)) (af (0,aj)))))))))))))))
def qV (x:Int×Int):Option (Int):=
 (bx x.2 1 (af 0) (bE (!decide ((x.2:Int)=0)) (jn (α:=Int) (bx (zB x.1 x.2) 0 (aE (bl .i64 ((zB x.1 x.2)+x.2))) (aE (zB x.1 x.2))) λI=>(af I))))
def ma (x:Int):Option (Int):=
 (jn (α:=Bool) (be x 1 (aE ai) (aE (decide ((x:Int)=2)))) λM=>(bcase M (af 0) (jn (α:=Bool) (jN 3 x (aE (cV x 5)) (aE aj)) λJ=>(bcase J (af 1) (jn (α:=Bool) (jN 6 x (aE (cV x 18)) (aE aj)) λI=>(bcase I (af 2) (af (-1))))))))
def lQ (rr02_ShapedExpr:Xp->Option (Bool)) (x:Xp):Option (Bool):=
 (jn (α:=Bool×Xp) (be (Xp.op x) 2 (aE (ai,dT ((Xp.op x),(Xp.n x),(Xp.name x),(Xp.l x)))) (aE ((decide (((Xp.op x):Int)=3)),dT ((Xp.op x),(Xp.n x),(Xp.name x),(Xp.l x))))) λI=>(jn (α:=Bool×Xp) (obind (ma (Xp.op I.2)) λy3=>(iI y3 (aO (al (Xp.l I.2))) (aE (ai,dT ((Xp.op I.2),(Xp.n I.2),(Xp.name I.2),(Xp.l I.2)))) (bcase ((I.1==(!decide (((Xp.name I.2):List UInt8)=([])))) !=ai) (aE (ai,dT ((Xp.op I.2),(Xp.n I.2),(Xp.name I.2),(Xp.l I.2)))) (bcase I.1 (obind (e_ (Xp.name I.2)) λZ=>(bcase (!Z) (aE (ai,dT ((Xp.op I.2),(Xp.n I.2),(Xp.name I.2),(Xp.l I.2)))) (bx (Xp.n I.2) 0 (aE (ai,dT ((Xp.op I.2),(Xp.n I.2),(Xp.name I.2),(Xp.l I.2)))) (iI (Xp.op I.2) 1 (aE ((!decide (((Xp.n I.2):Int)=0)),dT ((Xp.op I.2),(Xp.n I.2),(Xp.name I.2),(Xp.l I.2)))) (aE (aj,dT ((Xp.op I.2),(Xp.n I.2),(Xp.name I.2),(Xp.l I.2)))))))) (bx (Xp.n I.2) 0 (aE (ai,dT ((Xp.op I.2),(Xp.n I.2),(Xp.name I.2),(Xp.l I.2)))) (iI (Xp.op I.2) 1 (aE ((!decide (((Xp.n I.2):Int)=0)),dT ((Xp.op I.2),(Xp.n I.2),(Xp.name I.2),(Xp.l I.2)))) (aE (aj,dT ((Xp.op I.2),(Xp.n I.2),(Xp.name I.2),(Xp.l I.2)))))))))) λM=>(bcase M.1 (af aj) (iter (σ:=Int×Xp) (λJ=>(bx J.1 (aO (al (Xp.l J.2))) (bK (.ex) (Xp.l J.2) J.1 λU=>(obind (rr02_ShapedExpr U) λY=>(bcase (!Y) (aE aj) (cK ((cB J.1),dT ((Xp.op J.2),(Xp.n J.2),(Xp.name J.2),(Xp.l J.2))))))) (aE ai))) (0,dT ((Xp.op M.2),(Xp.n M.2),(Xp.name M.2),(Xp.l M.2)))))))
def g_:Nat->Xp->Option (Bool)
 |0,_=>ah
 |n+1,x=>lQ (g_ n) x
theorem rX (n:Nat) (x:Xp):g_ (n+1) x=lQ (g_ n) x:=rfl
def iW (x:Xp):Option (Bool):=g_ fuel x
def o9 (x:Xp):Option (Bool):=
 (jn (α:=Bool) (be (Xp.op x) 0 (be (Xp.n x) 0 (bcase (decide (((Xp.name x):List UInt8)=([]))) (aE (decide (((aO (al (Xp.l x))):Int)=0))) (aE aj)) (aE aj)) (aE aj)) λI=>(af I))
def jX (rr02_ShapedStmt:Sx->Option (Bool)) (rr02_ShapedStmts:(List Sx)->Option (Bool)) (x:Sx):Option (Bool):=
 (jn (α:=Bool×Sx) (bx (Sx.op x) 1 (aE (ai,dW x)) (aE ((fP 15 (Sx.op x)),dW x))) λx1=>(bcase x1.1 (af aj) (jn (α:=Bool×Sx) (be (Sx.op x1.2) 2 (aE (ai,dW x1.2)) (be (Sx.op x1.2) 3 (aE (ai,dW x1.2)) (be (Sx.op x1.2) 7 (aE (ai,dW x1.2)) (aE ((decide (((Sx.op x1.2):Int)=8)),dW x1.2))))) λY=>(jn (α:=Bool×Sx) (bcase Y.1 (bcase (!decide (((Sx.name Y.2):List UInt8)=([]))) (aE (ai,dW Y.2)) (bcase (!Y.1) (obind (e_ (Sx.name Y.2)) λy4=>(aE ((!y4),dW Y.2))) (aE (aj,dW Y.2)))) (bcase (!Y.1) (obind (e_ (Sx.name Y.2)) λy5=>(aE ((!y5),dW Y.2))) (aE (aj,dW Y.2)))) λU=>(bcase U.1 (af aj) (jn (α:=Bool×Sx) (be (Sx.op U.2) 15 (obind (e_ (Sx.arg U.2)) λy7=>(bcase (!y7) (aE (ai,dW U.2)) (iI (Sx.op U.2) 15 (aE ((!decide (((Sx.arg U.2):List UInt8)=([]))),dW U.2)) (aE (aj,dW U.2))))) (iI (Sx.op U.2) 15 (aE ((!decide (((Sx.arg U.2):List UInt8)=([]))),dW U.2)) (aE (aj,dW U.2)))) λM=>(bcase M.1 (af aj) (jn (α:=Bool×Sx) (bx 1 (aO (al (Sx.index M.2))) (aE (ai,dW M.2)) (iI (Sx.op M.2) 1 (bx 0 (aO (al (Sx.index M.2))) (aE (ai,dW M.2)) (be (aO (al (Sx.index M.2))) 1 (bK (.ex) (Sx.index M.2) 0 λz9=>(obind (iW z9) λy10=>(aE ((!y10),dW M.2)))) (aE (aj,dW M.2)))) (be (aO (al (Sx.index M.2))) 1 (bK (.ex) (Sx.index M.2) 0 λz11=>(obind (iW z11) λy12=>(aE ((!y12),dW M.2)))) (aE (aj,dW M.2))))) λx8=>(bcase x8.1 (af aj) (jn (α:=Bool×Sx) (be (Sx.op x8.2) 1 (aE (ai,dW x8.2)) (be (Sx.op x8.2) 2 (aE (ai,dW x8.2)) (be (Sx.op x8.2) 3 (aE (ai,dW x8.2)) (aE ((decide (((Sx.op x8.2):Int)=14)),dW x8.2))))) λI=>(jn (α:=Bool×Sx) (bcase I.1 (obind (iW (dT ((Xp.op (Sx.expr I.2)),(Xp.n (Sx.expr I.2)),(Xp.name (Sx.expr I.2)),(Xp.l (Sx.expr I.2))))) λy15=>(bcase (!y15) (aE (ai,dW I.2)) (bcase (!I.1) (obind (o9 (dT ((Xp.op (Sx.expr I.2)),(Xp.n (Sx.expr I.2)),(Xp.name (Sx.expr I.2)),(Xp.l (Sx.expr I.2))))) λy16=>(aE ((!y16),dW I.2))) (aE (aj,dW I.2))))) (bcase (!I.1) (obind (o9 (dT ((Xp.op (Sx.expr I.2)),(Xp.n (Sx.expr I.2)),(Xp.name (Sx.expr I.2)),(Xp.l (Sx.expr I.2))))) λy17=>(aE ((!y17),dW I.2))) (aE (aj,dW I.2)))) λZ=>(bcase Z.1 (af aj) (jn (α:=Bool×Sx) (jN 2 (Sx.op Z.2) (aE ((cV (Sx.op Z.2) 8),dW Z.2)) (aE (aj,dW Z.2))) λJ=>(jn (α:=Bool×Sx) (bcase (!J.1) (bx 0 (aO (al (Sx.body J.2))) (aE (ai,dW J.2)) (iI (Sx.op J.2) 2 (aE ((fP 0 (aO (al (Sx.els J.2)))),dW J.2)) (aE (aj,dW J.2)))) (iI (Sx.op J.2) 2 (aE ((fP 0 (aO (al (Sx.els J.2)))),dW J.2)) (aE (aj,dW J.2)))) λx19=>(bcase x19.1 (af aj) (jn (α:=Bool) (obind (rr02_ShapedStmts (Sx.body x19.2)) λy21=>(bcase y21 (obind (rr02_ShapedStmts (Sx.els x19.2)) λy22=>(aE y22)) (aE aj))) λx20=>(af x20)))))))))))))))))
def jr (rr02_ShapedStmt:Sx->Option (Bool)) (rr02_ShapedStmts:(List Sx)->Option (Bool)) (x:List Sx):Option (Bool):=
 (iter (σ:=Int) (λI=>(bx I (aX x) (ve I x (obind (rr02_ShapedStmt (aJ (T:=.sm) x I)) λJ=>(bcase (!J) (aE aj) (cK (cB I))))) (aE ai))) 0)
mutual
def ef:Nat->Sx->Option (Bool)
 |0,_=>ah
 |n+1,x=>jX (ef n) (dz n) x
def dz:Nat->(List Sx)->Option (Bool)
 |0,_=>ah
 |n+1,x=>jr (ef n) (dz n) x
end
theorem yN (n:Nat) (x:Sx):ef (n+1) x=jX (ef n) (dz n) x:=rfl
theorem x_ (n:Nat) (x:List Sx):dz (n+1) x=jr (ef n) (dz n) x:=rfl
def nC (x:List Sx):Option (Bool):=dz fuel x
def jV (x:Int×Int×(List UInt8)×Int×Int×List UInt8):Option (Bool):=
 (jn (α:=Bool×Int×Int×(List UInt8)×Int×Int×List UInt8) (bx x.1 1 (aE (ai,x)) (bx 6 x.1 (aE (ai,x)) (obind (e_ x.p2) λU=>(bcase (!U) (aE (ai,x)) (bx x.p3 0 (aE (ai,x)) (iI x.1 1 (aE ((!decide ((x.p3:Int)=0)),x)) (aE (aj,x)))))))) λI=>(bcase I.1 (af aj) (jn (α:=Bool×Int×Int×(List UInt8)×Int×Int×List UInt8) (be I.2.1 5 (obind (e_ I.q6) λM=>(bcase (!M) (aE (ai,I.2)) (iI I.2.1 5 (aE ((!decide ((I.q6:List UInt8)=([]))),I.2)) (aE (aj,I.2))))) (iI I.2.1 5 (aE ((!decide ((I.q6:List UInt8)=([]))),I.2)) (aE (aj,I.2)))) λJ=>(bcase J.1 (af aj) (jn (α:=Bool) (bx (-9223372036854775808) J.p5 (be J.p5 0 (aE ai) (be J.2.1 1 (aE ai) (aE (decide ((J.2.1:Int)=2))))) (aE aj)) λY=>(af Y))))))
def pq (x:rO×List rN):Option (Bool):=
 (iter (σ:=Int×rO×List rN) (λM=>(bx M.1 (aX M.2.1) (bK F6 M.2.1 M.1 λz2=>(obind (jV z2) λy3=>(bcase (!y3) (aE aj) (cK ((cB M.1),M.2))))) (obind (iter (σ:=Int×rO×List rN) (λJ=>(bx J.1 (aX J.2.2) (bK sB J.2.2 J.1 λz5=>(iter (σ:=Int×(rO×List rN)×(List UInt8)×Int×ca×List Sx) (λI=>(bx I.1 (aX I.p4) (bK (.str) I.p4 I.1 λz7=>(obind (e_ z7) λy8=>(bcase (!y8) (aE (bU aj)) (cK ((cB I.1),I.2))))) (obind (jn (α:=Bool×rO×List rN) (obind (e_ I.p2) λY=>(bcase (!Y) (aE (ai,I.2.1)) (obind (nC I.q5) λU=>(aE ((!U),I.2.1))))) λZ=>(bcase Z.1 (aE aj) (cK ((cB J.1),Z.2)))) λr=>af (bU r)))) (0,J.2,z5))) (aE (fP 0 (aX J.2.2))))) (0,M.2)) λr=>af (bU r)))) (0,x))
def iS (x:ca×List UInt8):Option (Int):=
 (iter (σ:=Int) (λI=>(bx I (aX x.1) (bK (.str) x.1 I λJ=>(bcase (decide ((J:List UInt8)=x.2)) (aE I) (cK (cB I)))) (aE (-1)))) 0)
def gZ (x:rO×List UInt8):Option (Int):=
 (iter (σ:=Int) (λI=>(bx I (aX x.1) (bK F6 x.1 I λJ=>(bcase (decide ((J.2.2.1:List UInt8)=x.2)) (aE I) (cK (cB I)))) (aE (-1)))) 0)
def gH (x:(List rN)×List UInt8):Option (Int):=
 (iter (σ:=Int) (λI=>(bx I (aX x.1) (bK sB x.1 I λJ=>(bcase (decide ((J.1:List UInt8)=x.2)) (aE I) (cK (cB I)))) (aE (-1)))) 0)
def po (x:(rO×List rN)×Int×List UInt8):Option (Int):=
 (jn (α:=Bool×rO×List rN) (jN 0 x.2.1 (bx x.2.1 (aX x.1.2) (bK sB x.1.2 x.2.1 λz2=>(obind (iS (z2.2.2.1,x.2.2)) λy3=>(aE ((cV 0 y3),x.1)))) (aE (aj,x.1))) (aE (aj,x.1))) λI=>(bcase I.1 (af 8) (obind (gZ (I.2.1,x.2.2)) λM=>(bx M 0 (obind (gH (I.2.2,x.2.2)) λy5=>(jN 0 y5 (af 7) (af 0))) (ve M I.2.1 (lt ((aJ (T:=F6) I.2.1 M).1) λJ=>(be J 1 (bK F6 I.2.1 M λZ=>(iI Z.2.2.2.1 0 (af 2) (af 1))) (be J 2 (af 1) (jn (α:=Bool×rO×List rN) (be J 3 (aE ((decide ((J:Int)=3)),I.2)) (be J 4 (aE ((decide ((J:Int)=4)),I.2)) (be J 5 (aE ((decide ((J:Int)=5)),I.2)) (aE ((decide ((J:Int)=6)),I.2))))) λU=>(bcase U.1 (bK F6 U.2.1 M λY=>(af Y.1)) (af 9)))))))))))
def gu (x:(rO×List rN)×Int×(List UInt8)×Int×Int):Option (Int):=
 (obind (po (x.1,x.2.1,x.p2)) λI=>(be I 0 (af 5) (jn (α:=Bool) (iI I x.p3 (aE (!decide ((I:Int)=x.q4))) (aE aj)) λJ=>(bcase J (af 6) (af 0)))))
def t8 (rr04_Nodes:Xp->Option (Int×Int)) (x:Xp):Option (Int×Int):=
 (iter (σ:=(Int×Int×Int)×Xp) (λI=>(bx I.1.2.2 (aO (al (Xp.l I.2))) (bK (.ex) (Xp.l I.2) I.1.2.2 λM=>(obind (rr04_Nodes M) λJ=>(cK (((bl .i64 (I.1.1+J.1)),(j9 I.1.2.1 J.2),(cB I.1.2.2)),dT ((Xp.op I.2),(Xp.n I.2),(Xp.name I.2),(Xp.l I.2)))))) (aE (I.1.1,(cB I.1.2.1))))) ((1,0,0),dT ((Xp.op x),(Xp.n x),(Xp.name x),(Xp.l x))))
def mU:Nat->Xp->Option (Int×Int)
 |0,_=>ah
 |n+1,x=>t8 (mU n) x
theorem xH (n:Nat) (x:Xp):mU (n+1) x=t8 (mU n) x:=rfl
def Bi (x:Xp):Option (Int×Int):=mU fuel x
def t7 (rr04_names:((rO×List rN)×Int×Xp)->Option (Int)) (x:(rO×List rN)×Int×Xp):Option (Int):=
 (jn (α:=Int×(rO×List rN)×Xp) (be (Xp.op x.2.2) 2 (obind (gu (x.1,x.2.1,(Xp.name x.2.2),8,1)) λy2=>(aE (y2,x.1,dT ((Xp.op x.2.2),(Xp.n x.2.2),(Xp.name x.2.2),(Xp.l x.2.2))))) (be (Xp.op x.2.2) 3 (obind (gu (x.1,x.2.1,(Xp.name x.2.2),2,2)) λZ=>(aE (Z,x.1,dT ((Xp.op x.2.2),(Xp.n x.2.2),(Xp.name x.2.2),(Xp.l x.2.2))))) (aE (0,x.1,dT ((Xp.op x.2.2),(Xp.n x.2.2),(Xp.name x.2.2),(Xp.l x.2.2)))))) λM=>(iter (σ:=(Int×Int)×(rO×List rN)×Xp) (λI=>(jn (α:=Bool×(rO×List rN)×Xp) (bx I.1.2 (aO (al (Xp.l I.2.2))) (aE ((decide ((I.1.1:Int)=0)),I.2.1,dT ((Xp.op I.2.2),(Xp.n I.2.2),(Xp.name I.2.2),(Xp.l I.2.2)))) (aE (aj,I.2.1,dT ((Xp.op I.2.2),(Xp.n I.2.2),(Xp.name I.2.2),(Xp.l I.2.2))))) λJ=>(bcase J.1 (bK (.ex) (Xp.l J.2.2) I.1.2 λU=>(obind (rr04_names (J.2.1,x.2.1,U)) λY=>(cK ((Y,(cB I.1.2)),J.2.1,dT ((Xp.op J.2.2),(Xp.n J.2.2),(Xp.name J.2.2),(Xp.l J.2.2)))))) (aE I.1.1)))) ((M.1,0),M.2.1,dT ((Xp.op M.2.2),(Xp.n M.2.2),(Xp.name M.2.2),(Xp.l M.2.2)))))
def mT:Nat->((rO×List rN)×Int×Xp)->Option (Int)
 |0,_=>ah
 |n+1,x=>t7 (mT n) x
theorem xG (n:Nat) (x:(rO×List rN)×Int×Xp):mT (n+1) x=t7 (mT n) x:=rfl
def Bh (x:(rO×List rN)×Int×Xp):Option (Int):=mT fuel x
def l_ (x:(rO×List rN)×Int×Xp):Option (Int):=
 (obind (iW (dT ((Xp.op x.2.2),(Xp.n x.2.2),(Xp.name x.2.2),(Xp.l x.2.2)))) λU=>(bcase (!U) (af 3) (obind (Bi (dT ((Xp.op x.2.2),(Xp.n x.2.2),(Xp.name x.2.2),(Xp.l x.2.2)))) λJ=>(jn (α:=Bool×(rO×List rN)×Xp) (bx 24 J.1 (aE (ai,x.1,dT ((Xp.op x.2.2),(Xp.n x.2.2),(Xp.name x.2.2),(Xp.l x.2.2)))) (aE ((fP 6 J.2),x.1,dT ((Xp.op x.2.2),(Xp.n x.2.2),(Xp.name x.2.2),(Xp.l x.2.2))))) λI=>(bcase I.1 (af 2) (obind (Bh (I.2.1,x.2.1,dT ((Xp.op I.2.2),(Xp.n I.2.2),(Xp.name I.2.2),(Xp.l I.2.2)))) λM=>(af M)))))))
def cX (x:Bool):Option (Int):=
 (bcase x (af 7) (af 0))
def iR (x:Int×Int):Option (Int):=
 (iI x.1 0 (af x.1) (af x.2))
def dM (x:(Int×Int×List UInt8)×qE×(Bool×List Sx)×ca×List (List UInt8)):Option (Bool×qE×(Bool×List Sx)×ca×List (List UInt8)):=
 (iter (σ:=Int×qE×(Bool×List Sx)×ca×List (List UInt8)) (λI=>(bx I.1 (aX I.p2.2) (kA (.sm) I.p2.2 I.1 λJ=>(jn (α:=Bool×qE×(Bool×List Sx)×ca×List (List UInt8)) (be (Sx.op J) x.1.1 (bcase (decide ((x.1.2.2:List UInt8)=([]))) (aE (ai,I.2)) (aE ((decide (((Sx.name J):List UInt8)=x.1.2.2)),I.2))) (be (Sx.op J) x.1.2.1 (bcase (decide ((x.1.2.2:List UInt8)=([]))) (aE (ai,I.2)) (aE ((decide (((Sx.name J):List UInt8)=x.1.2.2)),I.2))) (aE (aj,I.2)))) λM=>(bcase M.1 (aE (ai,M.2)) (cK ((cB I.1),M.2))))) (aE (aj,I.2)))) (0,x.2))
def l9 (x:Sx×qE×(Bool×List Sx)×ca×List (List UInt8)):Option (Int×qE×(Bool×List Sx)×ca×List (List UInt8)):=
 (obind (dM ((7,7,[]),x.2)) λy1=>(bE (aB (al x.q4) (al y1.q4)&&(aB (al x.p3) (al y1.p3)&&(((x.p2.1==y1.p2.1)&&ai)&&aB (al x.p2.2) (al y1.p2.2)&&ai))) (obind (dM ((8,8,[]),y1.2)) λy2=>(bE (aB (al y1.q4) (al y2.q4)&&(aB (al y1.p3) (al y2.p3)&&(((y1.p2.1==y2.p2.1)&&ai)&&aB (al y1.p2.2) (al y2.p2.2)&&ai))) (obind (dM ((3,3,[]),y2.2)) λy3=>(bE (aB (al y2.q4) (al y3.q4)&&(aB (al y2.p3) (al y3.p3)&&(((y2.p2.1==y3.p2.1)&&ai)&&aB (al y2.p2.2) (al y3.p2.2)&&ai))) (be (Sx.op x.1) 1 (be (aO (al (Sx.index x.1))) 0 (obind (gu ((x.2.1.1,x.2.1.2.1),x.2.1.2.2,(Sx.name x.1),8,1)) λy4=>(obind (l_ ((x.2.1.1,x.2.1.2.1),x.2.1.2.2,dT ((Xp.op (Sx.expr x.1)),(Xp.n (Sx.expr x.1)),(Xp.name (Sx.expr x.1)),(Xp.l (Sx.expr x.1))))) λy5=>(obind (iR (y4,y5)) λy6=>(af (y6,y3.2))))) (obind (gu ((x.2.1.1,x.2.1.2.1),x.2.1.2.2,(Sx.name x.1),2,2)) λy7=>(bK (.ex) (Sx.index x.1) 0 λz8=>(obind (l_ ((x.2.1.1,x.2.1.2.1),x.2.1.2.2,z8)) λy9=>(obind (l_ ((x.2.1.1,x.2.1.2.1),x.2.1.2.2,dT ((Xp.op (Sx.expr x.1)),(Xp.n (Sx.expr x.1)),(Xp.name (Sx.expr x.1)),(Xp.l (Sx.expr x.1))))) λy10=>(obind (iR (y9,y10)) λy11=>(obind (iR (y7,y11)) λy12=>(af (y12,y3.2))))))))) (jn (α:=Bool×qE×(Bool×List Sx)×Sx×(rO×List rN)×ca×List (List UInt8)) (be (Sx.op x.1) 2 (aE ((decide (((Sx.op x.1):Int)=2)),y3.2.1,y3.p2,dW x.1,(x.2.1.1,x.2.1.2.1),y3.q3)) (aE ((decide (((Sx.op x.1):Int)=3)),y3.2.1,y3.p2,dW x.1,(x.2.1.1,x.2.1.2.1),y3.q3))) λM=>(bcase M.1 (obind (l_ (M.p4,x.2.1.2.2,dT ((Xp.op (Sx.expr M.p3)),(Xp.n (Sx.expr M.p3)),(Xp.name (Sx.expr M.p3)),(Xp.l (Sx.expr M.p3))))) λy14=>(af (y14,M.2.1,M.p2,M.q5))) (be (Sx.op x.1) 4 (jn (α:=Int×qE×(Bool×List Sx)×ca×List (List UInt8)) (obind (gu (M.p4,x.2.1.2.2,(Sx.name M.p3),3,3)) λy16=>(bcase y1.1 (obind (cX ai) λy17=>(obind (iR (y16,y17)) λy18=>(aE (y18,M.2.1,M.p2,M.q5)))) (obind (dM ((4,4,(Sx.name M.p3)),M.2.1,M.p2,M.q5)) λy19=>(bE (aB (al M.q6) (al y19.q4)&&(aB (al M.p5) (al y19.p3)&&(((M.p2.1==y19.p2.1)&&ai)&&aB (al M.p2.2) (al y19.p2.2)&&ai))) (obind (cX y19.1) λy20=>(obind (iR (y16,y20)) λy21=>(aE (y21,y19.2)))))))) λx15=>(af x15)) (jn (α:=Bool×qE×(Bool×List Sx)×Sx×(rO×List rN)×ca×List (List UInt8)) (be (Sx.op x.1) 5 (aE ((decide (((Sx.op x.1):Int)=5)),M.2.1,M.p2,dW M.p3,M.q4)) (aE ((decide (((Sx.op x.1):Int)=6)),M.2.1,M.p2,dW M.p3,M.q4))) λJ=>(bcase J.1 (jn (α:=Int×qE×(Bool×List Sx)×ca×List (List UInt8)) (obind (gu (J.p4,x.2.1.2.2,(Sx.name J.p3),4,4)) λy24=>(bcase y1.1 (obind (cX ai) λy25=>(obind (iR (y24,y25)) λy26=>(aE (y26,J.2.1,J.p2,J.q5)))) (obind (dM ((5,6,(Sx.name J.p3)),J.2.1,J.p2,J.q5)) λy27=>(bE (aB (al J.q6) (al y27.q4)&&(aB (al J.p5) (al y27.p3)&&(((J.p2.1==y27.p2.1)&&ai)&&aB (al J.p2.2) (al y27.p2.2)&&ai))) (obind (cX y27.1) λy28=>(obind (iR (y24,y28)) λy29=>(aE (y29,y27.2)))))))) λx23=>(af x23)) (be (Sx.op x.1) 7 (obind (cX y1.1) λy30=>(af (y30,J.2.1,J.p2,J.q5))) (be (Sx.op x.1) 8 (jn (α:=Int×qE×(Bool×List Sx)×ca×List (List UInt8)) (bcase y1.1 (obind (cX ai) λy32=>(aE (y32,J.2.1,J.p2,J.q5))) (obind (cX y2.1) λy33=>(aE (y33,J.2.1,J.p2,J.q5)))) λx31=>(af x31)) (jn (α:=Bool×qE×(Bool×List Sx)×Sx×(rO×List rN)×ca×List (List UInt8)) (be (Sx.op x.1) 9 (aE ((decide (((Sx.op x.1):Int)=9)),J.2.1,J.p2,dW J.p3,J.q4)) (be (Sx.op x.1) 10 (aE ((decide (((Sx.op x.1):Int)=10)),J.2.1,J.p2,dW J.p3,J.q4)) (aE ((decide (((Sx.op x.1):Int)=11)),J.2.1,J.p2,dW J.p3,J.q4)))) λI=>(bcase I.1 (obind (gu (I.p4,x.2.1.2.2,(Sx.name I.p3),5,5)) λy35=>(iI y35 0 (af (y35,I.2.1,I.p2,I.q5)) (obind (gZ (I.p4.1,(Sx.name I.p3))) λy36=>(bK F6 I.p4.1 y36 λz37=>(obind (dM ((4,4,z37.2.2.2.2.2),I.2.1,I.p2,I.q5)) λy38=>(bE (aB (al I.q6) (al y38.q4)&&(aB (al I.p5) (al y38.p3)&&(((I.p2.1==y38.p2.1)&&ai)&&aB (al I.p2.2) (al y38.p2.2)&&ai))) (jn (α:=Int×qE×(Bool×List Sx)×ca×List (List UInt8)) (bcase y1.1 (obind (cX ai) λy40=>(aE (y40,y38.2))) (bcase (!y38.1) (obind (cX ai) λy41=>(aE (y41,y38.2))) (be (Sx.op I.p3) 9 (obind (cX y2.1) λy42=>(aE (y42,y38.2))) (obind (cX aj) λy43=>(aE (y43,y38.2)))))) λx39=>(af x39)))))))) (be (Sx.op x.1) 12 (obind (gu (I.p4,x.2.1.2.2,(Sx.name I.p3),7,7)) λy44=>(iI y44 0 (af (y44,I.2.1,I.p2,I.q5)) (obind (gH (I.p4.2,(Sx.name I.p3))) λy45=>(jn (α:=Bool×qE×(Bool×List Sx)×Sx×ca×List (List UInt8)) (bcase y1.1 (aE (ai,I.2.1,I.p2,dW I.p3,I.q5)) (bcase y2.1 (aE (ai,I.2.1,I.p2,dW I.p3,I.q5)) (bcase y3.1 (aE (ai,I.2.1,I.p2,dW I.p3,I.q5)) (be y45 x.2.1.2.2 (aE (ai,I.2.1,I.p2,dW I.p3,I.q5)) (aE ((decide ((y45:Int)=0)),I.2.1,I.p2,dW I.p3,I.q5)))))) λU=>(bcase U.1 (af (7,U.2.1,U.p2,U.q4)) (obind (iS (U.p4,(Sx.name U.p3))) λy47=>(jN 0 y47 (af (8,U.2.1,U.p2,U.q4)) (bE (bc (al U.p4+al ([(Sx.name U.p3)])) 16) (af (0,U.2.1,U.p2,(U.p4++([(Sx.name U.p3)])),U.q5)))))))))) (be (Sx.op x.1) 13 (jn (α:=Int×qE×(Bool×List Sx)×ca×List (List UInt8)) (obind (gu (I.p4,x.2.1.2.2,(Sx.name I.p3),7,7)) λy49=>(bcase y1.1 (obind (cX ai) λy50=>(obind (iR (y49,y50)) λy51=>(aE (y51,I.2.1,I.p2,I.q5)))) (bcase y2.1 (obind (cX ai) λy52=>(obind (iR (y49,y52)) λy53=>(aE (y53,I.2.1,I.p2,I.q5)))) (obind (gH (I.p4.2,(Sx.name I.p3))) λy54=>(obind (cX (decide ((y54:Int)=x.2.1.2.2))) λy55=>(obind (iR (y49,y55)) λy56=>(aE (y56,I.2.1,I.p2,I.q5)))))))) λx48=>(af x48)) (be (Sx.op x.1) 14 (jn (α:=Int×qE×(Bool×List Sx)×Sx×(rO×List rN)×ca×List (List UInt8)) (obind (gu (I.p4,x.2.1.2.2,(Sx.name I.p3),6,6)) λy58=>(bcase y1.1 (obind (cX ai) λy59=>(obind (iR (y58,y59)) λy60=>(aE (y60,I.2.1,I.p2,dW I.p3,I.q4)))) (obind (cX y3.1) λy61=>(obind (iR (y58,y61)) λy62=>(aE (y62,I.2.1,I.p2,dW I.p3,I.q4)))))) λZ=>(jn (α:=Int×qE×(Bool×List Sx)×Sx×(rO×List rN)×ca×List (List UInt8)) (jn (α:=Bool×qE×(Bool×List Sx)×Sx×(rO×List rN)×ca×List (List UInt8)) (be Z.1 0 (obind (iS (Z.q6,(Sx.name Z.p3))) λy65=>(aE ((cV 0 y65),Z.2.1,Z.p2,dW Z.p3,Z.q4))) (aE (aj,Z.2.1,Z.p2,dW Z.p3,Z.q4))) λx64=>(bcase x64.1 (aE (8,x64.2.1,x64.p2,dW x64.p3,x64.q4)) (aE (Z.1,x64.2.1,x64.p2,dW x64.p3,x64.q4)))) λY=>(bE (bc (al Y.q6+al ([(Sx.name Y.p3)])) 16) (obind (l_ (Y.p4,x.2.1.2.2,dT ((Xp.op (Sx.expr Y.p3)),(Xp.n (Sx.expr Y.p3)),(Xp.name (Sx.expr Y.p3)),(Xp.l (Sx.expr Y.p3))))) λy66=>(obind (iR (Y.1,y66)) λy67=>(af (y67,Y.2.1,Y.p2,Y.p5,(Y.q6++([(Sx.name Y.p3)]))))))))) (obind (gu (I.p4,x.2.1.2.2,(Sx.name I.p3),8,8)) λy68=>(obind (gu (I.p4,x.2.1.2.2,(Sx.arg I.p3),6,6)) λy69=>(obind (cX y1.1) λy70=>(obind (iR (y69,y70)) λy71=>(obind (iR (y68,y71)) λy72=>(af (y72,I.2.1,I.p2,I.q5))))))))))))))))))))))))))
def mc (rr04_walk_all:((List Sx)×qE×(Bool×List Sx)×ca×List (List UInt8))->Option adi) (x:(List Sx)×qE×(Bool×List Sx)×ca×List (List UInt8)):Option adi:=
 (iter (σ:=Int×qE×(Bool×List Sx)×ca×List (List UInt8)) (λU=>(bx U.1 (aX x.1) (bK (.sm) x.1 U.1 λZ=>(obind (l9 (dW Z,U.2)) λY=>(bE (aB (al U.q4) (al U.q4)&&(aB (al U.p3) (al U.p3)&&(((U.p2.1==Y.p2.1)&&ai)&&aB (al U.p2.2) (al Y.p2.2)&&ai))) (jn (α:=Int×qE×Sx×(Bool×List Sx)×ca×List (List UInt8)) (bx 6 (bl .i64 ((aX Y.p2.2)+1)) (aE (2,Y.2.1,dW Z,Y.2.2)) (aE (Y.1,Y.2.1,dW Z,Y.2.2))) λI=>(iI I.1 0 (aE ((I.1,(Sx.line I.p2)),I.2.1,I.q3)) (bE (bc (al I.p3.2+al ([nE (0,0,[],[],([]:List Xp),dT (0,0,[],([]:List Xp)),([]:List Sx),([]:List Sx))])) 176) (ck (fe (aX I.p3.2) (al (I.p3.2++([nE (0,0,[],[],([]:List Xp),dT (0,0,[],([]:List Xp)),([]:List Sx),([]:List Sx))])))) (obind (rr04_walk_all ((Sx.body I.p2),I.2.1,(I.p3.1,(cq (I.p3.2++([nE (0,0,[],[],([]:List Xp),dT (0,0,[],([]:List Xp)),([]:List Sx),([]:List Sx))])) (aX I.p3.2) (dW I.p2))),I.q4)) λM=>(bE (aB (al I.q5) (al I.q5)&&(aB (al I.p4) (al I.p4)&&(((I.p3.1==I.p3.1)&&ai)&&aB (al (cq (I.p3.2++([nE (0,0,[],[],([]:List Xp),dT (0,0,[],([]:List Xp)),([]:List Sx),([]:List Sx))])) (aX I.p3.2) (dW I.p2))) (al (cq (I.p3.2++([nE (0,0,[],[],([]:List Xp),dT (0,0,[],([]:List Xp)),([]:List Sx),([]:List Sx))])) (aX I.p3.2) (dW I.p2)))&&ai))) (jn (α:=(Int×Int)×qE×(Bool×List Sx)×ca×List (List UInt8)) (be M.1.1 0 (obind (rr04_walk_all ((Sx.els I.p2),M.2)) λy7=>(bE (aB (al M.q4) (al M.q4)&&(aB (al M.p3) (al M.p3)&&(((M.p2.1==M.p2.1)&&ai)&&aB (al M.p2.2) (al M.p2.2)&&ai))) (aE y7))) (aE M)) λJ=>(bE (cV 0 (bl .i64 ((aX J.p2.2)-1))&&fP (bl .i64 ((aX J.p2.2)-1)) (al J.p2.2)) (iI J.1.1 0 (aE (J.1,J.2.1,(aj,(du (aS (bl .i64 ((aX J.p2.2)-1))) J.p2.2)),J.q3)) (cK ((cB U.1),J.2.1,(aj,(du (aS (bl .i64 ((aX J.p2.2)-1))) J.p2.2)),J.q3)))))))))))))) (aE ((0,0),U.2)))) (0,x.2))
def iw:Nat->((List Sx)×qE×(Bool×List Sx)×ca×List (List UInt8))->Option adi
 |0,_=>ah
 |n+1,x=>mc (iw n) x
theorem Bu (n:Nat) (x:(List Sx)×qE×(Bool×List Sx)×ca×List (List UInt8)):iw (n+1) x=mc (iw n) x:=rfl
def vj (x:(List Sx)×qE×(Bool×List Sx)×ca×List (List UInt8)):Option adi:=iw fuel x
def t_ (rr04_Count:(List Sx)->Option (Int)) (x:List Sx):Option (Int):=
 (iter (σ:=Int×Int) (λI=>(bx I.2 (aX x) (ve I.2 x (lt (Sx.body (aJ (T:=.sm) x I.2)) λM=>(obind (rr04_Count M) λY=>(ve I.2 x (lt (Sx.els (aJ (T:=.sm) x I.2)) λJ=>(obind (rr04_Count J) λU=>(cK ((bl .i64 ((bl .i64 (I.1+Y))+U)),(cB I.2))))))))) (aE I.1))) ((aX x),0))
def mV:Nat->(List Sx)->Option (Int)
 |0,_=>ah
 |n+1,x=>t_ (mV n) x
theorem xI (n:Nat) (x:List Sx):mV (n+1) x=t_ (mV n) x:=rfl
def Bj (x:List Sx):Option (Int):=mV fuel x
def qW (x:List aa3):Option (Int×Int):=
 (iter (σ:=Int×Int×Int×Int×Int) (λI=>(bx I.q4 (aX x) (jn (α:=Int×Int×Int×Int) (bK F6 x I.q4 λJ=>(bE (cV 0 I.q4&&cV I.q4 (al x)) (obind (gZ ((du (aS I.q4) x),J.p2)) λy4=>(jN 0 y4 (cK (bU (4,J.2.1))) (bx 4 J.p3 (cK (bU (2,J.2.1))) (jn (α:=(Int×Int×Int×Int)×Int×Int×(List UInt8)×Int×Int×List UInt8) (jn (α:=Bool×Int×Int×(List UInt8)×Int×Int×List UInt8) (be J.1 1 (aE ((decide ((J.1:Int)=1)),J)) (aE ((decide ((J.1:Int)=2)),J))) λY=>(bcase Y.1 (aE (((bl .i64 (I.1+(j9 Y.p4 1))),I.2.1,I.p2,I.p3),Y.2)) (jn (α:=Bool×Int×Int×(List UInt8)×Int×Int×List UInt8) (be J.1 3 (aE ((decide ((J.1:Int)=3)),Y.2)) (aE ((decide ((J.1:Int)=4)),Y.2))) λZ=>(bcase Z.1 (aE ((I.1,(cB I.2.1),I.p2,I.p3),Z.2)) (be J.1 5 (aE ((I.1,I.2.1,(cB I.p2),I.p3),Z.2)) (aE ((I.1,I.2.1,I.p2,(cB I.p3)),Z.2))))))) λM=>(jn (α:=Bool×Int×Int×(List UInt8)×Int×Int×List UInt8) (bx 12 M.1.1 (aE (ai,M.2)) (bx 4 M.1.2.1 (aE (ai,M.2)) (bx 2 M.1.p2 (aE (ai,M.2)) (aE ((fP 2 M.1.q3),M.2))))) λU=>(bcase U.1 (cK (bU (2,U.p2))) (be U.2.1 5 (bE (cV 0 I.q4&&cV I.q4 (al x)) (obind (gZ ((du (aS I.q4) x),U.q6)) λy9=>(bx y9 0 (cK (bU (5,U.p2))) (bK F6 x y9 λz10=>(iI z10.1 3 (cK (bU (6,U.p2))) (aE M.1)))))) (aE M.1)))))))))) λx2=>(cK (x2.1,x2.2.1,x2.p2,x2.q3,(cB I.q4)))) (aE (0,0)))) (0,0,0,0,0))
def nB (x:rO×List rN):Option (Int×Int):=
 (iter (σ:=Int×rO×List rN) (λJ=>(bx J.1 (aX J.2.2) (bK sB J.2.2 J.1 λY=>(jn (α:=Bool×(rO×List rN)×(List UInt8)×Int×ca×List Sx) (obind (gZ (J.2.1,Y.1)) λy4=>(jN 0 y4 (aE (ai,J.2,Y)) (bE (cV 0 J.1&&cV J.1 (al J.2.2)) (obind (gH ((du (aS J.1) J.2.2),Y.1)) λy5=>(aE ((cV 0 y5),J.2,Y)))))) λx3=>(bcase x3.1 (aE (4,x3.p3)) (cK ((cB J.1),x3.2.1))))) (obind (iter (σ:=Int×rO×List rN) (λU=>(bx U.1 (aX U.2.2) (bK sB U.2.2 U.1 λz7=>(bx 4 (aX z7.p2) (aE (2,z7.2.1)) (iter (σ:=Int×(rO×List rN)×(List UInt8)×Int×ca×List Sx) (λI=>(bx I.1 (aX I.p4) (bK (.str) I.p4 I.1 λZ=>(jn (α:=Bool×(rO×List rN)×(List UInt8)×Int×ca×List Sx) (obind (gZ (I.2.1.1,Z)) λy11=>(jN 0 y11 (aE (ai,I.2)) (obind (gH (I.2.1.2,Z)) λy12=>(jN 0 y12 (aE (ai,I.2)) (bE (cV 0 I.1&&cV I.1 (al I.p4)) (obind (iS ((du (aS I.1) I.p4),Z)) λy13=>(aE ((cV 0 y13),I.2)))))))) λM=>(bcase M.1 (aE (bU (4,M.p3))) (cK ((cB I.1),M.2))))) (aE (oE ((cB U.1),I.2.1))))) (0,U.2,z7)))) (aE (0,0)))) (0,J.2)) λr=>af (bU r)))) (0,x))
def fd (x:rO×List rN):Option (Int×Int):=
 (obind (pq x) λy1=>(bcase (!y1) (af (3,0)) (obind (qW x.1) λY=>(iI Y.1 0 (af Y) (bx 4 (aX x.2) (af (2,0)) (obind (nB x) λU=>(iI U.1 0 (af U) (iter (σ:=(Int×Int)×rO×List rN) (λJ=>(bx J.1.2 (aX J.2.2) (bK sB J.2.2 J.1.2 λz5=>(obind (Bj z5.2.2.2) λy6=>(cK (((bl .i64 (J.1.1+y6)),(cB J.1.2)),J.2)))) (obind (bx 60 J.1.1 (af (2,0)) (iter (σ:=Int×(rO×List rN)×qE×(Bool×List Sx)×ca×List (List UInt8)) (λI=>(bx I.1 (aX I.2.1.2) (bK sB I.2.1.2 I.1 λZ=>(obind (vj (Z.2.2.2,(I.p2.1,I.p2.2.1,I.1),I.q3)) λM=>(bE (aB (al I.q5) (al I.q5)&&(aB (al I.p4) (al I.p4)&&(((I.p3.1==I.p3.1)&&ai)&&aB (al I.p3.2) (al I.p3.2)&&ai))) (iI M.1.1 0 (aE M.1) (cK ((cB I.1),I.2.1,M.2)))))) (aE (0,0)))) (0,J.2,(J.2.1,J.2.2,0),(ai,([]:List Sx)),([]:List (List UInt8)),([]:List (List UInt8))))) λr=>af (bU r)))) ((0,0),x)))))))))
def w9 (rr06_sites:((Int×Int×List Sx)×List (Int×Int×Int))->Option (Int×List (Int×Int×Int))) (x:(Int×Int×List Sx)×List (Int×Int×Int)):Option (Int×List (Int×Int×Int)):=
 (iter (σ:=(Int×Int)×List (Int×Int×Int)) (λI=>(bx I.1.2 (aX x.1.2.2) (ve I.1.2 x.1.2.2 (lt (Sx.line (aJ (T:=.sm) x.1.2.2 I.1.2)) λJ=>(bE (bc (al I.2+al ([(x.1.1,I.1.1,J)])) 24) (ve I.1.2 x.1.2.2 (lt (Sx.body (aJ (T:=.sm) x.1.2.2 I.1.2)) λZ=>(obind (rr06_sites ((x.1.1,(cB I.1.1),Z),(I.2++([(x.1.1,I.1.1,J)])))) λM=>(bE (aB (al (I.2++([(x.1.1,I.1.1,J)]))) (al (I.2++([(x.1.1,I.1.1,J)])))&&ai) (ve I.1.2 x.1.2.2 (lt (Sx.els (aJ (T:=.sm) x.1.2.2 I.1.2)) λY=>(obind (rr06_sites ((x.1.1,M.1,Y),M.2)) λU=>(bE (aB (al M.2) (al M.2)&&ai) (cK ((U.1,(cB I.1.2)),U.2))))))))))))) (aE (I.1.1,I.2)))) ((x.1.2.1,0),x.2))
def pg:Nat->((Int×Int×List Sx)×List (Int×Int×Int))->Option (Int×List (Int×Int×Int))
 |0,_=>ah
 |n+1,x=>w9 (pg n) x
theorem Gq (n:Nat) (x:(Int×Int×List Sx)×List (Int×Int×Int)):pg (n+1) x=w9 (pg n) x:=rfl
def HY (x:(Int×Int×List Sx)×List (Int×Int×Int)):Option (Int×List (Int×Int×Int)):=pg fuel x
def j7 (x:gy×List UInt8):Option (Int):=
 (iter (σ:=Int) (λI=>(bx I (aX x.1) (bK ry x.1 I λJ=>(bcase (decide ((J.1:List UInt8)=x.2)) (aE I) (cK (cB I)))) (aE (-1)))) 0)
def kZ (x:dG×List UInt8):Option (Int):=
 (iter (σ:=Int×gO×gy×(List fg)×ca×ca×List (Int×Int×Int)) (λI=>(bx I.1 (aX I.2.1) (bK kw I.2.1 I.1 λJ=>(bcase (decide ((J.1:List UInt8)=x.2)) (aE I.1) (cK ((cB I.1),I.2)))) (aE (-1)))) (0,x.1))
def tO (x:rO×List rN):Option dG:=
 (obind (fd x) λy1=>(iI y1.1 0 (af (([]:List RK),([]:List ((List UInt8)×Bool)),([]:List fg),([]:List (List UInt8)),([]:List (List UInt8)),([]:List (Int×Int×Int)))) (iter (σ:=Int×(rO×List rN)×gO×gy×(List fg)×List (List UInt8)) (λU=>(bx U.1 (aX U.2.1.1) (bK F6 U.2.1.1 U.1 λY=>(jn (α:=(rO×List rN)×gO×gy×(List fg)×List (List UInt8)) (jn (α:=Bool×(rO×List rN)×aa3×gO×gy×(List fg)×List (List UInt8)) (be Y.1 1 (aE ((decide ((Y.1:Int)=1)),U.2.1,Y,U.2.2)) (aE ((decide ((Y.1:Int)=2)),U.2.1,Y,U.2.2))) λx5=>(bcase x5.1 (iter (σ:=Int×(rO×List rN)×aa3×gO×gy×(List fg)×List (List UInt8)) (λJ=>(bx J.1 (j9 J.p2.p3 1) (bE (bc (al J.p3+al ([(J.p2.p2,J.1,J.p2.p3,(decide ((J.p2.1:Int)=2)),J.p2.p4)])) 48) (cK ((cB J.1),J.2.1,J.p2,(J.p3++([(J.p2.p2,J.1,J.p2.p3,(decide ((J.p2.1:Int)=2)),J.p2.p4)])),J.q4))) (aE (bU (J.2.1,J.q3))))) (0,x5.2)) (jn (α:=Bool×(rO×List rN)×aa3×gO×gy×(List fg)×List (List UInt8)) (be Y.1 3 (aE ((decide ((Y.1:Int)=3)),x5.2)) (aE ((decide ((Y.1:Int)=4)),x5.2))) λI=>(bcase I.1 (bE (bc (al I.p4+al ([(I.p2.p2,(decide ((I.p2.1:Int)=4)))])) 24) (aE (I.2.1,I.p3,(I.p4++([(I.p2.p2,(decide ((I.p2.1:Int)=4)))])),I.q5))) (be Y.1 5 (obind (j7 (I.p4,I.p2.q5)) λy8=>(bE (bc (al I.p5+al ([(I.p2.p2,y8)])) 24) (aE (I.2.1,I.p3,I.p4,(I.p5++([(I.p2.p2,y8)])),I.q6)))) (bE (bc (al I.q6+al ([I.p2.p2])) 16) (aE (I.2.1,I.p3,I.p4,I.p5,(I.q6++([I.p2.p2])))))))))) λx4=>(cK ((cB U.1),x4)))) (obind (iter (σ:=Int×(rO×List rN)×gO×gy×(List fg)×ca×ca×List (Int×Int×Int)) (λM=>(bx M.1 (aX M.2.1.2) (bK sB M.2.1.2 M.1 λZ=>(bE (bc (al M.p6+al ([Z.1])) 16) (bK sB M.2.1.2 M.1 λz11=>(obind (HY ((M.1,0,z11.2.2.2),M.q7)) λy12=>(bE (aB (al M.q7) (al M.q7)&&ai) (cK ((cB M.1),M.2.1,M.p2,M.p3,M.p4,M.p5,(M.p6++([Z.1])),y12.2))))))) (aE M.2.2))) (0,U.2.1,U.p2,U.p3,U.p4,U.q5,([]:List (List UInt8)),([]:List (Int×Int×Int)))) λr=>af (bU r)))) (0,x,([]:List RK),([]:List ((List UInt8)×Bool)),([]:List fg),([]:List (List UInt8))))))
def o7 (x:gO×gy×(List fg)×ca×ca×List (Int×Int×Int)):Option (ca×Bool):=
 (iter (σ:=Int×dG×List (List UInt8)) (λJ=>(bx J.1 (aX J.2.1.1) (jn (α:=Int×dG×List (List UInt8)) (bK kw J.2.1.1 J.1 λU=>(bE (bc (al J.2.2+al ([U.1])) 16) (be U.p2 0 (iI U.2.1 0 (cK (bU (([]:List (List UInt8)),aj))) (aE ((cB J.1),J.2.1,(J.2.2++([U.1]))))) (jn (α:=Bool×dG×ca×(List UInt8)×Int×Int×Bool×Int) (bx U.p2 1 (aE (ai,J.2.1,(J.2.2++([U.1])),U)) (bx 4 U.p2 (aE (ai,J.2.1,(J.2.2++([U.1])),U)) (aE ((fP (bl .i64 ((aX J.2.1.1)-J.1)) U.p2),J.2.1,(J.2.2++([U.1])),U)))) λx4=>(bcase x4.1 (cK (bU (([]:List (List UInt8)),aj))) (iter (σ:=Int×dG×ca×(List UInt8)×Int×Int×Bool×Int) (λM=>(bx M.1 M.p5 (bK kw M.2.1.1 (bl .i64 (J.1+M.1)) λZ=>(jn (α:=Bool×dG×ca×(List UInt8)×Int×Int×Bool×Int) (iI Z.2.1 M.1 (aE (ai,M.2)) (bcase (!decide ((Z.1:List UInt8)=M.p3)) (aE (ai,M.2)) (iI Z.p2 M.p5 (aE (ai,M.2)) (iI Z.q4 M.q7 (aE (ai,M.2)) (aE (Z.p3,M.2)))))) λx7=>(bcase x7.1 (aE (oE (bU (([]:List (List UInt8)),aj)))) (cK ((cB M.1),x7.2))))) (aE (bU ((bl .i64 (J.1+M.p5)),M.2.1,M.p2))))) (0,x4.2))))))) λx2=>(cK x2)) (obind (iter (σ:=Int×dG×List (List UInt8)) (λY=>(bx Y.1 (aX Y.2.1.2.1) (bK ry Y.2.1.2.1 Y.1 λz9=>(bE (bc (al Y.2.2+al ([z9.1])) 16) (cK ((cB Y.1),Y.2.1,(Y.2.2++([z9.1])))))) (obind (iter (σ:=Int×dG×List (List UInt8)) (λI=>(bx I.1 (aX I.2.1.p2) (bK lY I.2.1.p2 I.1 λz11=>(bE (bc (al I.2.2+al ([z11.1])) 16) (cK ((cB I.1),I.2.1,(I.2.2++([z11.1])))))) (obind (bE (bc (al I.2.2+al I.2.1.p3) 16) (bE (bc (al (I.2.2++I.2.1.p3)+al I.2.1.p4) 16) (af (((I.2.2++I.2.1.p3)++I.2.1.p4),ai)))) λr=>af (bU r)))) (0,Y.2)) λr=>af (bU r)))) (0,J.2)) λr=>af (bU r)))) (0,x,([]:List (List UInt8))))
def gY (x:gO×gy×(List fg)×ca×ca×List (Int×Int×Int)):Option (Bool):=
 (jn (α:=Bool×gO×gy×(List fg)×ca×ca×List (Int×Int×Int)) (bx 12 (aX x.1) (aE (ai,x)) (bx 4 (aX x.2.1) (aE (ai,x)) (bx 2 (aX x.p2) (aE (ai,x)) (bx 2 (aX x.p3) (aE (ai,x)) (bx (aX x.p4) 1 (aE (ai,x)) (bx 4 (aX x.p4) (aE (ai,x)) (aE ((fP 60 (aX x.q5)),x)))))))) λx1=>(bcase x1.1 (af aj) (obind (o7 x1.2) λy2=>(bcase (!y2.2) (af aj) (iter (σ:=Int×gO×gy×(List fg)×ca×ca×List (Int×Int×Int)) (λY=>(bx Y.1 (aX y2.1) (jn (α:=Bool×gO×gy×(List fg)×ca×ca×List (Int×Int×Int)) (bK (.str) y2.1 Y.1 λz5=>(obind (e_ z5) λy6=>(bcase (!y6) (aE (ai,Y.2)) (bE (cV 0 Y.1&&cV Y.1 (al y2.1)) (bK (.str) y2.1 Y.1 λz7=>(obind (iS ((du (aS Y.1) y2.1),z7)) λy8=>(aE ((cV 0 y8),Y.2)))))))) λx4=>(bcase x4.1 (aE aj) (cK ((cB Y.1),x4.2)))) (obind (iter (σ:=Int×gO×gy×(List fg)×ca×ca×List (Int×Int×Int)) (λM=>(bx M.1 (aX M.p3) (bK lY M.p3 M.1 λz10=>(jn (α:=Bool×gO×gy×(List fg)×ca×ca×List (Int×Int×Int)) (bx z10.2 0 (aE (ai,M.2)) (jN (aX M.p2) z10.2 (aE (ai,M.2)) (bK ry M.p2 z10.2 λz12=>(aE (z12.2,M.2))))) λx11=>(bcase x11.1 (aE aj) (cK ((cB M.1),x11.2))))) (obind (iter (σ:=Int×gO×gy×(List fg)×ca×ca×List (Int×Int×Int)) (λI=>(bx I.1 (aX I.q6) (jn (α:=gO×gy×(List fg)×ca×ca×List (Int×Int×Int)) (bK oD I.q6 I.1 λZ=>(jn (α:=Bool×dG×Int×Int×Int) (bx Z.1 0 (aE (ai,I.2,Z)) (aE ((cV (aX I.p5) Z.1),I.2,Z))) λU=>(bcase U.1 (cK (bU aj)) (jn (α:=Bool×dG×Int×Int×Int) (be I.1 0 (aE (ai,U.2)) (bK oD U.2.1.q5 (bl .i64 (I.1-1)) λz18=>(aE ((!decide ((z18.1:Int)=U.p2)),U.2)))) λJ=>(bcase J.1 (jn (α:=Bool×gO×gy×(List fg)×ca×ca×List (Int×Int×Int)) (iI J.p3 0 (aE (ai,J.2.1)) (bx 0 I.1 (bK oD J.2.1.q5 (bl .i64 (I.1-1)) λz20=>(aE ((fP J.p2 z20.1),J.2.1))) (aE (aj,J.2.1)))) λx19=>(bcase x19.1 (cK (bU aj)) (aE x19.2))) (bK oD J.2.1.q5 (bl .i64 (I.1-1)) λz21=>(iI J.p3 (cB z21.2.1) (cK (bU aj)) (aE J.2.1)))))))) λx14=>(cK ((cB I.1),x14))) (aE ai))) (0,M.2)) λr=>af (bU r)))) (0,Y.2)) λr=>af (bU r)))) (0,x1.2))))))
def jy (x:Int×Int×Int×Int×Int×Int):Option (List Int):=
 (jn (α:=Bool×Int×Int×Int×Int×Int×Int) (be x.1 1 (aE ((decide ((x.1:Int)=1)),x)) (be x.1 6 (aE ((decide ((x.1:Int)=6)),x)) (be x.1 10 (aE ((decide ((x.1:Int)=10)),x)) (aE ((decide ((x.1:Int)=27)),x))))) λM=>(bcase M.1 (af ([M.p2])) (jn (α:=Bool×Int×Int×Int×Int×Int×Int) (be x.1 2 (aE ((decide ((x.1:Int)=2)),M.2)) (aE ((decide ((x.1:Int)=3)),M.2))) λI=>(bcase I.1 (af ([I.p2,I.p3])) (be x.1 4 (af ([I.p2,I.p3,I.p4])) (be x.1 7 (af ([I.p2,I.p4])) (jn (α:=Bool×Int×Int×Int×Int×Int×Int) (be x.1 8 (aE ((decide ((x.1:Int)=8)),I.2)) (aE ((decide ((x.1:Int)=26)),I.2))) λJ=>(bcase J.1 (af ([J.p3])) (be x.1 9 (af ([J.p3,J.p4])) (af ([]:List Int)))))))))))
def pn (x:Int):Option (Bool):=
 (jn (α:=Bool) (jN 1 x (aE (cV x 5)) (aE aj)) λI=>(af I))
def o8 (x:(List jO)×Int):Option (Bool):=
 (iter (σ:=Int×Int) (λI=>(jN I.2 (aX x.1) (jn (α:=Int) (jn (α:=Bool) (bx I.1 0 (aE ai) (aE (cV (aX x.1) I.1))) λZ=>(bcase Z (cK (bU aj)) (bK qD x.1 I.1 λU=>(obind (pn U.1) λY=>(bcase (!Y) (cK (bU ai)) (bK qD x.1 I.1 λM=>(be M.1 5 (bK qD x.1 I.1 λJ=>(aE J.2.1)) (aE (cB I.1))))))))) λx2=>(cK (x2,(cB I.2)))) (aE aj))) (x.2,0))
def jf (x:Int×Int):Option (Bool):=
 (jn (α:=Bool) (jN 0 x.1 (aE (fP x.1 x.2)) (aE aj)) λI=>(af I))
def mQ (x:dG×Int×Int):Option (Bool):=
 (jn (α:=Bool) (obind (jf (x.2.1,(aX x.1.1))) λU=>(bcase U (bK kw x.1.1 x.2.1 λM=>(be M.2.1 0 (bK kw x.1.1 x.2.1 λJ=>(iI J.2.2.1 0 (bK kw x.1.1 x.2.1 λI=>(aE (decide ((I.2.2.1:Int)=x.2.2)))) (aE aj))) (aE aj))) (aE aj))) λY=>(af Y))
def lm (x:dG×Int×Int×Int×Int×Int×Int):Option (Bool):=
 (be x.2.1 6 (jn (α:=Bool) (obind (jf (x.p3,(aX x.1.1))) λy2=>(bcase y2 (bK kw x.1.1 x.p3 λz3=>(aE (decide ((z3.2.2.1:Int)=0)))) (aE aj))) λx1=>(af x1)) (be x.2.1 8 (jn (α:=Bool) (obind (jf (x.p2,(aX x.1.1))) λy5=>(bcase y5 (bK kw x.1.1 x.p2 λz6=>(aE (decide ((z6.2.2.1:Int)=0)))) (aE aj))) λx4=>(af x4)) (be x.2.1 7 (obind (mQ (x.1,x.p3,x.p5)) λy7=>(af y7)) (be x.2.1 9 (obind (mQ (x.1,x.p2,x.p5)) λy8=>(af y8)) (jn (α:=Bool×dG×Int×Int×Int×Int×Int×Int) (be x.2.1 11 (aE ((decide ((x.2.1:Int)=11)),x)) (aE ((decide ((x.2.1:Int)=12)),x))) λU=>(bcase U.1 (jn (α:=Bool) (obind (jf (U.p3,(aX U.2.1.2.1))) λy11=>(bcase y11 (bK ry U.2.1.2.1 U.p3 λZ=>(aE (!Z.2))) (aE aj))) λx10=>(af x10)) (jn (α:=Bool×dG×Int×Int×Int×Int×Int×Int) (be x.2.1 13 (aE ((decide ((x.2.1:Int)=13)),U.2)) (be x.2.1 14 (aE ((decide ((x.2.1:Int)=14)),U.2)) (be x.2.1 15 (aE ((decide ((x.2.1:Int)=15)),U.2)) (aE ((decide ((x.2.1:Int)=16)),U.2))))) λJ=>(bcase J.1 (jn (α:=Bool) (obind (jf (J.p3,(aX J.2.1.2.1))) λy15=>(bcase y15 (bK ry J.2.1.2.1 J.p3 λY=>(aE Y.2)) (aE aj))) λx14=>(af x14)) (jn (α:=Bool×dG×Int×Int×Int×Int×Int×Int) (be x.2.1 21 (aE ((decide ((x.2.1:Int)=21)),J.2)) (be x.2.1 22 (aE ((decide ((x.2.1:Int)=22)),J.2)) (aE ((decide ((x.2.1:Int)=23)),J.2)))) λM=>(bcase M.1 (obind (jf (M.p3,(aX M.2.1.p2))) λy18=>(af y18)) (jn (α:=Bool×dG×Int×Int×Int×Int×Int×Int) (be x.2.1 24 (aE ((decide ((x.2.1:Int)=24)),M.2)) (aE ((decide ((x.2.1:Int)=25)),M.2))) λI=>(bcase I.1 (obind (jf (I.p3,(aX I.2.1.p4))) λy20=>(af y20)) (be x.2.1 26 (obind (jf (I.p3,(aX I.2.1.p3))) λy21=>(af y21)) (be x.2.1 27 (obind (jf (I.p4,(aX I.2.1.p3))) λy22=>(af y22)) (be x.2.1 3 (jn (α:=Bool) (be I.p6 4 (aE ai) (aE (decide ((I.p6:Int)=5)))) λx23=>(af x23)) (be x.2.1 4 (jn (α:=Bool) (jN 6 I.p6 (aE (cV I.p6 18)) (aE aj)) λx24=>(af x24)) (af ai)))))))))))))))))
def ii (x:dG×Int×Int×List jO):Option (Bool):=
 (jn (α:=Bool×dG×Int×List jO) (bx x.p2 0 (aE (ai,x.1,x.2.2)) (bx 32 x.p2 (aE (ai,x.1,x.2.2)) (aE ((decide (((aX x.q3):Int)=0)),x.1,x.2.2)))) λx1=>(bcase x1.1 (af aj) (iter (σ:=Int×dG×Int×List jO) (λJ=>(bx J.1 (aX x.q3) (bK qD J.q3 J.1 λY=>(jn (α:=Bool×dG×(Int×List jO)×Int×Int×Int×Int×Int×Int) (bx Y.1 1 (aE (ai,J.2.1,J.2.2,Y)) (bx 28 Y.1 (aE (ai,J.2.1,J.2.2,Y)) (bcase (((decide ((Y.1:Int)=28))==(decide ((J.1:Int)=(bl .i64 ((aX x.q3)-1))))) !=ai) (aE (ai,J.2.1,J.2.2,Y)) (obind (lm (J.2.1,Y)) λy5=>(bcase (!y5) (aE (ai,J.2.1,J.2.2,Y)) (obind (o8 (J.q3,J.1)) λy6=>(aE ((!y6),J.2.1,J.2.2,Y)))))))) λI=>(bcase I.1 (aE aj) (jn (α:=Bool×dG×(Int×List jO)×Int×Int×Int×Int×Int×Int) (be I.p3 28 (iI I.q8 (-1) (aE (ai,I.2)) (iI I.p3 28 (obind (jf (I.q8,(aX I.2.1.q5))) λy8=>(bcase (!y8) (aE (ai,I.2)) (bK oD I.2.1.q5 I.q8 λz9=>(aE ((!decide ((z9.1:Int)=x.2.1)),I.2))))) (aE (aj,I.2)))) (iI I.p3 28 (obind (jf (I.q8,(aX I.2.1.q5))) λy10=>(bcase (!y10) (aE (ai,I.2)) (bK oD I.2.1.q5 I.q8 λz11=>(aE ((!decide ((z11.1:Int)=x.2.1)),I.2))))) (aE (aj,I.2)))) λU=>(bcase U.1 (aE aj) (jn (α:=Bool×dG×(Int×List jO)×Int×Int×Int×Int×Int×Int) (be U.p3 5 (obind (jf (U.p4,(aX x.q3))) λy13=>(bcase (!y13) (aE (ai,U.2)) (be U.p3 10 (obind (jf (U.p5,(aX x.q3))) λy14=>(aE ((!y14),U.2))) (aE (aj,U.2))))) (be U.p3 10 (obind (jf (U.p5,(aX x.q3))) λy15=>(aE ((!y15),U.2))) (aE (aj,U.2)))) λZ=>(bcase Z.1 (aE aj) (obind (jy Z.q3) λy16=>(iter (σ:=Int×dG×Int×List jO) (λM=>(bx M.1 (aX y16) (bK aM y16 M.1 λz18=>(obind (jf (z18,M.p2)) λy19=>(bcase (!y19) (aE (bU aj)) (cK ((cB M.1),M.2))))) (aE (oE ((cB J.1),M.2))))) (0,Z.2.1,Z.p2)))))))))) (aE ai))) (0,x1.2))))
def jx (x:dG×List (Int×List jO)):Option (Bool):=
 (jn (α:=Bool×dG×List (Int×List jO)) (obind (gY x.1) λY=>(bcase (!Y) (aE (ai,x)) (aE ((!decide (((aX x.2):Int)=(aX x.1.p4))),x)))) λJ=>(bcase J.1 (af aj) (iter (σ:=Int×dG×List (Int×List jO)) (λI=>(bx I.1 (aX I.2.2) (bK wD I.2.2 I.1 λM=>(obind (ii (I.2.1,I.1,M)) λU=>(bcase (!U) (aE aj) (cK ((cB I.1),I.2))))) (aE ai))) (0,J.2))))
def cz (x:jO×rx×List jO):Option (rx×List jO):=
 (bE (bc (al x.2.2+al ([(x.1.1,x.1.2.1,x.1.p2,x.1.p3,x.1.p4,x.2.1.p7)])) 48) (af (x.2.1,(x.2.2++([(x.1.1,x.1.2.1,x.1.p2,x.1.p3,x.1.p4,x.2.1.p7)])))))
def qe (rr06_gen_value:((Xp×Int)×rx×List jO)->Option (rx×List jO)) (x:(Xp×Int)×rx×List jO):Option (rx×List jO):=
 (jn (α:=rx×List jO) (be (Xp.op x.1.1) 1 (obind (cz ((1,x.1.2,0,0,(Xp.n x.1.1),0),x.2)) λy2=>(bE (aB (al x.2.2) (al x.2.2)&&ai) (aE y2))) (be (Xp.op x.1.1) 2 (obind (iS (x.2.1.p6,(Xp.name x.1.1))) λy3=>(jN 0 y3 (obind (cz ((2,x.1.2,y3,0,0,0),x.2)) λy4=>(bE (aB (al x.2.2) (al x.2.2)&&ai) (aE y4))) (obind (kZ ((x.2.1.1,x.2.1.2.1,x.2.1.p2,x.2.1.p3,x.2.1.p4,x.2.1.p5),(Xp.name x.1.1))) λy5=>(obind (cz ((6,x.1.2,y5,0,0,0),x.2)) λy6=>(bE (aB (al x.2.2) (al x.2.2)&&ai) (aE y6)))))) (be (Xp.op x.1.1) 3 (bK (.ex) (Xp.l x.1.1) 0 λz7=>(obind (rr06_gen_value ((z7,x.1.2),x.2)) λI=>(bE (aB (al x.2.2) (al x.2.2)&&ai) (obind (kZ ((I.1.1,I.1.2.1,I.1.p2,I.1.p3,I.1.p4,I.1.p5),(Xp.name x.1.1))) λy9=>(bK kw I.1.1 y9 λz10=>(obind (cz ((7,x.1.2,y9,x.1.2,z10.2.2.1,0),I)) λy11=>(bE (aB (al I.2) (al I.2)&&ai) (aE y11)))))))) (be (aO (al (Xp.l x.1.1))) 1 (bK (.ex) (Xp.l x.1.1) 0 λz12=>(obind (rr06_gen_value ((z12,x.1.2),x.2)) λU=>(bE (aB (al x.2.2) (al x.2.2)&&ai) (obind (cz ((3,x.1.2,x.1.2,0,(Xp.op x.1.1),0),U)) λy14=>(bE (aB (al U.2) (al U.2)&&ai) (aE y14)))))) (bK (.ex) (Xp.l x.1.1) 0 λZ=>(obind (rr06_gen_value ((Z,x.1.2),x.2)) λM=>(bE (aB (al x.2.2) (al x.2.2)&&ai) (bK (.ex) (Xp.l x.1.1) 1 λY=>(obind (rr06_gen_value ((Y,(cB x.1.2)),M)) λJ=>(bE (aB (al M.2) (al M.2)&&ai) (obind (cz ((4,x.1.2,x.1.2,(cB x.1.2),(Xp.op x.1.1),0),J)) λy19=>(bE (aB (al J.2) (al J.2)&&ai) (aE y19))))))))))))) λx1=>(af x1))
def iC:Nat->((Xp×Int)×rx×List jO)->Option (rx×List jO)
 |0,_=>ah
 |n+1,x=>qe (iC n) x
theorem Ad (n:Nat) (x:(Xp×Int)×rx×List jO):iC (n+1) x=qe (iC n) x:=rfl
def iB (x:(Xp×Int)×rx×List jO):Option (rx×List jO):=iC fuel x
def lJ (x:Sx×rx×List jO):Option (rx×List jO):=
 (bx 0 (aO (al (Sx.index x.1))) (bK (.ex) (Sx.index x.1) 0 λz1=>(obind (iB ((z1,(aX x.2.1.p6)),x.2)) λM=>(bE (aB (al x.2.2) (al x.2.2)&&ai) (obind (iB ((dT ((Xp.op (Sx.expr x.1)),(Xp.n (Sx.expr x.1)),(Xp.name (Sx.expr x.1)),(Xp.l (Sx.expr x.1))),(bl .i64 ((aX x.2.1.p6)+1))),M)) λJ=>(bE (aB (al M.2) (al M.2)&&ai) (obind (kZ ((J.1.1,J.1.2.1,J.1.p2,J.1.p3,J.1.p4,J.1.p5),(Sx.name x.1))) λy4=>(bK kw J.1.1 y4 λz5=>(obind (cz ((9,y4,(bl .i64 ((aX x.2.1.p6)+1)),(aX x.2.1.p6),z5.2.2.1,0),J)) λy6=>(bE (aB (al J.2) (al J.2)&&ai) (af y6)))))))))) (obind (iB ((dT ((Xp.op (Sx.expr x.1)),(Xp.n (Sx.expr x.1)),(Xp.name (Sx.expr x.1)),(Xp.l (Sx.expr x.1))),(aX x.2.1.p6)),x.2)) λI=>(bE (aB (al x.2.2) (al x.2.2)&&ai) (obind (iS (I.1.p6,(Sx.name x.1))) λZ=>(jN 0 Z (obind (cz ((2,Z,(aX x.2.1.p6),0,0,0),I)) λy9=>(bE (aB (al I.2) (al I.2)&&ai) (af y9))) (obind (kZ ((I.1.1,I.1.2.1,I.1.p2,I.1.p3,I.1.p4,I.1.p5),(Sx.name x.1))) λY=>(obind (cz ((8,Y,(aX x.2.1.p6),0,0,0),I)) λU=>(bE (aB (al I.2) (al I.2)&&ai) (af U)))))))))
def jk (x:(List UInt8)×rx×List jO):Option (Int×rx×List jO):=
 (iter (σ:=Int×rx×List jO) (λI=>(bx I.1 (aX I.2.1.p2) (bK lY I.2.1.p2 I.1 λJ=>(bcase (decide ((J.1:List UInt8)=x.1)) (aE I) (cK ((cB I.1),I.2)))) (aE ((-1),I.2)))) (0,x.2))
def qf (rr06_gen_stmts:aa1->Option (rx×List jO)) (rr06_gen_stmt:Lu->Option (rx×List jO)) (rr06_gen_branches:Lu->Option (rx×List jO)) (rr06_gen_around:aa2->Option (rx×List jO)) (x:(List Sx)×rx×List jO):Option (rx×List jO):=
 (iter (σ:=Int×rx×List jO) (λI=>(bx I.1 (aX x.1) (bK (.sm) x.1 I.1 λJ=>(obind (rr06_gen_stmt (J,I.2)) λM=>(bE (aB (al I.2.2) (al I.2.2)&&ai) (cK ((cB I.1),M))))) (aE I.2))) (0,x.2))
def rH (rr06_gen_stmts:aa1->Option (rx×List jO)) (rr06_gen_stmt:Lu->Option (rx×List jO)) (rr06_gen_branches:Lu->Option (rx×List jO)) (rr06_gen_around:aa2->Option (rx×List jO)) (x:Sx×rx×List jO):Option (rx×List jO):=
 (jn (α:=rx×List jO) (be (Sx.op x.1) 1 (obind (lJ (dW x.1,(x.2.1.1,x.2.1.2.1,x.2.1.p2,x.2.1.p3,x.2.1.p4,x.2.1.p5,x.2.1.p6,x.2.1.q8,(cB x.2.1.q8)),x.2.2)) λy2=>(bE (aB (al x.2.2) (al x.2.2)&&ai) (aE y2))) (jn (α:=Bool×rx×Sx×List jO) (be (Sx.op x.1) 2 (aE ((decide (((Sx.op x.1):Int)=2)),(x.2.1.1,x.2.1.2.1,x.2.1.p2,x.2.1.p3,x.2.1.p4,x.2.1.p5,x.2.1.p6,x.2.1.q8,(cB x.2.1.q8)),dW x.1,x.2.2)) (aE ((decide (((Sx.op x.1):Int)=3)),(x.2.1.1,x.2.1.2.1,x.2.1.p2,x.2.1.p3,x.2.1.p4,x.2.1.p5,x.2.1.p6,x.2.1.q8,(cB x.2.1.q8)),dW x.1,x.2.2))) λI=>(bcase I.1 (obind (rr06_gen_branches (dW I.p2,I.2.1,I.q3)) λy4=>(bE (aB (al I.q3) (al I.q3)&&ai) (aE y4))) (be (Sx.op x.1) 4 (obind (j7 (I.2.1.2.1,(Sx.name I.p2))) λy5=>(obind (rr06_gen_around ((dW I.p2,11,12,y5),I.2.1,I.q3)) λy6=>(bE (aB (al I.q3) (al I.q3)&&ai) (aE y6)))) (be (Sx.op x.1) 5 (obind (j7 (I.2.1.2.1,(Sx.name I.p2))) λy7=>(obind (rr06_gen_around ((dW I.p2,13,14,y7),I.2.1,I.q3)) λy8=>(bE (aB (al I.q3) (al I.q3)&&ai) (aE y8)))) (be (Sx.op x.1) 6 (obind (j7 (I.2.1.2.1,(Sx.name I.p2))) λy9=>(obind (rr06_gen_around ((dW I.p2,15,16,y9),I.2.1,I.q3)) λy10=>(bE (aB (al I.q3) (al I.q3)&&ai) (aE y10)))) (be (Sx.op x.1) 7 (obind (rr06_gen_around ((dW I.p2,17,18,0),I.2.1,I.q3)) λy11=>(bE (aB (al I.q3) (al I.q3)&&ai) (aE y11))) (be (Sx.op x.1) 8 (obind (rr06_gen_around ((dW I.p2,19,20,0),I.2.1,I.q3)) λy12=>(bE (aB (al I.q3) (al I.q3)&&ai) (aE y12))) (be (Sx.op x.1) 9 (obind (jk ((Sx.name I.p2),I.2.1,I.q3)) λU=>(bE (aB (al I.q3) (al U.2.2)&&ai) (obind (cz ((21,U.1,0,0,0,0),U.2)) λy14=>(bE (aB (al U.2.2) (al U.2.2)&&ai) (aE y14))))) (be (Sx.op x.1) 10 (obind (jk ((Sx.name I.p2),I.2.1,I.q3)) λM=>(bE (aB (al I.q3) (al M.2.2)&&ai) (obind (cz ((22,M.1,0,0,0,0),M.2)) λy16=>(bE (aB (al M.2.2) (al M.2.2)&&ai) (aE y16))))) (be (Sx.op x.1) 11 (obind (jk ((Sx.name I.p2),I.2.1,I.q3)) λJ=>(bE (aB (al I.q3) (al J.2.2)&&ai) (obind (cz ((23,J.1,0,0,0,0),J.2)) λy18=>(bE (aB (al J.2.2) (al J.2.2)&&ai) (aE y18))))) (be (Sx.op x.1) 12 (obind (iS (I.2.1.p4,(Sx.name I.p2))) λy19=>(obind (cz ((24,y19,0,0,0,0),I.2.1,I.q3)) λy20=>(bE (aB (al I.q3) (al I.q3)&&ai) (aE y20)))) (be (Sx.op x.1) 13 (obind (iS (I.2.1.p4,(Sx.name I.p2))) λy21=>(obind (cz ((25,y21,0,0,0,0),I.2.1,I.q3)) λy22=>(bE (aB (al I.q3) (al I.q3)&&ai) (aE y22)))) (be (Sx.op x.1) 14 (obind (iB ((dT ((Xp.op (Sx.expr I.p2)),(Xp.n (Sx.expr I.p2)),(Xp.name (Sx.expr I.p2)),(Xp.l (Sx.expr I.p2))),(aX x.2.1.p6)),I.2.1,I.q3)) λY=>(bE (aB (al I.q3) (al I.q3)&&ai) (obind (iS (Y.1.p3,(Sx.name I.p2))) λy24=>(obind (cz ((26,y24,(aX x.2.1.p6),0,0,0),Y)) λy25=>(bE (aB (al Y.2) (al Y.2)&&ai) (aE y25)))))) (be (Sx.op x.1) 15 (obind (iS (I.2.1.p6,(Sx.name I.p2))) λy26=>(obind (iS (I.2.1.p3,(Sx.arg I.p2))) λy27=>(obind (cz ((27,y26,y27,0,0,0),I.2.1,I.q3)) λZ=>(bE (aB (al I.q3) (al I.q3)&&ai) (aE Z))))) (aE (I.2.1,I.q3))))))))))))))))) λx1=>(af x1))
def mj (rr06_gen_stmts:aa1->Option (rx×List jO)) (rr06_gen_stmt:Lu->Option (rx×List jO)) (rr06_gen_branches:Lu->Option (rx×List jO)) (rr06_gen_around:aa2->Option (rx×List jO)) (x:Sx×rx×List jO):Option (rx×List jO):=
 (obind (iB ((dT ((Xp.op (Sx.expr x.1)),(Xp.n (Sx.expr x.1)),(Xp.name (Sx.expr x.1)),(Xp.l (Sx.expr x.1))),(aX x.2.1.p6)),x.2)) λJ=>(bE (aB (al x.2.2) (al x.2.2)&&ai) (obind (cz ((10,(aX J.1.p6),0,0,0,0),J)) λZ=>(bE (aB (al J.2) (al J.2)&&ai) (obind (rr06_gen_stmts ((Sx.body x.1),Z)) λI=>(bE (aB (al Z.2) (al Z.2)&&ai) (be (Sx.op x.1) 3 (obind (cz ((5,(aX x.2.2),0,0,0,0),(I.1.1,I.1.2.1,I.1.p2,I.1.p3,I.1.p4,I.1.p5,I.1.p6,x.2.1.p7,I.1.q8),I.2)) λU=>(bE (aB (al I.2) (al I.2)&&ai) (ck (fe (aX J.2) (al U.2)) (af (U.1,(cq U.2 (aX J.2) ((aJ (T:=qD) U.2 (aX J.2)).1,((aJ (T:=qD) U.2 (aX J.2)).2).1,(aX U.2),(((aJ (T:=qD) U.2 (aX J.2)).2).2).2))))))) (be (aO (al (Sx.els x.1))) 0 (ck (fe (aX J.2) (al I.2)) (af ((I.1.1,I.1.2.1,I.1.p2,I.1.p3,I.1.p4,I.1.p5,I.1.p6,x.2.1.p7,I.1.q8),(cq I.2 (aX J.2) ((aJ (T:=qD) I.2 (aX J.2)).1,((aJ (T:=qD) I.2 (aX J.2)).2).1,(aX I.2),(((aJ (T:=qD) I.2 (aX J.2)).2).2).2))))) (obind (cz ((5,0,0,0,0,0),(I.1.1,I.1.2.1,I.1.p2,I.1.p3,I.1.p4,I.1.p5,I.1.p6,x.2.1.p7,I.1.q8),I.2)) λM=>(bE (aB (al I.2) (al I.2)&&ai) (ck (fe (aX J.2) (al M.2)) (obind (rr06_gen_stmts ((Sx.els x.1),M.1,(cq M.2 (aX J.2) ((aJ (T:=qD) M.2 (aX J.2)).1,((aJ (T:=qD) M.2 (aX J.2)).2).1,(aX M.2),(((aJ (T:=qD) M.2 (aX J.2)).2).2).2)))) λY=>(bE (aB (al (cq M.2 (aX J.2) ((aJ (T:=qD) M.2 (aX J.2)).1,((aJ (T:=qD) M.2 (aX J.2)).2).1,(aX M.2),(((aJ (T:=qD) M.2 (aX J.2)).2).2).2))) (al (cq M.2 (aX J.2) ((aJ (T:=qD) M.2 (aX J.2)).1,((aJ (T:=qD) M.2 (aX J.2)).2).1,(aX M.2),(((aJ (T:=qD) M.2 (aX J.2)).2).2).2)))&&ai) (ck (fe (aX I.2) (al Y.2)) (af (Y.1,(cq Y.2 (aX I.2) ((aJ (T:=qD) Y.2 (aX I.2)).1,(aX Y.2),((aJ (T:=qD) Y.2 (aX I.2)).2).2))))))))))))))))))
def oM (rr06_gen_stmts:aa1->Option (rx×List jO)) (rr06_gen_stmt:Lu->Option (rx×List jO)) (rr06_gen_branches:Lu->Option (rx×List jO)) (rr06_gen_around:aa2->Option (rx×List jO)) (x:(Sx×Int×Int×Int)×rx×List jO):Option (rx×List jO):=
 (obind (cz ((x.1.2.1,x.1.q3,0,0,0,0),x.2)) λJ=>(bE (aB (al x.2.2) (al x.2.2)&&ai) (obind (rr06_gen_stmts ((Sx.body x.1.1),J)) λI=>(bE (aB (al J.2) (al J.2)&&ai) (obind (cz ((x.1.p2,x.1.q3,0,0,0,0),(I.1.1,I.1.2.1,I.1.p2,I.1.p3,I.1.p4,I.1.p5,I.1.p6,x.2.1.p7,I.1.q8),I.2)) λM=>(bE (aB (al I.2) (al I.2)&&ai) (af M)))))))
mutual
def dF:Nat->aa1->Option (rx×List jO)
 |0,_=>ah
 |n+1,x=>qf (dF n) (eE n) (c4 n) (dA n) x
def eE:Nat->Lu->Option (rx×List jO)
 |0,_=>ah
 |n+1,x=>rH (dF n) (eE n) (c4 n) (dA n) x
def c4:Nat->Lu->Option (rx×List jO)
 |0,_=>ah
 |n+1,x=>mj (dF n) (eE n) (c4 n) (dA n) x
def dA:Nat->aa2->Option (rx×List jO)
 |0,_=>ah
 |n+1,x=>oM (dF n) (eE n) (c4 n) (dA n) x
end
def tN (x:(List Sx)×rx×List jO):Option (rx×List jO):=dF fuel x
def p_ (x:rO×List rN):Option (zm×Int×Int):=
 (obind (fd x) λy1=>(iI y1.1 0 (af (((([]:List RK),([]:List ((List UInt8)×Bool)),([]:List fg),([]:List (List UInt8)),([]:List (List UInt8)),([]:List (Int×Int×Int))),([]:List (Int×List jO))),y1)) (obind (tO x) λy2=>(iter (σ:=(Int×Int)×(rO×List rN)×dG×List (Int×List jO)) (λJ=>(bx J.1.2 (aX J.2.1.2) (bK sB J.2.1.2 J.1.2 λz4=>(bK sB J.2.1.2 J.1.2 λz5=>(obind (tN (z5.2.2.2,(J.p2.1,J.p2.2.1,J.p2.p2,J.p2.p3,J.p2.p4,J.p2.q5,z4.2.2.1,0,J.1.1),([]:List jO))) λU=>(bE (aB (al ([]:List jO)) (al ([]:List jO))&&ai) (obind (cz ((28,0,0,0,0,0),(U.1.1,U.1.2.1,U.1.p2,U.1.p3,U.1.p4,U.1.p5,U.1.p6,(-1),U.1.q8),U.2)) λy7=>(bE (aB (al U.2) (al U.2)&&ai) (iter (σ:=Int×(rO×List rN)×dG×rx×Int×(List (Int×List jO))×List jO) (λM=>(bx M.1 (aX M.q6) (kA qD M.q6 M.1 λz9=>(obind (jy z9) λY=>(iter (σ:=Int×(rO×List rN)×dG×rx×Int×(List (Int×List jO))×List jO) (λI=>(bx I.1 (aX Y) (bK aM Y I.1 λZ=>(cK ((cB I.1),I.2.1,I.p2,I.p3,(j9 I.p4 (cB Z)),I.q5))) (aE (oE ((cB M.1),I.2))))) (0,M.2)))) (obind (bE (bc (al M.p5+al ([(M.p4,M.q6)])) 32) (cK ((U.1.q8,(cB J.1.2)),M.2.1,M.p2,(M.p5++([(M.p4,M.q6)]))))) λr=>af (bU r)))) (0,J.2.1,J.p2,y7.1,(aX y7.1.p6),J.q3,y7.2)))))))) (aE (J.2.2,0,0)))) ((0,0),x,y2,([]:List (Int×List jO)))))))
def pZ (x:(List Int)×Int):Option (Bool):=
 (iter (σ:=Int) (λI=>(bx I (aX x.1) (bK aM x.1 I λJ=>(be J x.2 (aE ai) (cK (cB I)))) (aE aj))) 0)
def vP (x:(List Int)×Int):Option (List Int):=
 (iter (σ:=Int) (λI=>(jn (α:=Bool) (bx I (aX x.1) (bK aM x.1 I λM=>(aE (fP M x.2))) (aE aj)) λY=>(bcase Y (cK (cB I)) (obind (jn (α:=Bool) (bx I (aX x.1) (bK aM x.1 I λJ=>(aE (decide ((J:Int)=x.2)))) (aE aj)) λU=>(bcase U (af x.1) (bE (cV 0 I&&cV I (al x.1)) (bE (bc (al ([]:List Int)+al (du (aS I) x.1)) 8) (bE (bc (al (([]:List Int)++(du (aS I) x.1))+al ([x.2])) 8) (bE (cV 0 I&&cV I (al x.1)) (bE (bc (al ((([]:List Int)++(du (aS I) x.1))++([x.2]))+al (List.drop (aS I) x.1)) 8) (af (((([]:List Int)++(du (aS I) x.1))++([x.2]))++(List.drop (aS I) x.1)))))))))) λr=>af (bU r))))) 0)
def qU (x:(List Int)×List Int):Option (List Int):=
 (iter (σ:=(List Int)×Int) (λJ=>(bx J.2 (aX x.1) (bK aM x.1 J.2 λU=>(obind (vP (J.1,U)) λZ=>(cK (Z,(cB J.2))))) (obind (iter (σ:=(List Int)×Int) (λI=>(bx I.2 (aX x.2) (bK aM x.2 I.2 λM=>(obind (vP (I.1,M)) λY=>(cK (Y,(cB I.2))))) (aE I.1))) (J.1,0)) λr=>af (bU r)))) (([]:List Int),0))
def l8 (x:Int):Option (Int):=
 (jn (α:=Bool) (bx x 1 (aE ai) (aE (fP 100 x))) λI=>(bcase I (af 0) (af x)))
def cg (x:Int×(List Int)×(List (List Int))×Int):Option ((Int×Int)×(List Int)×List (List Int)):=
 (bE (bc (al ([]:List Int)+al x.2.1) 8) (iter (σ:=Int×tw×(Int×Int)×(Int×Int)×(List Int)×List (List Int)) (λI=>(bx I.1 (aX I.2.1.p2) (bK (.sl aM) I.2.1.p2 I.1 λJ=>(bE (bc (al ([]:List Int)+al J) 8) (bE (bc (al I.q5+al ([(([]:List Int)++J)])) 24) (cK ((cB I.1),I.2.1,I.p2,I.p3,I.p4,(I.q5++([(([]:List Int)++J)]))))))) (aE I.q3))) (0,x,(0,0),(x.1,x.q3),(([]:List Int)++x.2.1),([]:List (List Int)))))
def vO (x:(jO×Int×Int)×(List Int)×List (List Int)):Option (((Int×Int)×Bool)×(List Int)×List (List Int)):=
 (obind (jy x.1.1) λy1=>(iter (σ:=Int×(List Int)×(List (List Int))×jO×(Int×Int)×Int×Int) (λI=>(bx I.1 (aX y1) (jn (α:=Bool×(List Int)×(List (List Int))×jO×(Int×Int)×Int×Int) (bK aM y1 I.1 λz4=>(bx z4 0 (aE (ai,I.2)) (bK aM y1 I.1 λz5=>(aE ((cV (aX I.2.1) z5),I.2))))) λx3=>(bcase x3.1 ah (cK ((cB I.1),x3.2)))) (obind (jn (α:=(Int×Bool×List Int)×(List Int)×(List (List Int))×jO×(Int×Int)×Int×Int) (be I.p3.1 5 (cK (((I.p3.2.1,I.p4.2),ai),I.2.1,I.p2)) (be I.p3.1 1 (aE ((I.p3.p4,ai,([]:List Int)),I.2)) (be I.p3.1 2 (kA aM I.2.1 I.p3.p2 λz7=>(kA (.sl aM) I.p2 I.p3.p2 λz8=>(aE ((z7,ai,z8),I.2)))) (be I.p3.1 3 (obind (l8 I.p3.p4) λy9=>(kA aM I.2.1 I.p3.p2 λz10=>(obind (tP (y9,z10)) λU=>(kA (.sl aM) I.p2 I.p3.p2 λz12=>(aE ((U.1,U.2,z12),I.2)))))) (obind (l8 I.p3.p4) λy13=>(kA aM I.2.1 I.p3.p2 λz14=>(kA aM I.2.1 I.p3.p3 λz15=>(obind (rS (y13,z14,z15)) λM=>(kA (.sl aM) I.p2 I.p3.p2 λZ=>(kA (.sl aM) I.p2 I.p3.p3 λY=>(obind (qU (Z,Y)) λy19=>(aE ((M.1,M.2,y19),I.2))))))))))))) λJ=>(bE (bc (al ([]:List Int)+al J.1.2.2) 8) (ck (fe J.p3.2.1 (al J.2.1)) (ck (fe J.p3.2.1 (al J.p2)) (af ((((cB J.p4.1),J.p4.2),J.1.2.1),(cq J.2.1 J.p3.2.1 J.1.1),(cq J.p2 J.p3.2.1 (([]:List Int)++J.1.2.2)))))))) λr=>af (bU r)))) (0,x.2.1,x.2.2,x.1.1,x.1.2,0,0)))
def mP (x:(Int×List jO)×Int×(List Int)×(List (List Int))×Int):Option (tw×Bool):=
 (jn (α:=Bool×(Int×List jO)×tw×Int×Int) (iI (aX x.p2) x.1.1 (aE (ai,x.1,x.2,0,0)) (aE ((!decide (((aX x.p3):Int)=x.1.1)),x.1,x.2,0,0))) λU=>(bcase U.1 (af ((0,([]:List Int),([]:List (List Int)),0),aj)) (obind (cg U.p2) λZ=>(iter (σ:=Int×(Int×List jO)×(Int×Int)×(Int×Int)×(List Int)×List (List Int)) (λJ=>(jN J.1 (aX J.2.1.2) (jn (α:=Bool×(Int×List jO)×(Int×Int)×(Int×Int)×(List Int)×List (List Int)) (bx J.p2.1 0 (aE (ai,J.2)) (aE ((cV (aX J.2.1.2) J.p2.1),J.2))) λI=>(bcase I.1 (aE ((0,([]:List Int),([]:List (List Int)),0),aj)) (bK qD I.2.1.2 I.p2.1 λY=>(obind (pn Y.1) λy6=>(bcase (!y6) (aE ((I.p2.1,I.p4,I.q5,I.p2.2),ai)) (be J.1 (aX I.2.1.2) (aE ((0,([]:List Int),([]:List (List Int)),0),aj)) (obind (vO ((Y,I.p2),I.q4)) λM=>(bE (aB (al I.q5) (al M.2.2)&&(aB (al I.p4) (al M.2.1)&&ai)) (bcase (!M.1.2) (aE ((0,([]:List Int),([]:List (List Int)),0),aj)) (cK ((cB J.1),I.2.1,M.1.1,I.p3,M.2))))))))))) (aE ((0,([]:List Int),([]:List (List Int)),0),aj)))) (0,U.2.1,Z.1,U.q3,Z.2)))))
def qS (x:gO×gy×(List fg)×ca×ca×List (Int×Int×Int)):Option oR:=
 (iter (σ:=Int×dG×Int×Int×List (Int×List Int)) (λM=>(bx M.1 (aX M.2.1.2.1) (bE (bc (al M.q4+al ([((-1),([]:List Int))])) 32) (cK ((cB M.1),M.2.1,M.p2,M.p3,(M.q4++([((-1),([]:List Int))]))))) (obind (iter (σ:=Int×dG×Int×Int×gx×List Bool) (λJ=>(bx J.1 (aX J.2.1.p3) (bE (bc (al J.q5+al ([aj])) 1) (cK ((cB J.1),J.2.1,J.p2,J.p3,J.p4,(J.q5++([aj]))))) (obind (iter (σ:=Int×dG×Int×Int×gx×(List Bool)×List dj) (λI=>(bx I.1 (aX I.2.1.p4) (jn (α:=dG×Int×Int×dj×gx×(List Bool)×List dj) (be I.1 0 (aE (I.2.1,I.p2,I.p3,(1,0,aj),I.q4)) (aE (I.2.1,I.p2,I.p3,(0,0,aj),I.q4))) λU=>(bE (bc (al U.q6+al ([U.p3])) 24) (cK ((cB I.1),U.1,U.2.1,U.p2,U.p4,U.p5,(U.q6++([U.p3])))))) (aE (I.p4,I.p3,I.q5)))) (0,J.2.1,J.p2,J.p3,J.p4,J.q5,([]:List dj))) λr=>af (bU r)))) (0,M.2.1,M.p2,M.p3,M.q4,([]:List Bool))) λr=>af (bU r)))) (0,x,0,(-1),([]:List (Int×List Int))))
def qT (x:dG×gx×Int×(List Bool)×List dj):Option (Bool):=
 (iter (σ:=Int×dG×gx×Int×(List Bool)×List dj) (λI=>(bx I.1 (aX I.2.1.p2) (jn (α:=Bool×dG×gx×Int×(List Bool)×List dj) (bK lY I.2.1.p2 I.1 λU=>(bx U.2 0 (aE (ai,I.2)) (bK lY I.2.1.p2 I.1 λM=>(aE ((cV (aX I.2.1.2.1) M.2),I.2))))) λJ=>(bcase J.1 (aE aj) (cK ((cB I.1),J.2)))) (obind (jn (α:=Bool) (be (aX I.p2) (aX I.2.1.2.1) (be (aX I.p4) (aX I.2.1.p3) (aE (decide (((aX I.q5):Int)=(aX I.2.1.p4)))) (aE aj)) (aE aj)) λY=>(af Y)) λr=>af (bU r)))) (0,x))
def pY (x:Int×Int):Option (Bool):=
 (jn (α:=Bool) (jN 0 x.1 (aE (fP x.1 x.2)) (aE aj)) λI=>(af I))
def tM (x:dG×Int×Int):Option (Bool):=
 (jn (α:=Bool×gO×gy×(List fg)×ca×ca×List (Int×Int×Int)) (be x.2.1 1 (aE ((decide ((x.2.1:Int)=1)),x.1)) (be x.2.1 2 (aE ((decide ((x.2.1:Int)=2)),x.1)) (be x.2.1 5 (aE ((decide ((x.2.1:Int)=5)),x.1)) (be x.2.1 12 (aE ((decide ((x.2.1:Int)=12)),x.1)) (be x.2.1 13 (aE ((decide ((x.2.1:Int)=13)),x.1)) (be x.2.1 14 (aE ((decide ((x.2.1:Int)=14)),x.1)) (aE ((decide ((x.2.1:Int)=15)),x.1)))))))) λx1=>(bcase x1.1 (af (decide ((x.2.2:Int)=(-1)))) (jn (α:=Bool×gO×gy×(List fg)×ca×ca×List (Int×Int×Int)) (be x.2.1 3 (aE ((decide ((x.2.1:Int)=3)),x1.2)) (aE ((decide ((x.2.1:Int)=4)),x1.2))) λZ=>(bcase Z.1 (obind (pY (x.2.2,(aX Z.2.1))) λy3=>(af y3)) (jn (α:=Bool×gO×gy×(List fg)×ca×ca×List (Int×Int×Int)) (be x.2.1 6 (aE ((decide ((x.2.1:Int)=6)),Z.2)) (aE ((decide ((x.2.1:Int)=7)),Z.2))) λU=>(bcase U.1 (jn (α:=Bool) (obind (pY (x.2.2,(aX U.p2))) λy6=>(bcase y6 (bK ry U.p2 x.2.2 λz7=>(aE (!z7.2))) (aE aj))) λx5=>(af x5)) (jn (α:=Bool×gO×gy×(List fg)×ca×ca×List (Int×Int×Int)) (be x.2.1 8 (aE ((decide ((x.2.1:Int)=8)),U.2)) (be x.2.1 9 (aE ((decide ((x.2.1:Int)=9)),U.2)) (be x.2.1 10 (aE ((decide ((x.2.1:Int)=10)),U.2)) (aE ((decide ((x.2.1:Int)=11)),U.2))))) λM=>(bcase M.1 (jn (α:=Bool) (obind (pY (x.2.2,(aX M.p2))) λy10=>(bcase y10 (bK ry M.p2 x.2.2 λz11=>(aE z11.2)) (aE aj))) λx9=>(af x9)) (jn (α:=Bool×gO×gy×(List fg)×ca×ca×List (Int×Int×Int)) (be x.2.1 16 (aE ((decide ((x.2.1:Int)=16)),M.2)) (be x.2.1 17 (aE ((decide ((x.2.1:Int)=17)),M.2)) (be x.2.1 18 (aE ((decide ((x.2.1:Int)=18)),M.2)) (aE ((decide ((x.2.1:Int)=19)),M.2))))) λJ=>(bcase J.1 (obind (pY (x.2.2,(aX J.p3))) λy13=>(af y13)) (jn (α:=Bool×gO×gy×(List fg)×ca×ca×List (Int×Int×Int)) (be x.2.1 20 (aE ((decide ((x.2.1:Int)=20)),J.2)) (aE ((decide ((x.2.1:Int)=21)),J.2))) λI=>(bcase I.1 (obind (pY (x.2.2,(aX I.p5))) λy15=>(af y15)) (jn (α:=Bool×gO×gy×(List fg)×ca×ca×List (Int×Int×Int)) (be x.2.1 22 (aE ((decide ((x.2.1:Int)=22)),I.2)) (aE ((decide ((x.2.1:Int)=23)),I.2))) λY=>(bcase Y.1 (obind (pY (x.2.2,(aX Y.p4))) λy17=>(af y17)) (af aj)))))))))))))))
def j6 (x:dG×oR×Int×Int×Int):Option (Bool):=
 (jn (α:=Bool×dG×gx×Int×(List Bool)×List dj) (obind (qT (x.1,x.2.1)) λy2=>(bcase (!y2) (aE (ai,x.1,x.2.1)) (obind (pY (x.p2,(aX x.1.p4))) λy3=>(bcase (!y3) (aE (ai,x.1,x.2.1)) (obind (tM (x.1,x.q3)) λy4=>(aE ((!y4),x.1,x.2.1))))))) λM=>(bcase M.1 (af aj) (bK hX M.q5 x.p2 λU=>(be x.p3 1 (af (decide ((U.1:Int)=1))) (be x.p3 17 (jn (α:=Bool) (be U.1 4 (be U.2.1 x.q4 (bK lY M.2.1.p2 x.q4 λz7=>(bK dS M.p2 z7.2 λz8=>(aE (decide ((z8.1:Int)=(-1)))))) (aE aj)) (aE aj)) λx6=>(af x6)) (iI U.1 2 (af aj) (be x.p3 6 (bK dS M.p2 x.q4 λz9=>(af (decide ((z9.1:Int)=(-1))))) (be x.p3 10 (jn (α:=Bool) (bK dS M.p2 x.q4 λz11=>(be z11.1 (-1) (bK dS M.p2 x.q4 λz12=>(aE (decide (((aX z12.2):Int)=0)))) (aE aj))) λx10=>(af x10)) (be x.p3 8 (jn (α:=Bool) (bK dS M.p2 x.q4 λz14=>(be z14.1 (-1) (bK dS M.p2 x.q4 λz15=>(obind (pZ (z15.2,x.p2)) λy16=>(aE (!y16)))) (aE aj))) λx13=>(af x13)) (jn (α:=Bool×dG×oR×Int×Int×Bool) (be x.p3 7 (aE ((decide ((x.p3:Int)=7)),M.2.1,M.2.2,U)) (aE ((decide ((x.p3:Int)=11)),M.2.1,M.2.2,U))) λI=>(bcase I.1 (bK dS I.p2.1 x.q4 λz18=>(af (decide ((z18.1:Int)=x.p2)))) (be x.p3 9 (bK dS I.p2.1 x.q4 λz19=>(obind (pZ (z19.2,x.p2)) λy20=>(af y20))) (be x.p3 12 (af (decide ((I.p2.2.1:Int)=(-1)))) (be x.p3 13 (af (decide ((I.p2.2.1:Int)=x.p2))) (be x.p3 14 (af (!I.q5)) (be x.p3 15 (af I.q5) (jn (α:=Bool×dG×gx×Int×(List Bool)×List dj) (be x.p3 16 (aE ((decide ((x.p3:Int)=16)),I.2.1,I.p2)) (be x.p3 18 (aE ((decide ((x.p3:Int)=18)),I.2.1,I.p2)) (aE ((decide ((x.p3:Int)=19)),I.2.1,I.p2)))) λJ=>(bcase J.1 (bK lY J.2.1.p2 x.q4 λz22=>(bK dS J.p2 z22.2 λz23=>(af (decide ((z23.1:Int)=x.p2))))) (be x.p3 20 (jn (α:=Bool) (iI x.q4 x.p2 (bK hX J.q5 x.q4 λz25=>(aE (decide ((z25.1:Int)=0)))) (aE aj)) λx24=>(af x24)) (be x.p3 21 (jn (α:=Bool) (iI x.q4 x.p2 (bK hX J.q5 x.q4 λz27=>(aE (decide ((z27.1:Int)=5)))) (aE aj)) λx26=>(af x26)) (be x.p3 22 (bK (.bool) J.p4 x.q4 λZ=>(af (!Z))) (be x.p3 23 (bK (.bool) J.p4 x.q4 λY=>(af Y)) (af ai)))))))))))))))))))))))
def nA (x:oR×Int):Option (List Int):=
 (iter (σ:=Int×oR×List Int) (λI=>(bx I.1 (aX I.2.1.q3) (jn (α:=oR×List Int) (jn (α:=Bool×oR×List Int) (bK hX I.2.1.q3 I.1 λU=>(be U.1 3 (bK hX I.2.1.q3 I.1 λM=>(aE ((decide ((M.2.1:Int)=x.2)),I.2))) (aE (aj,I.2)))) λJ=>(bcase J.1 (bE (bc (al J.2.2+al ([I.1])) 8) (aE (J.2.1,(J.2.2++([I.1]))))) (aE J.2))) λY=>(cK ((cB I.1),Y))) (aE I.2.2))) (0,x.1,([]:List Int)))
def pW (x:(List Int)×Int):Option (List Int):=
 (iter (σ:=Int×List Int) (λI=>(bx I.1 (aX x.1) (jn (α:=List Int) (bK aM x.1 I.1 λM=>(iI M x.2 (bK aM x.1 I.1 λJ=>(bE (bc (al I.2+al ([J])) 8) (aE (I.2++([J]))))) (aE I.2))) λU=>(cK ((cB I.1),U))) (aE I.2))) (0,([]:List Int)))
def ig (x:gx×Int×(List Bool)×List dj):Option (Int×gx×(List Bool)×List dj):=
 (bE (bc (al ([]:List Bool)+al x.p2) 1) (bE (bc (al ([]:List dj)+al x.q3) 24) (iter (σ:=Int×oR×Int×Int×gx×(List Bool)×List dj) (λI=>(bx I.1 (aX I.2.1.1) (bK dS I.2.1.1 I.1 λM=>(bK dS I.2.1.1 I.1 λJ=>(bE (bc (al ([]:List Int)+al J.2) 8) (bE (bc (al I.p4+al ([(M.1,(([]:List Int)++J.2))])) 32) (cK ((cB I.1),I.2.1,I.p2,I.p3,(I.p4++([(M.1,(([]:List Int)++J.2))])),I.q5)))))) (aE I.q3))) (0,x,0,x.2.1,([]:List (Int×List Int)),(([]:List Bool)++x.p2),(([]:List dj)++x.q3)))))
def l7 (x:(Int×Int)×gx×(List Bool)×List dj):Option ((List Int)×gx×(List Bool)×List dj):=
 (iter (σ:=Int×gx×(List Bool)×(List dj)×Int×List Int) (λI=>(bx I.1 (aX I.p3) (jn (α:=gx×(List Bool)×(List dj)×Int×List Int) (jn (α:=Bool×gx×(List Bool)×(List dj)×Int×List Int) (kA hX I.p3 I.1 λU=>(be U.1 3 (kA hX I.p3 I.1 λM=>(aE ((decide ((M.2.1:Int)=x.1.2)),I.2))) (aE (aj,I.2)))) λJ=>(bcase J.1 (bE (bc (al J.q5+al ([I.1])) 8) (aE (J.2.1,J.p2,J.p3,J.p4,(J.q5++([I.1]))))) (aE J.2))) λY=>(cK ((cB I.1),Y))) (aE (I.q5,I.2.1,I.p2,I.p3)))) (0,x.2.1,x.p2,x.q3,x.1.1,([]:List Int)))
def jw (x:(Int×Int)×gx×(List Bool)×List dj):Option (List Int):=obind (l7 x) λy=>same y.2 x.2 (af y.1)
def o6 (x:dG×oR×Int×Int×Int×Int):Option (oR×Int×Bool):=
 (obind (j6 (x.1,x.2.1,x.p2,x.p3,x.p4)) λy1=>(bcase (!y1) (af ((([]:List (Int×List Int)),0,([]:List Bool),([]:List dj)),0,aj)) (obind (ig x.2.1) λU=>(jn (α:=Int×Int×Int×gx×(List Bool)×List dj) (be x.p3 1 (ck (fe x.p2 (al U.q3)) (aE (0,U.1,0,U.2.1,U.p2,(cq U.q3 x.p2 (2,(aJ (T:=hX) U.q3 x.p2).2))))) (be x.p3 2 (ck (fe x.p2 (al U.q3)) (aE (0,U.1,0,U.2.1,U.p2,(cq U.q3 x.p2 (5,(aJ (T:=hX) U.q3 x.p2).2))))) (jn (α:=Bool×dG×Int×Int×gx×(List Bool)×List dj) (be x.p3 6 (aE ((decide ((x.p3:Int)=6)),x.1,U.1,0,U.2)) (aE ((decide ((x.p3:Int)=10)),x.1,U.1,0,U.2))) λY=>(bcase Y.1 (ck (fe x.p4 (al Y.p4)) (aE (0,Y.p2,Y.p3,(cq Y.p4 x.p4 (x.p2,(aJ (T:=dS) Y.p4 x.p4).2)),Y.q5))) (jn (α:=Bool×dG×Int×Int×gx×(List Bool)×List dj) (be x.p3 7 (aE ((decide ((x.p3:Int)=7)),Y.2)) (aE ((decide ((x.p3:Int)=11)),Y.2))) λI=>(bcase I.1 (ck (fe x.p4 (al I.p4)) (aE (0,I.p2,I.p3,(cq I.p4 x.p4 ((-1),(aJ (T:=dS) I.p4 x.p4).2)),I.q5))) (be x.p3 8 (kA dS I.p4 x.p4 λz6=>(obind (qU (z6.2,[x.p2])) λy7=>(ck (fe x.p4 (al I.p4)) (aE (0,I.p2,I.p3,(cq I.p4 x.p4 ((aJ (T:=dS) I.p4 x.p4).1,y7)),I.q5))))) (be x.p3 9 (kA dS I.p4 x.p4 λz8=>(obind (pW (z8.2,x.p2)) λy9=>(ck (fe x.p4 (al I.p4)) (aE (0,I.p2,I.p3,(cq I.p4 x.p4 ((aJ (T:=dS) I.p4 x.p4).1,y9)),I.q5))))) (be x.p3 12 (aE (0,x.p2,I.q3)) (be x.p3 13 (aE (0,(-1),I.q3)) (be x.p3 14 (ck (fe x.p2 (al I.q6)) (aE (0,I.p2,I.p3,I.p4,I.p5,(cq I.q6 x.p2 ((aJ (T:=hX) I.q6 x.p2).1,((aJ (T:=hX) I.q6 x.p2).2).1,ai))))) (be x.p3 15 (ck (fe x.p2 (al I.q6)) (aE (0,I.p2,I.p3,I.p4,I.p5,(cq I.q6 x.p2 ((aJ (T:=hX) I.q6 x.p2).1,((aJ (T:=hX) I.q6 x.p2).2).1,aj))))) (be x.p3 16 (bK lY I.2.1.p2 x.p4 λz10=>(ck (fe z10.2 (al I.p4)) (ck (fe x.p2 (al I.q6)) (ck (fe x.p2 (al (cq I.q6 x.p2 (3,(aJ (T:=hX) I.q6 x.p2).2)))) (aE (0,I.p2,I.p3,(cq I.p4 z10.2 ((-1),(aJ (T:=dS) I.p4 z10.2).2)),I.p5,(cq (cq I.q6 x.p2 (3,(aJ (T:=hX) I.q6 x.p2).2)) x.p2 ((aJ (T:=hX) (cq I.q6 x.p2 (3,(aJ (T:=hX) I.q6 x.p2).2)) x.p2).1,x.p4,((aJ (T:=hX) (cq I.q6 x.p2 (3,(aJ (T:=hX) I.q6 x.p2).2)) x.p2).2).2)))))))) (be x.p3 17 (bK lY I.2.1.p2 x.p4 λz11=>(ck (fe z11.2 (al I.p4)) (ck (fe x.p2 (al I.q6)) (ck (fe x.p2 (al (cq I.q6 x.p2 (2,(aJ (T:=hX) I.q6 x.p2).2)))) (aE (0,I.p2,I.p3,(cq I.p4 z11.2 (x.p2,(aJ (T:=dS) I.p4 z11.2).2)),I.p5,(cq (cq I.q6 x.p2 (2,(aJ (T:=hX) I.q6 x.p2).2)) x.p2 ((aJ (T:=hX) (cq I.q6 x.p2 (2,(aJ (T:=hX) I.q6 x.p2).2)) x.p2).1,0,((aJ (T:=hX) (cq I.q6 x.p2 (2,(aJ (T:=hX) I.q6 x.p2).2)) x.p2).2).2)))))))) (be x.p3 18 (obind (jw ((I.p2,x.p4),I.q4)) λy12=>(bx 0 (aX y12) (bK aM y12 0 λz13=>(jn (α:=Int×Int×Int×gx×(List Bool)×List dj) (obind (pZ (y12,x.q5)) λy15=>(bcase y15 (aE (x.q5,I.2.2)) (aE (z13,I.2.2)))) λM=>(ck (fe M.1 (al M.q5)) (aE (M.1,M.2.1,M.p2,M.p3,M.p4,(cq M.q5 M.1 (4,(aJ (T:=hX) M.q5 M.1).2))))))) (aE ((-1),I.2.2)))) (be x.p3 19 (obind (jw ((I.p2,x.p4),I.q4)) λy16=>(iter (σ:=Int×Int×Int×gx×(List Bool)×List dj) (λJ=>(bx J.1 (aX y16) (bK aM y16 J.1 λZ=>(ck (fe Z (al J.q5)) (cK ((cB J.1),J.2.1,J.p2,J.p3,J.p4,(cq J.q5 Z (4,(aJ (T:=hX) J.q5 Z).2)))))) (aE (bU ((aX y16),J.2))))) (0,I.2.2))) (be x.p3 20 (ck (fe x.p4 (al I.q6)) (aE (0,I.p2,I.p3,I.p4,I.p5,(cq I.q6 x.p4 (1,(aJ (T:=hX) I.q6 x.p4).2))))) (be x.p3 22 (ck (fe x.p4 (al I.p5)) (aE (0,I.p2,I.p3,I.p4,(cq I.p5 x.p4 ai),I.q6))) (aE (0,I.2.2)))))))))))))))))))) λx3=>(af ((x3.p3,x3.2.1,x3.q4),x3.1,ai))))))
def tL (x:dG×List (Int×List jO)):Option wC:=
 (obind (jx x) λy1=>(bcase (!y1) (af ((([]:List (Int×List Int)),0,([]:List Bool),([]:List dj)),([]:List Int),([]:List Int),([]:List tw))) (obind (qS x.1) λy2=>(iter (σ:=Int×zm×Int×oR×List Int) (λM=>(bx M.1 (aX M.2.1.1.1) (bK kw M.2.1.1.1 M.1 λZ=>(bE (bc (al M.q4+al ([Z.2.2.2.2])) 8) (cK ((cB M.1),M.2.1,M.p2,M.p3,(M.q4++([Z.2.2.2.2])))))) (obind (iter (σ:=Int×zm×Int×oR×(List Int)×List Int) (λJ=>(bx J.1 (aX J.2.1.1.p3) (bE (bc (al J.q5+al ([0])) 8) (cK ((cB J.1),J.2.1,J.p2,J.p3,J.p4,(J.q5++([0]))))) (obind (iter (σ:=Int×zm×Int×oR×(List Int)×(List Int)×List tw) (λI=>(bx I.1 (aX I.2.1.2) (ve I.1 I.2.1.2 (lt ((aJ (T:=wD) I.2.1.2 I.1).1) λY=>(bE (cV 0 Y&&cV Y Y&&bc (aS Y) 8) (ve I.1 I.2.1.2 (lt ((aJ (T:=wD) I.2.1.2 I.1).1) λU=>(bE (cV 0 U&&cV U U&&bc (aS U) 24) (bE (bc (al I.q6+al ([(0,(aG (aS Y) (0:Int)),(aG (aS U) ([]:List Int)),0)])) 64) (cK ((cB I.1),I.2.1,I.p2,I.p3,I.p4,I.p5,(I.q6++([(0,(aG (aS Y) (0:Int)),(aG (aS U) ([]:List Int)),0)]))))))))))) (aE I.q3))) (0,J.2.1,J.p2,J.p3,J.p4,J.q5,([]:List tw))) λr=>af (bU r)))) (0,M.2.1,M.p2,M.p3,M.q4,([]:List Int))) λr=>af (bU r)))) (0,x,0,y2,([]:List Int))))))
def vN (x:zm×oR×(List Int)×(List Int)×List tw):Option (Bool):=
 (jn (α:=Bool×zm×oR×(List Int)×(List Int)×List tw) (obind (jx x.1) λy2=>(bcase (!y2) (aE (ai,x)) (obind (qT (x.1.1,x.2.1)) λy3=>(bcase (!y3) (aE (ai,x)) (iI (aX x.p2) (aX x.1.1.1) (aE (ai,x)) (iI (aX x.p3) (aX x.1.1.p3) (aE (ai,x)) (aE ((!decide (((aX x.q4):Int)=(aX x.1.2))),x)))))))) λU=>(bcase U.1 (af aj) (iter (σ:=Int×zm×oR×(List Int)×(List Int)×List tw) (λI=>(bx I.1 (aX I.2.1.2) (bK eO I.q5 I.1 λJ=>(jn (α:=Bool×zm×oR×(List Int)×(List Int)×List tw) (bx J.1 0 (aE (ai,I.2)) (bK wD I.2.1.2 I.1 λz7=>(jN (aX z7.2) J.1 (aE (ai,I.2)) (bK wD I.2.1.2 I.1 λZ=>(iI (aX J.2.1) Z.1 (aE (ai,I.2)) (bK wD I.2.1.2 I.1 λY=>(aE ((!decide (((aX J.p2):Int)=Y.1)),I.2)))))))) λM=>(bcase M.1 (aE aj) (cK ((cB I.1),M.2))))) (aE ai))) (0,U.2))))
def vL (x:Int):Option (Int):=
 (jn (α:=Bool×List Int) (bx x 6 (aE (ai,[3,3,4,4,5,6,7,8,9,10,11,12,13,14,15,16,18,19,20,21,22,23,2])) (aE ((fP 28 x),[3,3,4,4,5,6,7,8,9,10,11,12,13,14,15,16,18,19,20,21,22,23,2]))) λI=>(bcase I.1 (af 0) (kA aM I.2 (bl .i64 (x-6)) λJ=>(af J))))
def rR (x:jO×Int×(List Int)×(List (List Int))×Int):Option (Int):=
 (jn (α:=Bool×jO×Int×(List Int)×(List (List Int))×Int) (be x.1.1 6 (aE ((decide ((x.1.1:Int)=6)),x)) (aE ((decide ((x.1.1:Int)=27)),x))) λI=>(bcase I.1 (af I.2.1.p2) (be x.1.1 7 (bK aM I.p3 I.2.1.p3 λU=>(obind (qV (U,I.2.1.p4)) λZ=>(af (bl .i64 (I.2.1.p2+Z))))) (be x.1.1 9 (bK aM I.p3 I.2.1.p3 λM=>(obind (qV (M,I.2.1.p4)) λY=>(af (bl .i64 (I.2.1.2.1+Y))))) (jn (α:=Bool×Int×Int×Int×Int×Int×Int) (be x.1.1 10 (aE ((decide ((x.1.1:Int)=10)),I.2.1)) (be x.1.1 17 (aE ((decide ((x.1.1:Int)=17)),I.2.1)) (be x.1.1 18 (aE ((decide ((x.1.1:Int)=18)),I.2.1)) (be x.1.1 19 (aE ((decide ((x.1.1:Int)=19)),I.2.1)) (be x.1.1 20 (aE ((decide ((x.1.1:Int)=20)),I.2.1)) (aE ((decide ((x.1.1:Int)=28)),I.2.1))))))) λJ=>(bcase J.1 (af (-1)) (af J.p2)))))))
def nz (x:zm×wC×Int):Option (gF×Bool):=
 (jn (α:=Bool×zm×wC×Int×Int×Int×Int×Int) (obind (vN (x.1,x.2.1)) λy2=>(bcase (!y2) (aE (ai,x.1,x.2.1,0,0,0,0,0)) (bx x.2.2 0 (aE (ai,x.1,x.2.1,0,0,0,0,0)) (aE ((cV (aX x.1.2) x.2.2),x.1,x.2.1,0,0,0,0,0))))) λZ=>(bcase Z.1 (af ((0,0,0,0,0,([]:List Int),([]:List Int)),aj)) (bK eO Z.p2.q3 x.2.2 λz3=>(bK wD Z.2.1.2 x.2.2 λz4=>(bK qD z4.2 z3.1 λM=>(bK hX Z.p2.1.q3 x.2.2 λz6=>(be z6.1 1 (af ((x.2.2,1,(-1),0,(-1),([]:List Int),([]:List Int)),ai)) (be z6.1 4 (bK hX Z.p2.1.q3 x.2.2 λz7=>(af ((x.2.2,17,z7.2.1,0,M.q5,([]:List Int),([]:List Int)),ai))) (be z6.1 2 (obind (vL M.1) λy8=>(obind (rR (M,z3)) λy9=>(be y8 0 (af ((0,0,0,0,0,([]:List Int),([]:List Int)),aj)) (jn (α:=vu×tw×jO×vu×List Int) (be M.1 10 (bK (.sl aM) z3.p2 M.2.1 λz11=>(bE (bc (al (z11:List Int)) 8) (aE (Z.q3,z3,M,(x.2.2,y8,y9,0,M.q5),z11)))) (jn (α:=Bool×vu×tw×jO×Int×Int×Int×Int×Int) (be M.1 7 (aE ((decide ((M.1:Int)=7)),Z.q3,z3,M,x.2.2,y8,y9,0,M.q5)) (aE ((decide ((M.1:Int)=9)),Z.q3,z3,M,x.2.2,y8,y9,0,M.q5))) λI=>(bcase I.1 (bK (.sl aM) I.p2.p2 I.p3.p3 λz13=>(bE (bc (al (z13:List Int)) 8) (aE (I.2.1,I.p2,I.p3,I.q4,z13)))) (aE (I.2.1,I.p2,I.p3,I.q4,([]:List Int)))))) λY=>(jn (α:=vu×vu×(List Int)×List Int) (jn (α:=Bool×vu×tw×jO×vu×List Int) (be Y.p2.1 8 (aE (ai,Y)) (be Y.p2.1 9 (aE (ai,Y)) (aE ((decide ((Y.p2.1:Int)=26)),Y)))) λJ=>(bcase J.1 (bK (.sl aM) J.p2.p2 J.p3.p2 λz16=>(bE (bc (al (z16:List Int)) 8) (aE (J.2.1,J.p4,J.q5,z16)))) (aE (J.2.1,J.p4,J.q5,([]:List Int))))) λU=>(af ((U.2.1.1,U.2.1.2.1,U.2.1.p2,U.2.1.p3,U.2.1.q4,U.2.2),ai))))))) (af ((0,0,0,0,0,([]:List Int),([]:List Int)),aj)))))))))))
def mC (x:gO×gy×(List fg)×ca×ca×List (Int×Int×Int)):Option ey:=
 (obind (qS x) λM=>(bE (cV 0 (aX x.p3)&&cV (aX x.p3) (aX x.p3)&&bc (aS (aX x.p3)) 8) (bE (cV 0 (aX x.p4)&&cV (aX x.p4) (aX x.p4)&&bc (aS (aX x.p4)) 8) (iter (σ:=Int×dG×Int×oR×(List Int)×(List Int)×List Int) (λI=>(bx I.1 (aX I.2.1.1) (bK kw I.2.1.1 I.1 λJ=>(bE (bc (al I.p4+al ([J.2.2.2.2])) 8) (cK ((cB I.1),I.2.1,I.p2,I.p3,(I.p4++([J.2.2.2.2])),I.q5)))) (aE I.q3))) (0,x,0,M,([]:List Int),(aG (aS (aX x.p3)) (0:Int)),(aG (aS (aX x.p4)) (0:Int)))))))
def vK (x:dG×oR×(List Int)×(List Int)×List Int):Option (Bool):=
 (jn (α:=Bool) (obind (qT (x.1,x.2.1)) λI=>(bcase I (be (aX x.p2) (aX x.1.1) (be (aX x.p3) (aX x.1.p3) (aE (decide (((aX x.q4):Int)=(aX x.1.p4)))) (aE aj)) (aE aj)) (aE aj))) λJ=>(af J))
def Cb (x:Int×Int):Option (Bool):=
 (jn (α:=Bool) (jN 0 x.1 (aE (fP x.1 x.2)) (aE aj)) λI=>(af I))
def ny (x:(List Int)×Int):Option (Bool):=
 (iter (σ:=Int) (λI=>(bx I (aX x.1) (jn (α:=Bool) (bK aM x.1 I λY=>(bx Y 1 (aE ai) (bK aM x.1 I λU=>(jN x.2 U (aE ai) (bx 0 I (bK aM x.1 I λM=>(bK aM x.1 (bl .i64 (I-1)) λJ=>(aE (cV M J)))) (aE aj)))))) λZ=>(bcase Z (aE aj) (cK (cB I)))) (aE ai))) 0)
def tJ (x:ey×Int×Int×Int×Int×Int×(List Int)×List Int):Option (Bool):=
 (be x.p2 3 (bK aM x.1.2.1 x.p3 λU=>(af (decide ((x.p4:Int)=U)))) (be x.p2 23 (bK aM x.1.p2 x.p3 λM=>(af (decide ((x.p4:Int)=M)))) (be x.p2 5 (jn (α:=Bool) (be x.p4 0 (aE ai) (aE (decide ((x.p4:Int)=1)))) λx3=>(af x3)) (jn (α:=Bool×ey×Int×Int×Int×Int×Int×(List Int)×List Int) (be x.p2 4 (aE ((decide ((x.p2:Int)=4)),x)) (aE ((decide ((x.p2:Int)=22)),x))) λI=>(bcase I.1 (af ai) (be x.p2 18 (obind (nA (I.2.1.1,I.p4)) λJ=>(be (aX J) 0 (af (decide ((I.p5:Int)=(-1)))) (jn (α:=Bool) (jN 0 I.p5 (bx I.p5 (aX I.2.1.1.q3) (obind (pZ (J,I.p5)) λZ=>(aE Z)) (aE aj)) (aE aj)) λx6=>(af x6)))) (be x.p2 19 (obind (nA (I.2.1.1,I.p4)) λY=>(af (decide ((I.p5:Int)=(aX Y))))) (af (decide ((I.p5:Int)=0))))))))))
def qR (x:dG×ey×Int×Int×Int×Int×Int×(List Int)×List Int):Option (ey×Bool):=
 (jn (α:=Bool×dG×ey×gF×Int) (obind (vK (x.1,x.2.1)) λy2=>(bcase (!y2) (aE (ai,x.1,x.2.1,x.2.2,0)) (obind (Cb (x.p2,(aX x.1.p4))) λy3=>(bcase (!y3) (aE (ai,x.1,x.2.1,x.2.2,0)) (bx x.p3 1 (aE (ai,x.1,x.2.1,x.2.2,0)) (bx 23 x.p3 (aE (ai,x.1,x.2.1,x.2.2,0)) (obind (j6 (x.1,x.2.1.1,x.p2,x.p3,x.p4)) λy4=>(aE ((!y4),x.1,x.2.1,x.2.2,0))))))))) λx1=>(bcase x1.1 (af (((([]:List (Int×List Int)),0,([]:List Bool),([]:List dj)),([]:List Int),([]:List Int),([]:List Int)),aj)) (jn (α:=dG×ey×gF×Int) (jn (α:=Bool×dG×ey×gF×Int) (be x1.p3.2.1 1 (aE (ai,x1.2)) (aE ((decide ((x1.p3.2.1:Int)=2)),x1.2))) λx6=>(bcase x6.1 (iI x6.p3.p4 (-1) (cK (((([]:List (Int×List Int)),0,([]:List Bool),([]:List dj)),([]:List Int),([]:List Int),([]:List Int)),aj)) (aE x6.2)) (jn (α:=Bool×dG×ey×gF×Int) (obind (Cb (x6.p3.p4,(aX x6.2.1.q5))) λy8=>(bcase (!y8) (aE (ai,x6.2)) (bK oD x6.2.1.q5 x6.p3.p4 λz9=>(aE ((!decide ((z9.1:Int)=x6.p3.1)),x6.2))))) λx7=>(bcase x7.1 (cK (((([]:List (Int×List Int)),0,([]:List Bool),([]:List dj)),([]:List Int),([]:List Int),([]:List Int)),aj)) (aE x7.2))))) λx5=>(jn (α:=Bool×dG×ey×gF×Int) (be x5.p2.2.1 3 (aE (ai,x5)) (aE ((decide ((x5.p2.2.1:Int)=4)),x5))) λZ=>(jn (α:=Bool×dG×ey×gF×Int) (bx 0 (aX Z.p3.p5) (iI Z.p3.2.1 5 (bcase Z.1 (bK kw Z.2.1.1 Z.p3.p2 λz12=>(aE ((!(!decide ((z12.2.2.1:Int)=0))),Z.2))) (aE (ai,Z.2))) (aE (aj,Z.2))) (aE (aj,Z.2))) λx11=>(bcase x11.1 (af (((([]:List (Int×List Int)),0,([]:List Bool),([]:List dj)),([]:List Int),([]:List Int),([]:List Int)),aj)) (jn (α:=Bool×dG×ey×gF×Int) (bx 0 (aX x11.p3.q6) (iI x11.p3.2.1 4 (aE ((!decide ((x11.p3.2.1:Int)=22)),x11.2)) (aE (aj,x11.2))) (aE (aj,x11.2))) λU=>(bcase U.1 (af (((([]:List (Int×List Int)),0,([]:List Bool),([]:List dj)),([]:List Int),([]:List Int),([]:List Int)),aj)) (jn (α:=Bool×dG×ey×gF×Int) (bK aM U.p2.q3 U.p3.1 λz15=>(obind (ny (U.p3.p5,z15)) λy16=>(bcase (!y16) (aE (ai,U.2)) (bK aM U.p2.q3 U.p3.1 λz17=>(obind (ny (U.p3.q6,z17)) λy18=>(bcase (!y18) (aE (ai,U.2)) (obind (tJ (U.p2,U.p3)) λy19=>(aE ((!y19),U.2))))))))) λI=>(bcase I.1 (af (((([]:List (Int×List Int)),0,([]:List Bool),([]:List dj)),([]:List Int),([]:List Int),([]:List Int)),aj)) (bE (bc (al ([]:List Int)+al I.p2.2.1) 8) (bE (bc (al ([]:List Int)+al I.p2.p2) 8) (bE (bc (al ([]:List Int)+al I.p2.q3) 8) (jn (α:=Int×dG×ey×gF×Int×Int×(List Int)×(List Int)×List Int) (be I.p3.2.1 18 (aE (I.p3.p3,I.2.1,I.p2,I.p3,I.q4,0,(([]:List Int)++I.p2.2.1),(([]:List Int)++I.p2.p2),(([]:List Int)++I.p2.q3))) (aE ((-1),I.2.1,I.p2,I.p3,I.q4,0,(([]:List Int)++I.p2.2.1),(([]:List Int)++I.p2.p2),(([]:List Int)++I.p2.q3)))) λJ=>(obind (o6 (J.2.1,J.p2.1,J.p3.1,J.p3.2.1,J.p3.p2,J.1)) λy21=>(jn (α:=gF×Int×oR×(List Int)×(List Int)×List Int) (be J.p3.2.1 4 (ck (fe J.p3.p2 (al J.p6)) (aE (J.p3,J.p4,y21.1,(cq J.p6 J.p3.p2 J.p3.p3),J.q7))) (aE (J.p3,J.p4,y21.1,J.q6))) λM=>(jn (α:=gF×Int×oR×(List Int)×(List Int)×List Int) (be M.1.2.1 22 (ck (fe M.1.p2 (al M.p4)) (aE (M.1,M.2.1,M.p2,M.p3,(cq M.p4 M.1.p2 M.1.p3),M.q5))) (aE M)) λY=>(kA aM Y.q5 Y.1.1 λz24=>(ck (fe Y.1.1 (al Y.q5)) (af ((Y.p2,Y.p3,Y.p4,(cq Y.q5 Y.1.1 (cB z24))),ai)))))))))))))))))))))
def qQ (x:(List gF)×Int×Int×List Int):Option (Bool):=
 (iter (σ:=Int) (λJ=>(bx J (aX x.q3) (iter (σ:=Int×Bool×Int) (λI=>(bx I.2.2 x.2.1 (jn (α:=Int×Bool) (bK jM x.1 I.2.2 λz4=>(iI z4.1 x.p2 (aE (I.1,I.2.1)) (jn (α:=Bool) (bcase I.2.1 (aE ai) (bK aM x.q3 J λZ=>(be I.1 Z (bK jM x.1 I.2.2 λY=>(be Y.2.1 3 (aE ai) (bK jM x.1 I.2.2 λU=>(aE (decide ((U.2.1:Int)=23)))))) (aE aj)))) λx5=>(aE ((cB I.1),x5))))) λM=>(cK (M.1,M.2,(cB I.2.2)))) (obind (bcase (!I.2.1) (aE aj) (cK (cB J))) λr=>af (bU r)))) (0,aj,0)) (aE ai))) 0)
def tK (x:dG×List gF):Option (Int×Int):=
 (bx 400 (aX x.2) (af (0,2)) (obind (gY x.1) λy1=>(bcase (!y1) (af (0,1)) (obind (mC x.1) λy2=>(iter (σ:=Int×(dG×List gF)×oR×(List Int)×(List Int)×List Int) (λI=>(bx I.1 (aX I.2.1.2) (bK jM I.2.1.2 I.1 λJ=>(obind (qR (I.2.1.1,I.2.2,J)) λM=>(jn (α:=Bool×(dG×List gF)×ey×oR×(List Int)×(List Int)×List Int) (bcase (!M.2) (aE (ai,I.2.1,I.2.2,M.1)) (obind (qQ (I.2.1.2,I.1,J.1,J.p5)) λZ=>(bcase (!Z) (aE (ai,I.2.1,I.2.2,M.1)) (obind (qQ (I.2.1.2,I.1,J.1,J.q6)) λY=>(aE ((!Y),I.2.1,I.2.2,M.1)))))) λU=>(bcase U.1 (aE (I.1,12)) (cK ((cB I.1),U.2.1,U.q3)))))) (aE (0,0)))) (0,x,y2))))))
def KG {Z W V:Type} (i:Int) (t1:Z->(List Int)->(List (List Int))->W) (t2:W->V) (t3:V->tw->List tw) (x6:Int) (I:zm×oR×(Int×Int)×Int×vu×gF×(Int×Int)×(List Int)×(List Int)×Z×(List Int)×List (List Int)):Option Dl:=
 (jn (α:=oR×(Int×Int)×Int×vu×gF×tw×(List Int)×(List Int)×V) (jn (α:=Bool×zm×oR×(Int×Int)×Int×vu×gF×tw×(List Int)×(List Int)×W) (iI I.p5.2.1 16 (aE ((!decide ((I.p5.2.1:Int)=2)),I.1,I.2.1,I.p2,I.p3,I.p4,I.p5,(x6,I.p10,I.q11,(cB I.p6.2)),I.p7,I.p8,(t1 I.p9 I.p10 I.q11))) (aE (aj,I.1,I.2.1,I.p2,I.p3,I.p4,I.p5,(x6,I.p10,I.q11,(cB I.p6.2)),I.p7,I.p8,(t1 I.p9 I.p10 I.q11)))) λJ=>(bcase J.1 (bK wD J.2.1.2 J.p3.1 λU=>(obind (mP (U,J.p7)) λY=>(aE (J.p2,J.p3,J.p4,J.p5,J.p6,Y.1,J.p8,J.p9,(t2 J.q10))))) (aE (J.p2,J.p3,J.p4,J.p5,J.p6,J.p7,J.p8,J.p9,(t2 J.q10))))) λM=>(be M.2.1.1 i (af ((M.1,M.p6,M.p7,(t3 M.q8 M.p5)),M.p4,ai)) ah))
def SG {Z:Type} (i:Int) (cp:(oR×(List Int)×(List Int)×List tw)->Option (Int×gx×(List Bool)×(List dj)×(List Int)×(List Int)×Z×(List Int)×List (List Int))) (Y ev:Z->Int) (k:Int->(zm×oR×(Int×Int)×Int×vu×gF×(Int×Int)×(List Int)×(List Int)×Z×(List Int)×List (List Int))->Option Dl) (x:zm×wC×Int×Int):Option Dl:=
 (obind (nz (x.1,x.2.1,x.p2)) λM=>(bcase (!M.2) (af (((([]:List (Int×List Int)),0,([]:List Bool),([]:List dj)),([]:List Int),([]:List Int),([]:List tw)),(0,0,0,0,0,([]:List Int),([]:List Int)),aj)) (obind (o6 (x.1.1,x.2.1.1,x.p2,M.1.2.1,M.1.p2,x.q3)) λy2=>(bcase (!y2.2.2) (af (((([]:List (Int×List Int)),0,([]:List Bool),([]:List dj)),([]:List Int),([]:List Int),([]:List tw)),(0,0,0,0,0,([]:List Int),([]:List Int)),aj)) (obind (cp x.2.1) λU=>(be x.p2 i (bK wD x.1.2 i λz4=>(bK qD z4.2 (Y U.p6) λz5=>(jn (α:=Int×zm×oR×(Int×Int)×Int×vu×gF×(Int×Int)×jO×(List Int)×(List Int)×Z×(List Int)×List (List Int)) (jn (α:=Bool×zm×oR×(Int×Int)×Int×vu×gF×(Int×Int)×jO×(List Int)×(List Int)×Z×(List Int)×List (List Int)) (be M.1.2.1 1 (aE ((decide ((M.1.2.1:Int)=1)),x.1,y2.1,(i,x.q3),0,(0,0,0,0,0),(M.1.1,M.1.2.1,M.1.p2,y2.2.1,M.1.q4),((Y U.p6),(ev U.p6)),z5,U.q4)) (be M.1.2.1 16 (aE ((decide ((M.1.2.1:Int)=16)),x.1,y2.1,(i,x.q3),0,(0,0,0,0,0),(M.1.1,M.1.2.1,M.1.p2,y2.2.1,M.1.q4),((Y U.p6),(ev U.p6)),z5,U.q4)) (aE ((decide ((M.1.2.1:Int)=2)),x.1,y2.1,(i,x.q3),0,(0,0,0,0,0),(M.1.1,M.1.2.1,M.1.p2,y2.2.1,M.1.q4),((Y U.p6),(ev U.p6)),z5,U.q4)))) λI=>(bcase I.1 (aE (I.p7.1,I.2)) (be M.1.2.1 3 (kA aM I.p9 I.p6.p2 λz8=>(aE ((bl .i64 ((Y U.p6)+1)),I.2.1,I.p2,I.p3,I.p4,I.p5,(I.p6.1,I.p6.2.1,I.p6.p2,z8,I.p6.q4),I.q7))) (be M.1.2.1 23 (kA aM I.p10 I.p6.p2 λz9=>(aE ((bl .i64 ((Y U.p6)+1)),I.2.1,I.p2,I.p3,I.p4,I.p5,(I.p6.1,I.p6.2.1,I.p6.p2,z9,I.p6.q4),I.q7))) (be M.1.2.1 4 (kA aM I.p12 I.p8.p2 λz10=>(ck (fe I.p6.p2 (al I.p9)) (aE ((bl .i64 ((Y U.p6)+1)),I.2.1,I.p2,I.p3,I.p4,I.p5,(I.p6.1,I.p6.2.1,I.p6.p2,z10,I.p6.q4),I.p7,I.p8,(cq I.p9 I.p6.p2 z10),I.q10)))) (be M.1.2.1 22 (kA aM I.p12 I.p8.p2 λz11=>(ck (fe I.p6.p2 (al I.p10)) (aE ((bl .i64 ((Y U.p6)+1)),I.2.1,I.p2,I.p3,I.p4,I.p5,(I.p6.1,I.p6.2.1,I.p6.p2,z11,I.p6.q4),I.p7,I.p8,I.p9,(cq I.p10 I.p6.p2 z11),I.q11)))) (be M.1.2.1 5 (kA aM I.p12 I.p8.2.1 λz12=>(be z12 0 (aE (I.p8.p2,I.2.1,I.p2,I.p3,I.p4,I.p5,(I.p6.1,I.p6.2.1,I.p6.p2,0,I.p6.q4),I.q7)) (aE ((bl .i64 ((Y U.p6)+1)),I.2.1,I.p2,I.p3,I.p4,I.p5,(I.p6.1,I.p6.2.1,I.p6.p2,1,I.p6.q4),I.q7)))) (aE ((bl .i64 ((Y U.p6)+1)),I.2))))))))) λx6=>(jn (α:=zm×oR×(Int×Int)×Int×vu×gF×(Int×Int)×(List Int)×(List Int)×Z×(List Int)×List (List Int)) (jn (α:=Bool×zm×oR×(Int×Int)×Int×vu×gF×(Int×Int)×jO×(List Int)×(List Int)×Z×(List Int)×List (List Int)) (be x6.p6.2.1 3 (aE (ai,x6.2)) (aE ((decide ((x6.p6.2.1:Int)=23)),x6.2))) λJ=>(bcase J.1 (ck (fe J.p8.2.1 (al J.p12)) (ck (fe J.p8.2.1 (al J.q13)) (aE (J.2.1,J.p2,J.p3,J.p4,J.p5,J.p6,J.p7,J.p9,J.p10,J.p11,(cq J.p12 J.p8.2.1 J.p6.p3),(cq J.q13 J.p8.2.1 ([J.p7.2])))))) (aE (J.2.1,J.p2,J.p3,J.p4,J.p5,J.p6,J.p7,J.q9)))) λx13=>(k x6.1 x13))))) ah))))))
def mO (x:oR×(List Int)×(List Int)×List tw):Option (Int×gx×(List Bool)×(List dj)×(List Int)×(List Int)×(Int×Int)×(List Int)×List (List Int)):=
 (obind (ig x.1) λI=>(bE (bc (al ([]:List Int)+al x.2.1) 8) (bE (bc (al ([]:List Int)+al x.p2) 8) (bx 0 (aX x.q3) (bK eO x.q3 0 λM=>(obind (cg M) λU=>(bx 1 (aX x.q3) (bK eO x.q3 1 λJ=>(obind (cg J) λY=>ah)) (af (I.1,I.2.1,I.p2,I.q3,(([]:List Int)++x.2.1),(([]:List Int)++x.p2),U))))) ah))))
def fV (x:zm×wC×Int×Int):Option Dl:=
 SG 0 mO (λz=>z.1) (λz=>z.2) (KG 0 (λz R T=>(z.1,R,T,z.2)) (λw=>((w.1,w.2.1,w.2.2.1,w.2.2.2))) (λv t=>[t])) x
def mN (x:oR×(List Int)×(List Int)×List tw):Option (Int×gx×(List Bool)×(List dj)×(List Int)×(List Int)×Ya29×(List Int)×List (List Int)):=
 (obind (ig x.1) λJ=>(bE (bc (al ([]:List Int)+al x.2.1) 8) (bE (bc (al ([]:List Int)+al x.p2) 8) (bx 0 (aX x.q3) (bK eO x.q3 0 λZ=>(obind (cg Z) λM=>(bx 1 (aX x.q3) (bK eO x.q3 1 λY=>(obind (cg Y) λI=>(bx 2 (aX x.q3) (bK eO x.q3 2 λU=>(obind (cg U) λy7=>ah)) (af (J.1,J.2.1,J.p2,J.q3,(([]:List Int)++x.2.1),(([]:List Int)++x.p2),(M.1.1,M.1.2,I.1.1,I.2.1,I.2.2,I.1.2),M.2))))) ah))) ah))))
def gr (x:zm×wC×Int×Int):Option Dl:=
 SG 0 mN (λz=>z.1) (λz=>z.2.1) (KG 0 (λz R T=>(z.1,R,T,z.2.1,z.2.2)) (λw=>((w.1,w.2.1,w.2.2.1,w.2.2.2.1),w.2.2.2.2)) (λv t=>[t,v.2])) x
def mM (x:oR×(List Int)×(List Int)×List tw):Option (Int×gx×(List Bool)×(List dj)×(List Int)×(List Int)×(tw×Int×Int)×(List Int)×List (List Int)):=
 (obind (ig x.1) λJ=>(bE (bc (al ([]:List Int)+al x.2.1) 8) (bE (bc (al ([]:List Int)+al x.p2) 8) (bx 0 (aX x.q3) (bK eO x.q3 0 λZ=>(obind (cg Z) λI=>(bx 1 (aX x.q3) (bK eO x.q3 1 λY=>(obind (cg Y) λM=>(bx 2 (aX x.q3) (bK eO x.q3 2 λU=>(obind (cg U) λy7=>ah)) (af (J.1,J.2.1,J.p2,J.q3,(([]:List Int)++x.2.1),(([]:List Int)++x.p2),((I.1.1,I.2.1,I.2.2,I.1.2),M.1),M.2))))) ah))) ah))))
def fU (x:zm×wC×Int×Int):Option Dl:=
 SG 1 mM (λz=>z.2.1) (λz=>z.2.2) (KG 1 (λz R T=>(z.1,z.2.1,R,T,z.2.2)) (λw=>(w.1,(w.2.1,w.2.2.1,w.2.2.2.1,w.2.2.2.2))) (λv t=>[v.1,t])) x
def mL (x:oR×(List Int)×(List Int)×List tw):Option (Int×gx×(List Bool)×(List dj)×(List Int)×(List Int)×Ya27×(List Int)×List (List Int)):=
 (obind (ig x.1) λM=>(bE (bc (al ([]:List Int)+al x.2.1) 8) (bE (bc (al ([]:List Int)+al x.p2) 8) (bx 0 (aX x.q3) (bK eO x.q3 0 λz2=>(obind (cg z2) λU=>(bx 1 (aX x.q3) (bK eO x.q3 1 λz4=>(obind (cg z4) λJ=>(bx 2 (aX x.q3) (bK eO x.q3 2 λZ=>(obind (cg Z) λI=>(bx 3 (aX x.q3) (bK eO x.q3 3 λY=>(obind (cg Y) λy9=>ah)) (af (M.1,M.2.1,M.p2,M.q3,(([]:List Int)++x.2.1),(([]:List Int)++x.p2),(U.1.1,U.1.2,(J.1.1,J.2.1,J.2.2,J.1.2),I.1.1,I.2.1,I.2.2,I.1.2),U.2))))) ah))) ah))) ah))))
def ji (x:zm×wC×Int×Int):Option Dl:=
 SG 0 mL (λz=>z.1) (λz=>z.2.1) (KG 0 (λz R T=>(z.1,R,T,z.2.1,z.p2,z.q3)) (λw=>((w.1,w.2.1,w.2.2.1,w.2.2.2.1),w.2.2.2.2.1,w.2.2.2.2.2)) (λv t=>[t,v.2.1,v.2.2])) x
def mK (x:oR×(List Int)×(List Int)×List tw):Option (Int×gx×(List Bool)×(List dj)×(List Int)×(List Int)×Ya28×(List Int)×List (List Int)):=
 (obind (ig x.1) λM=>(bE (bc (al ([]:List Int)+al x.2.1) 8) (bE (bc (al ([]:List Int)+al x.p2) 8) (bx 0 (aX x.q3) (bK eO x.q3 0 λz2=>(obind (cg z2) λJ=>(bx 1 (aX x.q3) (bK eO x.q3 1 λz4=>(obind (cg z4) λU=>(bx 2 (aX x.q3) (bK eO x.q3 2 λZ=>(obind (cg Z) λI=>(bx 3 (aX x.q3) (bK eO x.q3 3 λY=>(obind (cg Y) λy9=>ah)) (af (M.1,M.2.1,M.p2,M.q3,(([]:List Int)++x.2.1),(([]:List Int)++x.p2),((J.1.1,J.2.1,J.2.2,J.1.2),U.1.1,U.1.2,I.1.1,I.2.1,I.2.2,I.1.2),U.2))))) ah))) ah))) ah))))
def iz (x:zm×wC×Int×Int):Option Dl:=
 SG 1 mK (λz=>z.2.1) (λz=>z.p2) (KG 1 (λz R T=>(z.1,z.2.1,R,T,z.p2,z.q3)) (λw=>(w.1,(w.2.1,w.2.2.1,w.2.2.2.1,w.2.2.2.2.1),w.2.2.2.2.2)) (λv t=>[v.1,t,v.2.2])) x
def mJ (x:oR×(List Int)×(List Int)×List tw):Option (Int×gx×(List Bool)×(List dj)×(List Int)×(List Int)×(tw×tw×Int×Int)×(List Int)×List (List Int)):=
 (obind (ig x.1) λM=>(bE (bc (al ([]:List Int)+al x.2.1) 8) (bE (bc (al ([]:List Int)+al x.p2) 8) (bx 0 (aX x.q3) (bK eO x.q3 0 λz2=>(obind (cg z2) λJ=>(bx 1 (aX x.q3) (bK eO x.q3 1 λz4=>(obind (cg z4) λI=>(bx 2 (aX x.q3) (bK eO x.q3 2 λZ=>(obind (cg Z) λU=>(bx 3 (aX x.q3) (bK eO x.q3 3 λY=>(obind (cg Y) λy9=>ah)) (af (M.1,M.2.1,M.p2,M.q3,(([]:List Int)++x.2.1),(([]:List Int)++x.p2),((J.1.1,J.2.1,J.2.2,J.1.2),(I.1.1,I.2.1,I.2.2,I.1.2),U.1),U.2))))) ah))) ah))) ah))))
def gX (x:zm×wC×Int×Int):Option Dl:=
 SG 2 mJ (λz=>z.p2) (λz=>z.q3) (KG 2 (λz R T=>(z.1,z.2.1,z.p2,R,T,z.q3)) (λw=>(w.1,w.2.1,(w.2.2.1,w.2.2.2.1,w.2.2.2.2.1,w.2.2.2.2.2))) (λv t=>[v.1,v.2.1,t])) x
def mI (x:oR×(List Int)×(List Int)×List tw):Option (Int×gx×(List Bool)×(List dj)×(List Int)×(List Int)×Ya23×(List Int)×List (List Int)):=
 (obind (ig x.1) λU=>(bE (bc (al ([]:List Int)+al x.2.1) 8) (bE (bc (al ([]:List Int)+al x.p2) 8) (bx 0 (aX x.q3) (bK eO x.q3 0 λz2=>(obind (cg z2) λZ=>(bx 1 (aX x.q3) (bK eO x.q3 1 λz4=>(obind (cg z4) λM=>(bx 2 (aX x.q3) (bK eO x.q3 2 λz6=>(obind (cg z6) λJ=>(bx 3 (aX x.q3) (bK eO x.q3 3 λz8=>(obind (cg z8) λI=>(bx 4 (aX x.q3) (bK eO x.q3 4 λY=>(obind (cg Y) λy11=>ah)) (af (U.1,U.2.1,U.p2,U.q3,(([]:List Int)++x.2.1),(([]:List Int)++x.p2),(Z.1.1,Z.1.2,(M.1.1,M.2.1,M.2.2,M.1.2),(J.1.1,J.2.1,J.2.2,J.1.2),I.1.1,I.2.1,I.2.2,I.1.2),Z.2))))) ah))) ah))) ah))) ah))))
def mE (x:zm×wC×Int×Int):Option Dl:=
 SG 0 mI (λz=>z.1) (λz=>z.2.1) (KG 0 (λz R T=>(z.1,R,T,z.2.1,z.p2,z.p3,z.q4)) (λw=>((w.1,w.2.1,w.2.2.1,w.2.2.2.1),w.2.2.2.2.1,w.2.2.2.2.2.1,w.2.2.2.2.2.2)) (λv t=>[t,v.2.1,v.2.2.1,v.2.2.2])) x
def mH (x:oR×(List Int)×(List Int)×List tw):Option (Int×gx×(List Bool)×(List dj)×(List Int)×(List Int)×Ya24×(List Int)×List (List Int)):=
 (obind (ig x.1) λU=>(bE (bc (al ([]:List Int)+al x.2.1) 8) (bE (bc (al ([]:List Int)+al x.p2) 8) (bx 0 (aX x.q3) (bK eO x.q3 0 λz2=>(obind (cg z2) λM=>(bx 1 (aX x.q3) (bK eO x.q3 1 λz4=>(obind (cg z4) λZ=>(bx 2 (aX x.q3) (bK eO x.q3 2 λz6=>(obind (cg z6) λJ=>(bx 3 (aX x.q3) (bK eO x.q3 3 λz8=>(obind (cg z8) λI=>(bx 4 (aX x.q3) (bK eO x.q3 4 λY=>(obind (cg Y) λy11=>ah)) (af (U.1,U.2.1,U.p2,U.q3,(([]:List Int)++x.2.1),(([]:List Int)++x.p2),((M.1.1,M.2.1,M.2.2,M.1.2),Z.1.1,Z.1.2,(J.1.1,J.2.1,J.2.2,J.1.2),I.1.1,I.2.1,I.2.2,I.1.2),Z.2))))) ah))) ah))) ah))) ah))))
def mD (x:zm×wC×Int×Int):Option Dl:=
 SG 1 mH (λz=>z.2.1) (λz=>z.p2) (KG 1 (λz R T=>(z.1,z.2.1,R,T,z.p2,z.p3,z.q4)) (λw=>(w.1,(w.2.1,w.2.2.1,w.2.2.2.1,w.2.2.2.2.1),w.2.2.2.2.2.1,w.2.2.2.2.2.2)) (λv t=>[v.1,t,v.2.2.1,v.2.2.2])) x
def mG (x:oR×(List Int)×(List Int)×List tw):Option (Int×gx×(List Bool)×(List dj)×(List Int)×(List Int)×Ya25×(List Int)×List (List Int)):=
 (obind (ig x.1) λU=>(bE (bc (al ([]:List Int)+al x.2.1) 8) (bE (bc (al ([]:List Int)+al x.p2) 8) (bx 0 (aX x.q3) (bK eO x.q3 0 λz2=>(obind (cg z2) λM=>(bx 1 (aX x.q3) (bK eO x.q3 1 λz4=>(obind (cg z4) λJ=>(bx 2 (aX x.q3) (bK eO x.q3 2 λz6=>(obind (cg z6) λZ=>(bx 3 (aX x.q3) (bK eO x.q3 3 λz8=>(obind (cg z8) λI=>(bx 4 (aX x.q3) (bK eO x.q3 4 λY=>(obind (cg Y) λy11=>ah)) (af (U.1,U.2.1,U.p2,U.q3,(([]:List Int)++x.2.1),(([]:List Int)++x.p2),((M.1.1,M.2.1,M.2.2,M.1.2),(J.1.1,J.2.1,J.2.2,J.1.2),Z.1.1,Z.1.2,I.1.1,I.2.1,I.2.2,I.1.2),Z.2))))) ah))) ah))) ah))) ah))))
def kY (x:zm×wC×Int×Int):Option Dl:=
 SG 2 mG (λz=>z.p2) (λz=>z.p3) (KG 2 (λz R T=>(z.1,z.2.1,z.p2,R,T,z.p3,z.q4)) (λw=>(w.1,w.2.1,(w.2.2.1,w.2.2.2.1,w.2.2.2.2.1,w.2.2.2.2.2.1),w.2.2.2.2.2.2)) (λv t=>[v.1,v.2.1,t,v.2.2.2])) x
def mF (x:oR×(List Int)×(List Int)×List tw):Option (Int×gx×(List Bool)×(List dj)×(List Int)×(List Int)×Ya42×(List Int)×List (List Int)):=
 (obind (ig x.1) λU=>(bE (bc (al ([]:List Int)+al x.2.1) 8) (bE (bc (al ([]:List Int)+al x.p2) 8) (bx 0 (aX x.q3) (bK eO x.q3 0 λz2=>(obind (cg z2) λM=>(bx 1 (aX x.q3) (bK eO x.q3 1 λz4=>(obind (cg z4) λJ=>(bx 2 (aX x.q3) (bK eO x.q3 2 λz6=>(obind (cg z6) λI=>(bx 3 (aX x.q3) (bK eO x.q3 3 λz8=>(obind (cg z8) λZ=>(bx 4 (aX x.q3) (bK eO x.q3 4 λY=>(obind (cg Y) λy11=>ah)) (af (U.1,U.2.1,U.p2,U.q3,(([]:List Int)++x.2.1),(([]:List Int)++x.p2),((M.1.1,M.2.1,M.2.2,M.1.2),(J.1.1,J.2.1,J.2.2,J.1.2),(I.1.1,I.2.1,I.2.2,I.1.2),Z.1),Z.2))))) ah))) ah))) ah))) ah))))
def jZ (x:zm×wC×Int×Int):Option Dl:=
 SG 3 mF (λz=>z.p3) (λz=>z.q4) (KG 3 (λz R T=>(z.1,z.2.1,z.p2,z.p3,R,T,z.q4)) (λw=>(w.1,w.2.1,w.2.2.1,(w.2.2.2.1,w.2.2.2.2.1,w.2.2.2.2.2.1,w.2.2.2.2.2.2))) (λv t=>[v.1,v.2.1,v.2.2.1,t])) x
def zG (x:zm×wC×Int×Int):Option Dl:=orE (mE x) (orE (mD x) (orE (kY x) (orE (jZ x) (orE (ji x) (orE (iz x) (orE (gX x) (orE (gr x) (orE (fU x) (fV x)))))))))
def vM (x:zm×wC×List (Int×Int)):Option ((List gF)×oR×(List Int)×(List Int)×List tw):=
 (iter (σ:=Int×(List gF)×zm×wC×Int) (λJ=>(jn (α:=Bool×(List gF)×zm×wC×Int) (bx J.1 (aX x.2.2) (aE ((fP (aX J.2.1) 400),J.2)) (aE (aj,J.2))) λI=>(bcase I.1 (jn (α:=(List gF)×zm×wC×Int) (bK iE x.2.2 J.1 λU=>(obind (zG (I.p2,I.p3,U)) λM=>(bcase M.2.2 (bE (bc (al I.2.1+al ([M.2.1])) 88) (aE ((I.2.1++([M.2.1])),I.p2,M.1,I.q4))) (aE I.2)))) λY=>(cK ((cB J.1),Y))) (aE (I.2.1,I.p3))))) (0,([]:List gF),x.1,x.2.1,0))
def yz (x:zm×List (Int×Int)):Option ((dG×List gF)×oR×(List Int)×(List Int)×List tw):=
 (obind (jx x.1) λM=>(bcase (!M) (af (((([]:List RK),([]:List ((List UInt8)×Bool)),([]:List fg),([]:List (List UInt8)),([]:List (List UInt8)),([]:List (Int×Int×Int))),([]:List gF)),(([]:List (Int×List Int)),0,([]:List Bool),([]:List dj)),([]:List Int),([]:List Int),([]:List tw))) (obind (tL x.1) λJ=>(obind (vM (x.1,J,x.2)) λI=>(af ((x.1.1,I.1),I.2))))))
def bw (x:Int×(List Int)×Int):Option (Int×(List Int)×Int):=
 (jn (α:=Bool×(List Int)×Int) (jN (aX x.2.1) x.2.2 (aE (ai,x.2)) (aE ((fP x.1 1),x.2))) λI=>(bcase I.1 (af (0,I.2)) (lt (cB I.2.2) λM=>(bK (.int .u8) I.2.1 (bl .i64 (M-1)) λJ=>(bE (!decide ((x.1:Int)=0)) (af ((zB (bl .i64 J) x.1),I.2.1,(cB I.2.2))))))))
def qZ (x:Int):Option (Xp):=
 (af (dT (1,x,[],([]:List Xp))))
def pa (x:List UInt8):Option (Xp):=
 (af (dT (2,0,x,([]:List Xp))))
def nD (x:Int×Xp×Xp):Option (Xp):=
 (af (dT (x.1,0,[],[dT ((Xp.op x.2.1),(Xp.n x.2.1),(Xp.name x.2.1),(Xp.l x.2.1)),dT ((Xp.op x.2.2),(Xp.n x.2.2),(Xp.name x.2.2),(Xp.l x.2.2))])))
def jg (x:(List UInt8)×Xp):Option (Sx):=
 (af (nE (1,0,x.1,[],([]:List Xp),dT ((Xp.op x.2),(Xp.n x.2),(Xp.name x.2),(Xp.l x.2)),([]:List Sx),([]:List Sx))))
def rT (x:Unit):Option rO:=
 (af ([(1,0,[120],0,0,[]),(1,0,[121],0,1,[]),(2,0,[118],0,0,[]),(1,0,[113],2,0,[]),(3,0,[109],0,0,[]),(3,0,[110],0,0,[]),(4,0,[114],0,0,[]),(5,0,[99],0,0,[109]),(6,0,[102],0,0,[])]))
def oA (x:List Int):Option (List (Int×Int)):=
 (iter (σ:=Int×List (Int×Int)) (λI=>(bx I.1 (aX x) (bK (.int .u8) x I.1 λM=>(bK (.int .u8) x I.1 λJ=>(bE (bc (al I.2+al ([((zB (bl .i64 M) 4),(bl .i64 ((zB (bl .i64 (Int.tdiv (bl .i64 J) 4)) 5)-1)))])) 16) (cK ((cB I.1),(I.2++([((zB (bl .i64 M) 4),(bl .i64 ((zB (bl .i64 (Int.tdiv (bl .i64 J) 4)) 5)-1)))]))))))) (aE I.2))) (0,([]:List (Int×Int))))
def nL (rmade_maker_expr:XP->Option adf) (x:Int×yf×fK×Bool×List (List UInt8)):Option adf:=
 (obind (bw (10,x.p2)) λZ=>(jn (α:=Bool×yf×fK×RL×(Int×Int×List UInt8)×List (List UInt8)) (bx Z.1 2 (aE (ai,x.2.1,Z.2,x.q3,(0,0,[]),[[97],[98],[120],[121],[118],[120],[121]])) (be x.1 0 (aE ((cV 7 Z.1),x.2.1,Z.2,x.q3,(0,0,[]),[[97],[98],[120],[121],[118],[120],[121]])) (aE (aj,x.2.1,Z.2,x.q3,(0,0,[]),[[97],[98],[120],[121],[118],[120],[121]])))) λI=>(bcase I.1 (obind (bw (4,I.p2)) λy3=>(obind (qZ y3.1) λy4=>(af (dT ((Xp.op y4),(Xp.n y4),(Xp.name y4),(Xp.l y4)),I.2.1,y3.2,I.p3)))) (bx Z.1 7 (obind (bw ((aX I.q5),I.p2)) λy5=>(kA (.str) I.q5 y5.1 λz6=>(obind (pa z6) λy7=>(af (dT ((Xp.op y7),(Xp.n y7),(Xp.name y7),(Xp.l y7)),I.2.1,y5.2,I.p3))))) (be Z.1 7 (obind (rmade_maker_expr (0,I.2.1,I.p2,I.p3)) λY=>(bE (((I.p3.1==Y.p3)&&ai)&&aB (al I.p3.2) (al Y.q4)&&ai) (af (dT (3,0,[113],[dT ((Xp.op Y.1),(Xp.n Y.1),(Xp.name Y.1),(Xp.l Y.1))]),Y.2)))) (obind (bw ((aO (al ([6,7,8,11,13,17]))),I.p2)) λy9=>(kA aM ([6,7,8,11,13,17]) y9.1 λz10=>(obind (rmade_maker_expr ((bl .i64 (x.1-1)),I.2.1,y9.2,I.p3)) λJ=>(bE (((I.p3.1==J.p3)&&ai)&&aB (al I.p3.2) (al J.q4)&&ai) (obind (rmade_maker_expr ((bl .i64 (x.1-1)),J.2)) λU=>(bE (((J.p3==U.p3)&&ai)&&aB (al J.q4) (al U.q4)&&ai) (obind (nD (z10,J.1,U.1)) λM=>(af (dT ((Xp.op M),(Xp.n M),(Xp.name M),(Xp.l M)),U.2))))))))))))))
def ik:Nat->XP->Option adf
 |0,_=>ah
 |n+1,x=>nL (ik n) x
theorem ya (n:Nat) (x:Int×yf×fK×Bool×List (List UInt8)):ik (n+1) x=nL (ik n) x:=rfl
def eY (x:Int×yf×fK×Bool×List (List UInt8)):Option adf:=ik fuel x
def eD (x:(List UInt8)×yf×fK×Bool×List (List UInt8)):Option (Bool×yf×fK×Bool×List (List UInt8)):=
 (obind (iS (x.q4,x.1)) λI=>(af ((cV 0 I),x.2)))
def mm (rmade_maker_stmts:adh->Option XO) (rmade_maker_stmt:XP->Option aa4) (rmade_maker_block:adg->Option aa5) (x:(Int×Int)×yf×fK×Bool×List (List UInt8)):Option XO:=
 (iter (σ:=Int×yf×fK×(List Sx)×Bool×List (List UInt8)) (λJ=>(jn (α:=Bool×yf×fK×(List Sx)×Bool×List (List UInt8)) (bx J.1 x.1.2 (be J.1 0 (aE (ai,J.2)) (aE ((fP 0 J.2.1.2.1),J.2))) (aE (aj,J.2))) λI=>(bcase I.1 (obind (rmade_maker_stmt (x.1.1,I.2.1,I.p2,I.q4)) λM=>(bE (((I.p4==I.p4)&&ai)&&aB (al I.q5) (al I.q5)&&ai) (bE (bc (al I.p3+al ([dW M.1])) 176) (cK ((cB J.1),M.2.1,M.p2,(I.p3++([dW M.1])),M.q3))))) (aE (I.2.1,I.p2,I.q4,I.p3))))) (0,x.2.1,x.p2,([]:List Sx),x.q3))
def nK (rmade_maker_stmts:adh->Option XO) (rmade_maker_stmt:XP->Option aa4) (rmade_maker_block:adg->Option aa5) (x:Int×yf×fK×Bool×List (List UInt8)):Option aa4:=
 (obind (bw (18,x.p2)) λy1=>(jn (α:=Bool×yf×fK×GG×Bool×List (List UInt8)) (bx 0 x.1 (lt (bl .i64 (x.2.1.2.1-1)) λz3=>(bx 0 z3 (aE ((!x.2.1.p3),(x.2.1.1,(bl .i64 (x.2.1.2.1-1)),x.2.1.2.2),y1.2,(0,0,[],[],0,0,[]),x.q3)) (aE (aj,(x.2.1.1,(bl .i64 (x.2.1.2.1-1)),x.2.1.2.2),y1.2,(0,0,[],[],0,0,[]),x.q3)))) (aE (aj,(x.2.1.1,(bl .i64 (x.2.1.2.1-1)),x.2.1.2.2),y1.2,(0,0,[],[],0,0,[]),x.q3))) λx2=>(bx y1.1 4 (kA (.str) ([[120],[121],[120],[118]]) y1.1 λz4=>(obind (eY (1,x2.2.1,x2.p2,x2.q4)) λy5=>(bE (((x2.p4==y5.p3)&&ai)&&aB (al x2.q5) (al y5.q4)&&ai) (obind (jg (z4,y5.1)) λy6=>(af (dW y6,y5.2)))))) (be y1.1 4 (obind (bw (2,x2.p2)) λy7=>(kA (.str) ([[97],[98]]) y7.1 λz8=>(obind (eY (1,x2.2.1,y7.2,x2.q4)) λy9=>(bE (((x2.p4==y9.p3)&&ai)&&aB (al x2.q5) (al y9.q4)&&ai) (obind (jg (z8,y9.1)) λy10=>(af (dW y10,y9.2))))))) (be y1.1 5 (obind (eY (0,x2.2.1,x2.p2,x2.q4)) λy11=>(bE (((x2.p4==y11.p3)&&ai)&&aB (al x2.q5) (al y11.q4)&&ai) (obind (eY (1,y11.2)) λy12=>(bE (((y11.p3==y12.p3)&&ai)&&aB (al y11.q4) (al y12.q4)&&ai) (af (nE (1,0,[113],[],[dT ((Xp.op y11.1),(Xp.n y11.1),(Xp.name y11.1),(Xp.l y11.1))],dT ((Xp.op y12.1),(Xp.n y12.1),(Xp.name y12.1),(Xp.l y12.1)),([]:List Sx),([]:List Sx)),y12.2)))))) (jn (α:=Bool×yf×fK×GG×Bool×List (List UInt8)) (be y1.1 6 (aE ((fP 0 x.1),x2.2)) (aE (aj,x2.2))) λx13=>(bcase x13.1 (obind (eY (1,x13.2.1,x13.p2,x13.q4)) λU=>(bE (((x13.p4==U.p3)&&ai)&&aB (al x13.q5) (al U.q4)&&ai) (obind (rmade_maker_stmts (((bl .i64 (x.1-1)),1),U.2)) λy15=>(bE (((U.p3==U.p3)&&ai)&&aB (al U.q4) (al U.q4)&&ai) (jn (α:=yf×fK×GG×(Int×Int×(List UInt8)×(List UInt8)×Int×Int×(List UInt8)×List Xp)×RL×(List Sx)×List Sx) (obind (bw (2,y15.2.1)) λy17=>(be y17.1 1 (obind (rmade_maker_stmts (((bl .i64 (x.1-1)),1),y15.1,y17.2,y15.p2)) λy18=>(bE (((y15.p2.1==y15.p2.1)&&ai)&&aB (al y15.p2.2) (al y15.p2.2)&&ai) (aE (y18.1,y18.2.1,x13.p3,(2,0,[],[],(Xp.op U.1),(Xp.n U.1),(Xp.name U.1),(Xp.l U.1)),y18.p2,y15.q3,y18.q3)))) (aE (y15.1,y17.2,x13.p3,(2,0,[],[],(Xp.op U.1),(Xp.n U.1),(Xp.name U.1),(Xp.l U.1)),y15.p2,y15.q3,([]:List Sx))))) λx16=>(af (nE (x16.p3.1,x16.p3.2.1,x16.p3.p2,x16.p3.p3,([]:List Xp),dT x16.p3.q4,x16.q5),x16.1,x16.2.1,x16.p4))))))) (jn (α:=Bool×yf×fK×GG×Bool×List (List UInt8)) (be y1.1 7 (aE ((fP 0 x.1),x13.2)) (aE (aj,x13.2))) λI=>(bcase I.1 (obind (pa ([98])) λy20=>(obind (qZ 2) λy21=>(obind (nD (13,y20,y21)) λy22=>(obind (rmade_maker_stmts (((bl .i64 (x.1-1)),1),(I.2.1.1,I.2.1.2.1,I.2.1.p2,I.2.1.p3,I.2.1.p4,ai),I.p2,I.q4)) λy23=>(bE (((I.p4==I.p4)&&ai)&&aB (al I.q5) (al I.q5)&&ai) (obind (pa ([98])) λy24=>(obind (qZ 1) λy25=>(obind (nD (6,y24,y25)) λy26=>(obind (jg ([98],y26)) λy27=>(bE (bc (al y23.q3+al ([dW y27])) 176) (af (nE (3,0,[],[],([]:List Xp),dT ((Xp.op y22),(Xp.n y22),(Xp.name y22),(Xp.l y22)),(y23.q3++([dW y27])),([]:List Sx)),(y23.1.1,y23.1.2.1,y23.1.p2,y23.1.p3,y23.1.p4,I.2.1.q5),y23.2.1,y23.p2)))))))))))) (jn (α:=Bool×yf×fK×GG×Bool×List (List UInt8)) (be y1.1 8 (bcase x2.1 (kA (.str) ([[109],[110]]) (bl .i64 (y1.1-8)) λz29=>(obind (eD (z29,I.2.1,I.p2,I.q4)) λy30=>(bE (((I.p4==y30.p3)&&ai)&&aB (al I.q5) (al y30.q4)&&ai) (aE ((!y30.1),y30.2.1,y30.p2,I.p3,y30.q3))))) (aE (aj,I.2))) (be y1.1 9 (bcase x2.1 (kA (.str) ([[109],[110]]) (bl .i64 (y1.1-8)) λz31=>(obind (eD (z31,I.2.1,I.p2,I.q4)) λy32=>(bE (((I.p4==y32.p3)&&ai)&&aB (al I.q5) (al y32.q4)&&ai) (aE ((!y32.1),y32.2.1,y32.p2,I.p3,y32.q3))))) (aE (aj,I.2))) (aE (aj,I.2)))) λJ=>(bcase J.1 (kA (.str) ([[109],[110]]) (bl .i64 (y1.1-8)) λz33=>(obind (rmade_maker_block ((z33,(bl .i64 (x.1-1))),J.2.1,J.p2,J.q4)) λy34=>(bE (((J.p4==J.p4)&&ai)&&aB (al J.q5) (al J.q5)&&ai) (af (nE (4,0,z33,[],([]:List Xp),dT (0,0,[],([]:List Xp)),y34.1,([]:List Sx)),y34.2))))) (jn (α:=Bool×yf×fK×GG×Bool×List (List UInt8)) (be y1.1 10 (bcase x2.1 (obind (eD ([114],J.2.1,J.p2,J.q4)) λy36=>(bE (((J.p4==y36.p3)&&ai)&&aB (al J.q5) (al y36.q4)&&ai) (aE ((!y36.1),y36.2.1,y36.p2,J.p3,y36.q3)))) (aE (aj,J.2))) (be y1.1 11 (bcase x2.1 (obind (eD ([114],J.2.1,J.p2,J.q4)) λy37=>(bE (((J.p4==y37.p3)&&ai)&&aB (al J.q5) (al y37.q4)&&ai) (aE ((!y37.1),y37.2.1,y37.p2,J.p3,y37.q3)))) (aE (aj,J.2))) (aE (aj,J.2)))) λx35=>(bcase x35.1 (obind (rmade_maker_block (([114],(bl .i64 (x.1-1))),x35.2.1,x35.p2,x35.q4)) λy38=>(bE (((x35.p4==x35.p4)&&ai)&&aB (al x35.q5) (al x35.q5)&&ai) (af (nE ((bl .i64 ((bl .i64 (y1.1-10))+5)),0,[114],[],([]:List Xp),dT (0,0,[],([]:List Xp)),y38.1,([]:List Sx)),y38.2)))) (jn (α:=Bool×yf×fK×GG×Bool×List (List UInt8)) (be y1.1 12 (aE (x2.1,x35.2)) (aE (aj,x35.2))) λY=>(bcase Y.1 (obind (bw (2,Y.p2)) λy40=>(obind (rmade_maker_stmts ((0,(bl .i64 (1+y40.1))),(Y.2.1.1,Y.2.1.2.1,Y.2.1.p2,ai,Y.2.1.q4),y40.2,Y.q4)) λy41=>(bE (((Y.p4==Y.p4)&&ai)&&aB (al Y.q5) (al Y.q5)&&ai) (af (nE (7,0,[],[],([]:List Xp),dT (0,0,[],([]:List Xp)),y41.q3,([]:List Sx)),(y41.1.1,y41.1.2.1,y41.1.p2,aj,y41.1.q4),y41.2.1,y41.p2))))) (jn (α:=Bool×yf×fK×GG×Bool×List (List UInt8)) (be y1.1 13 (bcase x2.1 (aE ((!Y.2.1.p4),Y.2)) (aE (aj,Y.2))) (aE (aj,Y.2))) λM=>(bcase M.1 (obind (rmade_maker_stmts (((bl .i64 (x.1-1)),2),(M.2.1.1,M.2.1.2.1,M.2.1.p2,M.2.1.p3,ai,M.2.1.q5),M.p2,M.q4)) λy43=>(bE (((M.p4==M.p4)&&ai)&&aB (al M.q5) (al M.q5)&&ai) (af (nE (8,0,[],[],([]:List Xp),dT (0,0,[],([]:List Xp)),y43.q3,([]:List Sx)),(y43.1.1,y43.1.2.1,y43.1.p2,y43.1.p3,aj,y43.1.q5),y43.2.1,y43.p2)))) (jn (α:=Bool×yf×fK×GG×Bool×List (List UInt8)) (be y1.1 14 (bcase x2.1 (bcase (!M.2.1.p4) (obind (eD ([109],M.2.1,M.p2,M.q4)) λy45=>(bE (((M.p4==y45.p3)&&ai)&&aB (al M.q5) (al y45.q4)&&ai) (aE ((!y45.1),y45.2.1,y45.p2,M.p3,y45.q3)))) (aE (aj,M.2))) (aE (aj,M.2))) (aE (aj,M.2))) λx44=>(bcase x44.1 (obind (pa ([120])) λy46=>(obind (jg ([97],y46)) λy47=>(af (nE (4,0,[109],[],([]:List Xp),dT (0,0,[],([]:List Xp)),[nE (9,0,[99],[],([]:List Xp),dT (0,0,[],([]:List Xp)),([]:List Sx),([]:List Sx)),dW y47],([]:List Sx)),x44.2.1,x44.p2,x44.q4)))) (jn (α:=Bool×yf×fK×GG×Bool×List (List UInt8)) (be y1.1 15 (bcase x2.1 (obind (eD ([109],x44.2.1,x44.p2,x44.q4)) λy49=>(bE (((x44.p4==y49.p3)&&ai)&&aB (al x44.q5) (al y49.q4)&&ai) (aE ((!y49.1),y49.2.1,y49.p2,x44.p3,y49.q3)))) (aE (aj,x44.2))) (aE (aj,x44.2))) λx48=>(bcase x48.1 (obind (bw (2,x48.p2)) λy50=>(af (nE (4,0,[109],[],([]:List Xp),dT (0,0,[],([]:List Xp)),[nE ((bl .i64 (10+y50.1)),0,[99],[],([]:List Xp),dT (0,0,[],([]:List Xp)),([]:List Sx),([]:List Sx))],([]:List Sx)),x48.2.1,y50.2,x48.q4))) (jn (α:=Bool×yf×fK×GG×Bool×List (List UInt8)) (be y1.1 16 (bcase (!x48.2.1.p3) (bcase (!x48.2.1.q5) (aE ((!x48.2.1.p2),x48.2)) (aE (aj,x48.2))) (aE (aj,x48.2))) (aE (aj,x48.2))) λZ=>(bcase Z.1 (obind (eY (1,(Z.2.1.1,Z.2.1.2.1,ai,Z.2.1.q3),Z.p2,Z.q4)) λy52=>(bE (((Z.p4==y52.p3)&&ai)&&aB (al Z.q5) (al y52.q4)&&ai) (af (nE (14,0,[102],[],([]:List Xp),dT ((Xp.op y52.1),(Xp.n y52.1),(Xp.name y52.1),(Xp.l y52.1)),([]:List Sx),([]:List Sx)),y52.2)))) (jn (α:=Bool×yf×fK×GG×Bool×List (List UInt8)) (be y1.1 17 (bcase (!Z.2.1.p3) (obind (bw (2,Z.p2)) λy54=>(aE ((decide ((y54.1:Int)=1)),Z.2.1,y54.2,Z.q3))) (aE (aj,Z.2))) (aE (aj,Z.2))) λx53=>(bcase x53.1 (af (nE (15,0,[97],[102],([]:List Xp),dT (0,0,[],([]:List Xp)),([]:List Sx),([]:List Sx)),x53.2.1,x53.p2,x53.q4)) (obind (eY (1,x53.2.1,x53.p2,x53.q4)) λy55=>(bE (((x53.p4==y55.p3)&&ai)&&aB (al x53.q5) (al y55.q4)&&ai) (obind (jg ([120],y55.1)) λy56=>(af (dW y56,y55.2))))))))))))))))))))))))))))))
def mn (rmade_maker_stmts:adh->Option XO) (rmade_maker_stmt:XP->Option aa4) (rmade_maker_block:adg->Option aa5) (x:fg×yf×fK×Bool×List (List UInt8)):Option aa5:=
 (bE (bc (al x.q4+al ([x.1.1])) 16) (obind (bw (2,x.p2)) λJ=>(obind (rmade_maker_stmts ((x.1.2,(bl .i64 (1+J.1))),x.2.1,J.2,x.p3,(x.q4++([x.1.1])))) λI=>(bE (((x.p3==x.p3)&&ai)&&aB (al (x.q4++([x.1.1]))) (al (x.q4++([x.1.1])))&&ai) (bE (cV 0 (bl .i64 ((aX I.p2.2)-1))&&fP (bl .i64 ((aX I.p2.2)-1)) (al I.p2.2)) (af (I.q3,I.1,I.2.1,aj,(du (aS (bl .i64 ((aX I.p2.2)-1))) I.p2.2))))))))
mutual
def dB:Nat->adh->Option XO
 |0,_=>ah
 |n+1,x=>mm (dB n) (eo n) (dQ n) x
def eo:Nat->XP->Option aa4
 |0,_=>ah
 |n+1,x=>nK (dB n) (eo n) (dQ n) x
def dQ:Nat->adg->Option aa5
 |0,_=>ah
 |n+1,x=>mn (dB n) (eo n) (dQ n) x
end
def qa (x:(Int×Int)×yf×fK×Bool×List (List UInt8)):Option XO:=dB fuel x
def oz (x:List Int):Option (rO×List rN):=
 (obind (rT ()) λy1=>(obind (bw (3,x,0)) λy2=>(iter (σ:=Int×yf×rO×ca×fK×RL×List rN) (λM=>(bx M.1 (bl .i64 (2+y2.1)) (kA (.str) M.p3 M.1 λz4=>(jn (α:=yf×rO×ca×fg×fK×RL×(List rN)×ca×List Sx) (be M.1 0 (iter (σ:=Int×yf×rO×ca×fg×fK×RL×(List rN)×ca×List Sx) (λY=>(bx Y.1 (bl .i64 (2+y2.1)) (kA (.str) Y.p3 Y.1 λz7=>(bE (bc (al Y.q9+al ([nE (12,0,z7,[],([]:List Xp),dT (0,0,[],([]:List Xp)),([]:List Sx),([]:List Sx))])) 176) (cK ((cB Y.1),Y.2.1,Y.p2,Y.p3,Y.p4,Y.p5,Y.p6,Y.p7,Y.p8,(Y.q9++([nE (12,0,z7,[],([]:List Xp),dT (0,0,[],([]:List Xp)),([]:List Sx),([]:List Sx))])))))) (aE (bU Y.2)))) (1,(M.1,M.2.1.2),M.p2,M.p3,(z4,0),M.p4,M.p5,M.q6,[[97],[98]],([]:List Sx))) (aE ((M.1,M.2.1.2),M.p2,M.p3,(z4,0),M.p4,M.p5,M.q6,[[97],[98]],([]:List Sx)))) λU=>(obind (bw (3,U.p4)) λy8=>(obind (qa ((2,(bl .i64 (1+y8.1))),U.1,y8.2,U.p5)) λZ=>(bE (((U.p5.1==U.p5.1)&&ai)&&aB (al U.p5.2) (al U.p5.2)&&ai) (bE (bc (al U.q8+al Z.q3) 176) (jn (α:=yf×rO×ca×fg×fK×RL×(List rN)×ca×List Sx) (jn (α:=Bool×yf×rO×ca×fg×fK×RL×(List rN)×ca×List Sx) (be M.1 0 (obind (bw (3,Z.2.1)) λy12=>(aE ((decide ((y12.1:Int)=2)),Z.1,U.2.1,U.p2,U.p3,y12.2,Z.p2,U.p6,U.p7,(U.q8++Z.q3)))) (aE (aj,Z.1,U.2.1,U.p2,U.p3,Z.2.1,Z.p2,U.p6,U.p7,(U.q8++Z.q3)))) λI=>(bcase I.1 (kA (.str) I.p3 1 λz13=>(bE (bc (al I.q9+al ([nE (13,0,z13,[],([]:List Xp),dT (0,0,[],([]:List Xp)),([]:List Sx),([]:List Sx))])) 176) (aE (I.2.1,I.p2,I.p3,I.p4,I.p5,I.p6,I.p7,I.p8,(I.q9++([nE (13,0,z13,[],([]:List Xp),dT (0,0,[],([]:List Xp)),([]:List Sx),([]:List Sx))])))))) (aE I.2))) λJ=>(bE (bc (al J.p6+al ([(J.p3.1,J.p3.2,J.q7)])) 72) (cK ((cB M.1),J.1,J.2.1,J.p2,J.p4,J.p5,(J.p6++([(J.p3.1,J.p3.2,J.q7)])))))))))))) (obind (obind (fd (M.p2,M.q6)) λy14=>(iI y14.1 0 (obind (rT ()) λy15=>(obind (qZ 1) λy16=>(obind (jg ([120],y16)) λy17=>(af (y15,[([109,97,105,110],0,[[97],[98]],[dW y17])]))))) (af (M.p2,M.q6)))) λr=>af (bU r)))) (0,(0,20,aj,aj,aj,aj),y1,[[109,97,105,110],[116,49],[116,50],[116,51]],y2.2,(ai,([]:List (List UInt8))),([]:List rN)))))
def wW (x:List Int):Option zm:=
 (obind (oz x) λJ=>(obind (p_ J) λI=>(af I.1)))
def rU (x:(List Int)×List Int):Option (dG×List gF):=
 (obind (wW x.1) λM=>(obind (oA x.2) λJ=>(obind (yz (M,J)) λI=>(af I.1))))
def nu (x:Unit):Option dG:=
 (iter (σ:=Int×gO×gy×(List fg)×ca×ca×List (Int×Int×Int)) (λJ=>(bx J.1 (aO (al ([[109,97,105,110],[116,49],[116,50],[116,51]]))) (iter (σ:=Int×gO×gy×(List fg)×ca×ca×List (Int×Int×Int)) (λI=>(bx I.1 6 (bE (bc (al I.q6+al ([(J.1,I.1,(bl .i64 ((bl .i64 ((bl .i64 (10*J.1))+I.1))+1)))])) 24) (cK ((cB I.1),I.2.1,I.p2,I.p3,I.p4,I.p5,(I.q6++([(J.1,I.1,(bl .i64 ((bl .i64 ((bl .i64 (10*J.1))+I.1))+1)))]))))) (aE (oE ((cB J.1),I.2))))) (0,J.2)) (aE J.2))) (0,[([120],0,0,aj,0),([121],0,0,aj,1),([118],0,0,ai,0),([113],0,2,aj,0),([113],1,2,aj,0)],[([109],aj),([110],aj),([114],ai)],[([99],0)],[[102]],[[109,97,105,110],[116,49],[116,50],[116,51]],([]:List (Int×Int×Int))))
def kN (x:oR×(List Int)×(List Int)×List Int):Option (List Int):=
 (iter (σ:=Int×List Int) (λI=>(bx I.1 (aX x.1.q3) (jn (α:=List Int) (bK hX x.1.q3 I.1 λJ=>(be J.1 3 (bE (bc (al I.2+al ([I.1])) 8) (aE (I.2++([I.1])))) (aE I.2))) λM=>(cK ((cB I.1),M))) (aE I.2))) (0,([]:List Int)))
def sR (x:Unit):Option (List Int):=
 (af ([3,3,3,3,3,4,4,4,4,4,5,5,5,6,6,6,7,7,7,8,9,10,11,12,13,14,14,15,16,16,17,17,18,18,19,20,1,1,2,21,22,23,23]))
def ov (x:(Int×Int)×(List Int)×Int):Option (Int×(List Int)×Int):=
 (jn (α:=Bool×(List Int)×Int) (be x.1.1 3 (aE ((decide ((x.1.1:Int)=3)),x.2)) (aE ((decide ((x.1.1:Int)=4)),x.2))) λU=>(bcase U.1 (obind (bw (8,U.2)) λy2=>(kA aM ([0,0,0,1,1,2,3,4]) y2.1 λz3=>(af (z3,y2.2)))) (jn (α:=Bool×(List Int)×Int) (be x.1.1 6 (aE ((decide ((x.1.1:Int)=6)),U.2)) (aE ((decide ((x.1.1:Int)=7)),U.2))) λJ=>(bcase J.1 (obind (bw (2,J.2)) λy5=>(af y5)) (jn (α:=Bool×(List Int)×Int) (be x.1.1 8 (aE ((decide ((x.1.1:Int)=8)),J.2)) (be x.1.1 9 (aE ((decide ((x.1.1:Int)=9)),J.2)) (be x.1.1 10 (aE ((decide ((x.1.1:Int)=10)),J.2)) (aE ((decide ((x.1.1:Int)=11)),J.2))))) λI=>(bcase I.1 (af (2,I.2)) (jn (α:=Bool×(List Int)×Int) (be x.1.1 16 (aE ((decide ((x.1.1:Int)=16)),I.2)) (be x.1.1 17 (aE ((decide ((x.1.1:Int)=17)),I.2)) (be x.1.1 18 (aE ((decide ((x.1.1:Int)=18)),I.2)) (be x.1.1 19 (aE ((decide ((x.1.1:Int)=19)),I.2)) (be x.1.1 22 (aE ((decide ((x.1.1:Int)=22)),I.2)) (aE ((decide ((x.1.1:Int)=23)),I.2))))))) λM=>(bcase M.1 (af (0,M.2)) (jn (α:=Bool×(List Int)×Int) (be x.1.1 20 (aE ((decide ((x.1.1:Int)=20)),M.2)) (aE ((decide ((x.1.1:Int)=21)),M.2))) λY=>(bcase Y.1 (obind (bw (3,Y.2)) λZ=>(af ((zB (bl .i64 ((cB x.1.2)+Z.1)) 4),Z.2))) (af ((-1),Y.2))))))))))))
def pR (x:(ey×Int×Int)×(List Int)×Int):Option (Int×(List Int)×Int):=
 (be x.1.2.1 3 (bK aM x.1.1.2.1 x.1.2.2 λZ=>(af (Z,x.2))) (be x.1.2.1 23 (bK aM x.1.1.p2 0 λY=>(af (Y,x.2))) (jn (α:=Bool×fK×oR×(List Int)×(List Int)×List Int) (be x.1.2.1 4 (aE ((decide ((x.1.2.1:Int)=4)),x.2,x.1.1)) (aE ((decide ((x.1.2.1:Int)=22)),x.2,x.1.1))) λI=>(bcase I.1 (obind (bw (3,I.2.1)) λy4=>(af y4)) (be x.1.2.1 5 (obind (bw (2,I.2.1)) λy5=>(af y5)) (be x.1.2.1 18 (obind (kN I.2.2) λJ=>(bx 0 (aX J) (obind (bw ((aX J),I.2.1)) λM=>(bK aM J M.1 λU=>(af (U,M.2)))) (af ((-1),I.2.1)))) (be x.1.2.1 19 (obind (kN I.2.2) λy9=>(af ((aX y9),I.2.1))) (af (0,I.2.1)))))))))
def gq (x:fK×List Int):Option ((List Int)×fK×List Int):=
 (iter (σ:=Int×fK×(List Int)×List Int) (λI=>(bx I.1 (aX x.2) (jn (α:=fK×(List Int)×List Int) (kA aM I.p2 I.1 λM=>(jn (α:=Bool×fK×(List Int)×List Int) (jN (aX I.p2) (bl .i64 (I.1+3)) (obind (bw (2,I.2.1)) λU=>(aE ((decide ((U.1:Int)=1)),U.2,I.2.2))) (aE (aj,I.2))) λJ=>(bcase J.1 (bE (bc (al J.q3+al ([M])) 8) (aE (J.2.1,J.p2,(J.q3++([M]))))) (aE J.2)))) λY=>(cK ((cB I.1),Y))) (aE (I.q3,I.2.1,I.p2)))) (0,x.1,x.2,([]:List Int)))
def pU (x:(ey×gO×gy×(List fg)×ca×ca×List (Int×Int×Int))×fK×(List Int)×(List Int)×(List Int)×List Int):Option (gF×fK×(List Int)×(List Int)×(List Int)×List Int):=
 (obind (bw (4,x.2.1)) λU=>(obind (sR ()) λy2=>(obind (bw ((aX y2),U.2)) λy3=>(bK aM y2 y3.1 λz4=>(obind (bw (6,y3.2)) λy5=>(jn (α:=fK×(List Int)×(List Int)×(List Int)×(List Int)×ey×dG×vu×Int×Int×Int×Int×Int) (jn (α:=Bool×fK×(List Int)×(List Int)×(List Int)×(List Int)×ey×dG×vu×Int×Int×Int×Int×Int) (be z4 1 (aE (ai,y5.2,x.p2,x.p3,x.p4,x.q5,x.1.1,x.1.2,(0,0,0,0,0),U.1,z4,0,0,(bl .i64 ((bl .i64 (U.1*6))+y5.1)))) (aE ((decide ((z4:Int)=2)),y5.2,x.p2,x.p3,x.p4,x.q5,x.1.1,x.1.2,(0,0,0,0,0),U.1,z4,0,0,(bl .i64 ((bl .i64 (U.1*6))+y5.1))))) λY=>(bcase Y.1 (aE (Y.2.1,Y.p2,Y.p3,Y.p4,Y.p5,Y.p6,Y.p7,Y.p8,Y.p9,Y.p10,Y.p11,Y.p12,(-1))) (aE Y.2))) λM=>(obind (ov ((M.p9,U.1),M.1)) λy8=>(obind (pR ((M.p5,M.p9,y8.1),y8.2)) λy9=>(jn (α:=fK×(List Int)×(List Int)×(List Int)×(List Int)×vu×Int×Int×Int×Int×Int×List Int) (jn (α:=Bool×fK×(List Int)×(List Int)×(List Int)×(List Int)×vu×Int×Int×Int×Int×Int) (be M.p9 5 (aE (ai,y9.2,M.2.1,M.p2,M.p3,M.p4,M.p7,M.p8,M.p9,y8.1,y9.1,M.q12)) (be M.p9 3 (bK kw M.p6.1 y8.1 λz12=>(aE ((fP 0 z12.2.2.1),y9.2,M.2.1,M.p2,M.p3,M.p4,M.p7,M.p8,M.p9,y8.1,y9.1,M.q12))) (be M.p9 4 (bK kw M.p6.1 y8.1 λz13=>(aE ((fP 0 z13.2.2.1),y9.2,M.2.1,M.p2,M.p3,M.p4,M.p7,M.p8,M.p9,y8.1,y9.1,M.q12))) (aE (aj,y9.2,M.2.1,M.p2,M.p3,M.p4,M.p7,M.p8,M.p9,y8.1,y9.1,M.q12))))) λJ=>(bcase J.1 (be U.1 0 (obind (gq (J.2.1,J.p2)) λy14=>(bE (aB (al J.p2) (al y14.2.2)&&ai) (aE (y14.2.1,y14.2.2,J.p3,J.p4,J.p5,J.p6,J.p7,J.p8,J.p9,J.p10,J.q11,y14.1)))) (be U.1 1 (obind (gq (J.2.1,J.p3)) λy15=>(bE (aB (al J.p3) (al y15.2.2)&&ai) (aE (y15.2.1,J.p2,y15.2.2,J.p4,J.p5,J.p6,J.p7,J.p8,J.p9,J.p10,J.q11,y15.1)))) (be U.1 2 (obind (gq (J.2.1,J.p4)) λy16=>(bE (aB (al J.p4) (al y16.2.2)&&ai) (aE (y16.2.1,J.p2,J.p3,y16.2.2,J.p5,J.p6,J.p7,J.p8,J.p9,J.p10,J.q11,y16.1)))) (be U.1 3 (obind (gq (J.2.1,J.p5)) λy17=>(bE (aB (al J.p5) (al y17.2.2)&&ai) (aE (y17.2.1,J.p2,J.p3,J.p4,y17.2.2,J.p6,J.p7,J.p8,J.p9,J.p10,J.q11,y17.1)))) ah)))) (aE (J.2.1,J.p2,J.p3,J.p4,J.p5,J.p6,J.p7,J.p8,J.p9,J.p10,J.q11,([]:List Int))))) λx10=>(jn (α:=fK×(List Int)×(List Int)×(List Int)×(List Int)×vu×Int×Int×Int×Int×Int×(List Int)×List Int) (jn (α:=Bool×fK×(List Int)×(List Int)×(List Int)×(List Int)×vu×Int×Int×Int×Int×Int×List Int) (be x10.p7 4 (aE (ai,x10)) (aE ((decide ((x10.p7:Int)=22)),x10))) λI=>(bcase I.1 (be U.1 0 (obind (gq (I.2.1,I.p2)) λy20=>(bE (aB (al I.p2) (al y20.2.2)&&ai) (aE (y20.2.1,y20.2.2,I.p3,I.p4,I.p5,I.p6,I.p7,I.p8,I.p9,I.p10,I.p11,I.q12,y20.1)))) (be U.1 1 (obind (gq (I.2.1,I.p3)) λy21=>(bE (aB (al I.p3) (al y21.2.2)&&ai) (aE (y21.2.1,I.p2,y21.2.2,I.p4,I.p5,I.p6,I.p7,I.p8,I.p9,I.p10,I.p11,I.q12,y21.1)))) (be U.1 2 (obind (gq (I.2.1,I.p4)) λy22=>(bE (aB (al I.p4) (al y22.2.2)&&ai) (aE (y22.2.1,I.p2,I.p3,y22.2.2,I.p5,I.p6,I.p7,I.p8,I.p9,I.p10,I.p11,I.q12,y22.1)))) (be U.1 3 (obind (gq (I.2.1,I.p5)) λy23=>(bE (aB (al I.p5) (al y23.2.2)&&ai) (aE (y23.2.1,I.p2,I.p3,I.p4,y23.2.2,I.p6,I.p7,I.p8,I.p9,I.p10,I.p11,I.q12,y23.1)))) ah)))) (aE (I.2.1,I.p2,I.p3,I.p4,I.p5,I.p6,I.p7,I.p8,I.p9,I.p10,I.p11,I.q12,([]:List Int))))) λZ=>(af (Z.q6,Z.1,Z.2.1,Z.p2,Z.p3,Z.p4))))))))))))
def rQ (x:(ey×dG×Int×Bool)×(List Int)×Int):Option ((List gF)×(List Int)×Int):=
 (bE (cV 0 (aX x.1.2.1.p4)&&cV (aX x.1.2.1.p4) (aX x.1.2.1.p4)&&bc (aS (aX x.1.2.1.p4)) 24&&decide (((aX x.1.2.1.p4):Int)=4)) (jn (α:=fK×ey×dG×(List Int)×(List Int)×(List Int)×List Int) (bx 0 (aO 4) (jn (α:=fK×ey×dG×(List Int)×(List Int)×(List Int)×List Int) (jn (α:=Bool×fK×ey×dG×(List Int)×(List Int)×(List Int)×List Int) (bcase x.1.q3 (bK aM x.1.1.q3 0 λz4=>(bx 1 z4 (obind (bw (3,x.2)) λy5=>(aE ((decide ((y5.1:Int)=2)),y5.2,x.1.1,x.1.2.1,([]:List Int),([]:List Int),([]:List Int),([]:List Int)))) (aE (aj,x.2,x.1.1,x.1.2.1,([]:List Int),([]:List Int),([]:List Int),([]:List Int))))) (aE (aj,x.2,x.1.1,x.1.2.1,([]:List Int),([]:List Int),([]:List Int),([]:List Int)))) λx3=>(bcase x3.1 (bE (bc (al x3.p4+al ([1])) 8) (aE (x3.2.1,x3.p2,x3.p3,(x3.p4++([1])),x3.q5))) (aE x3.2))) λx2=>(bx 1 (aO 4) (jn (α:=fK×ey×dG×(List Int)×(List Int)×(List Int)×List Int) (jn (α:=Bool×fK×ey×dG×(List Int)×(List Int)×(List Int)×List Int) (bcase x.1.q3 (bK aM x2.2.1.q3 1 λz8=>(bx 1 z8 (obind (bw (3,x2.1)) λy9=>(aE ((decide ((y9.1:Int)=2)),y9.2,x2.2))) (aE (aj,x2)))) (aE (aj,x2))) λx7=>(bcase x7.1 (bE (bc (al x7.p5+al ([1])) 8) (aE (x7.2.1,x7.p2,x7.p3,x7.p4,(x7.p5++([1])),x7.q6))) (aE x7.2))) λx6=>(bx 2 (aO 4) (jn (α:=fK×ey×dG×(List Int)×(List Int)×(List Int)×List Int) (jn (α:=Bool×fK×ey×dG×(List Int)×(List Int)×(List Int)×List Int) (bcase x.1.q3 (bK aM x6.2.1.q3 2 λz12=>(bx 1 z12 (obind (bw (3,x6.1)) λy13=>(aE ((decide ((y13.1:Int)=2)),y13.2,x6.2))) (aE (aj,x6)))) (aE (aj,x6))) λY=>(bcase Y.1 (bE (bc (al Y.p6+al ([1])) 8) (aE (Y.2.1,Y.p2,Y.p3,Y.p4,Y.p5,(Y.p6++([1])),Y.q7))) (aE Y.2))) λx10=>(bx 3 (aO 4) (jn (α:=fK×ey×dG×(List Int)×(List Int)×(List Int)×List Int) (jn (α:=Bool×fK×ey×dG×(List Int)×(List Int)×(List Int)×List Int) (bcase x.1.q3 (bK aM x10.2.1.q3 3 λz16=>(bx 1 z16 (obind (bw (3,x10.1)) λy17=>(aE ((decide ((y17.1:Int)=2)),y17.2,x10.2))) (aE (aj,x10)))) (aE (aj,x10))) λU=>(bcase U.1 (bE (bc (al U.q7+al ([1])) 8) (aE (U.2.1,U.p2,U.p3,U.p4,U.p5,U.p6,(U.q7++([1]))))) (aE U.2))) λx14=>(bx 4 (aO 4) (jn (α:=fK×ey×dG×(List Int)×(List Int)×(List Int)×List Int) (jn (α:=Bool×fK×ey×dG×(List Int)×(List Int)×(List Int)×List Int) (bcase x.1.q3 (bK aM x14.2.1.q3 4 λz20=>(bx 1 z20 (obind (bw (3,x14.1)) λy21=>(aE ((decide ((y21.1:Int)=2)),y21.2,x14.2))) (aE (aj,x14)))) (aE (aj,x14))) λx19=>(bcase x19.1 ah (aE x19.2))) λx18=>ah) (aE x14))) (aE x10))) (aE x6))) (aE x2))) (aE (x.2,x.1.1,x.1.2.1,([]:List Int),([]:List Int),([]:List Int),([]:List Int)))) λx1=>(iter (σ:=fK×ey×dG×(List gF)×(List Int)×(List Int)×(List Int)×List Int) (λx22=>(jn (α:=Bool×fK×ey×dG×(List gF)×(List Int)×(List Int)×(List Int)×List Int) (bx (aX x22.p3) x.1.p2 (aE ((fP x22.1.2 (aX x22.1.1)),x22)) (aE (aj,x22))) λJ=>(bcase J.1 (jn (α:=fK×ey×dG×(List gF)×(List Int)×(List Int)×(List Int)×List Int) (obind (pU ((J.p2,J.p3),J.2.1,J.q5)) λM=>(bE (aB (al J.q8) (al M.q5)&&(aB (al J.p7) (al M.p4)&&(aB (al J.p6) (al M.p3)&&(aB (al J.p5) (al M.p2)&&ai)))) (obind (qR (J.p3,J.p2,M.1)) λy26=>(bcase (!y26.2) (aE (M.2.1,J.p2,J.p3,J.p4,M.2.2)) (jn (α:=fK×ey×dG×(List gF)×gF×ey×(List Int)×(List Int)×(List Int)×List Int) (jn (α:=Bool×fK×ey×dG×(List gF)×gF×ey×(List Int)×(List Int)×(List Int)×List Int) (be M.1.2.1 3 (aE (ai,M.2.1,J.p2,J.p3,J.p4,M.1,y26.1,M.2.2)) (aE ((decide ((M.1.2.1:Int)=23)),M.2.1,J.p2,J.p3,J.p4,M.1,y26.1,M.2.2))) λI=>(bcase I.1 (be I.p5.1 0 (bK aM I.p2.q3 0 λz29=>(bE (bc (al I.p7+al ([z29])) 8) (aE (I.2.1,I.p2,I.p3,I.p4,(0,I.p5.2),I.p6,(I.p7++([z29])),I.q8)))) (be I.p5.1 1 (bK aM I.p2.q3 1 λz30=>(bE (bc (al I.p8+al ([z30])) 8) (aE (I.2.1,I.p2,I.p3,I.p4,(1,I.p5.2),I.p6,I.p7,(I.p8++([z30])),I.q9)))) (be I.p5.1 2 (bK aM I.p2.q3 2 λz31=>(bE (bc (al I.p9+al ([z31])) 8) (aE (I.2.1,I.p2,I.p3,I.p4,(2,I.p5.2),I.p6,I.p7,I.p8,(I.p9++([z31])),I.q10)))) (be I.p5.1 3 (bK aM I.p2.q3 3 λz32=>(bE (bc (al I.q10+al ([z32])) 8) (aE (I.2.1,I.p2,I.p3,I.p4,(3,I.p5.2),I.p6,I.p7,I.p8,I.p9,(I.q10++([z32])))))) ah)))) (aE I.2))) λZ=>(bE (bc (al Z.p3+al ([Z.p4])) 88) (aE (Z.1,Z.p5,Z.p2,(Z.p3++([Z.p4])),Z.q6)))))))) λx24=>(cK x24)) (aE (J.p4,J.2.1))))) (x1.1,x1.2.1,x1.p2,([]:List gF),x1.q3))))
def pV (x:(List Int)×Int):Option (dG×List gF):=
 (jn (α:=List Int) (bx 600 (aX x.1) (bE (cV 0 600&&cV 600 (al x.1)) (aE (du (aS 600) x.1))) (aE x.1)) λx1=>(obind (nu ()) λy2=>(obind (mC y2) λy3=>(obind (bw (3,x1,0)) λy4=>(iter (σ:=Int×fK×dG×ey×List gF) (λJ=>(jN J.1 (bl .i64 (1+y4.1)) (bE (bc (al J.q4+al ([(0,20,J.1,0,0,([]:List Int),([]:List Int)),(J.1,1,(-1),0,(-1),([]:List Int),([]:List Int))])) 88) (cK ((cB J.1),J.2.1,J.p2,J.p3,(J.q4++([(0,20,J.1,0,0,([]:List Int),([]:List Int)),(J.1,1,(-1),0,(-1),([]:List Int),([]:List Int))]))))) (obind (iter (σ:=Int×fK×dG×ey×(List gF)×List gF) (λI=>(bx I.1 (aX J.q4) (jn (α:=fK×dG×ey×(List gF)×List gF) (kA jM I.p4 I.1 λU=>(obind (qR (I.p2,I.p3,U)) λy9=>(bcase y9.2 (bE (bc (al I.q5+al ([U])) 88) (aE (I.2.1,I.p2,y9.1,I.p4,(I.q5++([U]))))) (aE I.2)))) λx7=>(cK ((cB I.1),x7))) (obind (obind (rQ ((I.p3,I.p2,(Gh (j9 x.2 0) 60),aj),I.2.1)) λM=>(bE (bc (al I.q5+al M.1) 88) (obind (tK (I.p2,(I.q5++M.1))) λZ=>(iI Z.2 0 (obind (nu ()) λY=>(af (Y,([]:List gF)))) (af (I.p2,(I.q5++M.1))))))) λr=>af (bU r)))) (0,J.2.1,J.p2,J.p3,J.q4,([]:List gF))) λr=>af (bU r)))) (1,y4.2,y2,y3,[(0,1,(-1),0,(-1),([]:List Int),([]:List Int))]))))))
def kO (x:((List Int)×(List Int)×List Int)×Int):Option (dG×List gF):=
 (bx 0 (aX x.1.2.2) (obind (pV (x.1.2.2,x.2)) λJ=>(af J)) (bE (cV 0 (Gh (aX x.1.2.1) x.2)&&cV (Gh (aX x.1.2.1) x.2) (al x.1.2.1)) (obind (rU (x.1.1,(du (aS (Gh (aX x.1.2.1) x.2)) x.1.2.1))) λI=>(af I))))
end
end Go.Proofs.YtgijlolllojpaaaGreatDoor.AI
