/-
  Texts of the proof, part 1 of 6: what is used to prove the statement. No condition.
-/
import Derived.WalkKit
import Derived.Lib.Hide
import Derived.Deep.QuietTactic
namespace Prod
variable {A0 A1 A2 A3 A4 A5 A6 A7 A8 A9 A10 A11 A12 A13 A14 A15 A16 A17 A18 A19 A20 A21 A22 A23 A24:Type}
abbrev p2 (x:A0×A1×A2×A3):A2:=x.2.2.1
abbrev p3 (x:A0×A1×A2×A3×A4):A3:=x.2.2.2.1
abbrev q3 (x:A0×A1×A2×A3):A3:=x.2.2.2
abbrev p4 (x:A0×A1×A2×A3×A4×A5):A4:=x.2.2.2.2.1
abbrev q4 (x:A0×A1×A2×A3×A4):A4:=x.2.2.2.2
abbrev p5 (x:A0×A1×A2×A3×A4×A5×A6):A5:=x.2.2.2.2.2.1
abbrev q5 (x:A0×A1×A2×A3×A4×A5):A5:=x.2.2.2.2.2
abbrev p6 (x:A0×A1×A2×A3×A4×A5×A6×A7):A6:=x.2.2.2.2.2.2.1
abbrev q6 (x:A0×A1×A2×A3×A4×A5×A6):A6:=x.2.2.2.2.2.2
abbrev p7 (x:A0×A1×A2×A3×A4×A5×A6×A7×A8):A7:=x.2.2.2.2.2.2.2.1
abbrev q7 (x:A0×A1×A2×A3×A4×A5×A6×A7):A7:=x.2.2.2.2.2.2.2
abbrev p8 (x:A0×A1×A2×A3×A4×A5×A6×A7×A8×A9):A8:=x.2.2.2.2.2.2.2.2.1
abbrev q8 (x:A0×A1×A2×A3×A4×A5×A6×A7×A8):A8:=x.2.2.2.2.2.2.2.2
abbrev p9 (x:A0×A1×A2×A3×A4×A5×A6×A7×A8×A9×A10):A9:=x.2.2.2.2.2.2.2.2.2.1
abbrev q9 (x:A0×A1×A2×A3×A4×A5×A6×A7×A8×A9):A9:=x.2.2.2.2.2.2.2.2.2
abbrev p10 (x:A0×A1×A2×A3×A4×A5×A6×A7×A8×A9×A10×A11):A10:=x.2.2.2.2.2.2.2.2.2.2.1
abbrev q10 (x:A0×A1×A2×A3×A4×A5×A6×A7×A8×A9×A10):A10:=x.2.2.2.2.2.2.2.2.2.2
abbrev p11 (x:A0×A1×A2×A3×A4×A5×A6×A7×A8×A9×A10×A11×A12):A11:=x.2.2.2.2.2.2.2.2.2.2.2.1
abbrev q11 (x:A0×A1×A2×A3×A4×A5×A6×A7×A8×A9×A10×A11):A11:=x.2.2.2.2.2.2.2.2.2.2.2
abbrev p12 (x:A0×A1×A2×A3×A4×A5×A6×A7×A8×A9×A10×A11×A12×A13):A12:=x.2.2.2.2.2.2.2.2.2.2.2.2.1
abbrev q12 (x:A0×A1×A2×A3×A4×A5×A6×A7×A8×A9×A10×A11×A12):A12:=x.2.2.2.2.2.2.2.2.2.2.2.2
abbrev p13 (x:A0×A1×A2×A3×A4×A5×A6×A7×A8×A9×A10×A11×A12×A13×A14):A13:=x.2.2.2.2.2.2.2.2.2.2.2.2.2.1
abbrev q13 (x:A0×A1×A2×A3×A4×A5×A6×A7×A8×A9×A10×A11×A12×A13):A13:=x.2.2.2.2.2.2.2.2.2.2.2.2.2
abbrev p14 (x:A0×A1×A2×A3×A4×A5×A6×A7×A8×A9×A10×A11×A12×A13×A14×A15):A14:=x.2.2.2.2.2.2.2.2.2.2.2.2.2.2.1
abbrev p15 (x:A0×A1×A2×A3×A4×A5×A6×A7×A8×A9×A10×A11×A12×A13×A14×A15×A16):A15:=x.2.2.2.2.2.2.2.2.2.2.2.2.2.2.2.1
abbrev p16 (x:A0×A1×A2×A3×A4×A5×A6×A7×A8×A9×A10×A11×A12×A13×A14×A15×A16×A17):A16:=x.2.2.2.2.2.2.2.2.2.2.2.2.2.2.2.2.1
abbrev q16 (x:A0×A1×A2×A3×A4×A5×A6×A7×A8×A9×A10×A11×A12×A13×A14×A15×A16):A16:=x.2.2.2.2.2.2.2.2.2.2.2.2.2.2.2.2
abbrev p17 (x:A0×A1×A2×A3×A4×A5×A6×A7×A8×A9×A10×A11×A12×A13×A14×A15×A16×A17×A18):A17:=x.2.2.2.2.2.2.2.2.2.2.2.2.2.2.2.2.2.1
abbrev q17 (x:A0×A1×A2×A3×A4×A5×A6×A7×A8×A9×A10×A11×A12×A13×A14×A15×A16×A17):A17:=x.2.2.2.2.2.2.2.2.2.2.2.2.2.2.2.2.2
abbrev p18 (x:A0×A1×A2×A3×A4×A5×A6×A7×A8×A9×A10×A11×A12×A13×A14×A15×A16×A17×A18×A19):A18:=x.2.2.2.2.2.2.2.2.2.2.2.2.2.2.2.2.2.2.1
abbrev q18 (x:A0×A1×A2×A3×A4×A5×A6×A7×A8×A9×A10×A11×A12×A13×A14×A15×A16×A17×A18):A18:=x.2.2.2.2.2.2.2.2.2.2.2.2.2.2.2.2.2.2
abbrev p19 (x:A0×A1×A2×A3×A4×A5×A6×A7×A8×A9×A10×A11×A12×A13×A14×A15×A16×A17×A18×A19×A20):A19:=x.2.2.2.2.2.2.2.2.2.2.2.2.2.2.2.2.2.2.2.1
abbrev p20 (x:A0×A1×A2×A3×A4×A5×A6×A7×A8×A9×A10×A11×A12×A13×A14×A15×A16×A17×A18×A19×A20×A21):A20:=x.2.2.2.2.2.2.2.2.2.2.2.2.2.2.2.2.2.2.2.2.1
abbrev q21 (x:A0×A1×A2×A3×A4×A5×A6×A7×A8×A9×A10×A11×A12×A13×A14×A15×A16×A17×A18×A19×A20×A21):A21:=x.2.2.2.2.2.2.2.2.2.2.2.2.2.2.2.2.2.2.2.2.2
end Prod
namespace Go.Proofs.YtgijlolllojpaaaGreatDoor.AI
open Go.RowKit
set_option maxRecDepth 100000
set_option maxHeartbeats 4000000
set_option linter.unusedVariables false
set_option linter.unusedSimpArgs false
open Act renaming put→ND
open _root_.Array renaming length_toList→iC,replicate→oB
open _root_.Bool renaming true→ai,false→aj
open _root_.Int renaming ofNat→aQ,toNat→aS,tmod→Ag
open IntKind renaming wrap→oX
open _root_.List renaming length→al,replicate→aG,take→dA,length_singleton→dR,range→dT,getElem?_cons_zero→qQ
open _root_.Nat renaming beq→aC,testBit→aN,ble→eQ,blt→gk,min→iX
open Oper renaming wp→HE
open _root_.Option renaming some→af,none→ah,bind_some→aH
open Region renaming wanted→iO,binds→Ad,ready→HC
open _root_.Sum renaming inr→bW,inl→oS
open World renaming shape?→rQ,cell?→Nx
noncomputable section
abbrev aA:=@if_neg
abbrev aE:=@if_pos
abbrev aO:=@decide_eq_true
abbrev bf:=@of_decide_eq_true
abbrev bt:=@decide_eq_true_eq
abbrev bz:=@decide_eq_false
abbrev bG:=@if_true
abbrev cS:=@beq_self_eq_true
abbrev cU:=@beq_iff_eq
abbrev cV:=@absurd
abbrev c_:=@decide_false
abbrev dW:=@decide_true
abbrev eo:=@if_false
abbrev gf:=@or_false
abbrev gx:=@congrArg
abbrev Bx:=@true_and
abbrev By:=@of_decide_eq_false
abbrev ZD:=@decide_eq_decide
abbrev ak:=@Option.some.injEq
abbrev av:=@Bool.and_eq_true
abbrev aw:=@Nat.eq_of_beq_eq_true
abbrev ax:=@List.getD_eq_getElem?_getD
abbrev aB:=@List.getElem?_eq_getElem
abbrev aD:=@Prod.mk.injEq
abbrev aL:=@List.mem_singleton
abbrev a8:=@List.getElem?_map
abbrev a_:=@Nat.le_of_ble_eq_true
abbrev ba:=@List.mem_of_getElem?
abbrev bg:=@List.getElem?_eq_some_iff
abbrev bl:=@List.mem_cons
abbrev bm:=@List.length_append
abbrev bu:=@Nat.testBit_or
abbrev bA:=@List.length_take
abbrev bE:=@Nat.ble_eq_true_of_le
abbrev bJ:=@List.getElem?_append_left
abbrev bO:=@Nat.zero_add
abbrev bP:=@Nat.le_refl
abbrev bQ:=@List.mem_append
abbrev bR:=@List.getElem?_eq_none
abbrev bV:=@List.getElem?_append_right
abbrev bY:=@List.length_map
abbrev b7:=@Nat.lt_or_ge
abbrev cw:=@List.not_mem_nil
abbrev cz:=@Bool.false_eq_true
abbrev cF:=@Array.getElem?_eq_some_iff
abbrev cG:=@Nat.mul_le_mul_right
abbrev cH:=@List.getElem?_take
abbrev cI:=@Array.getElem?_toList
abbrev cO:=@List.mem_cons_of_mem
abbrev cP:=@List.map_append
abbrev cR:=@List.take_length
abbrev dk:=@Nat.le_trans
abbrev dt:=@List.mem_map
abbrev dz:=@Nat.lt_of_lt_of_le
abbrev dC:=@List.mem_cons_self
abbrev dD:=@List.ext_getElem
abbrev dN:=@Bool.and_eq_true_iff
abbrev eC:=@List.getElem?_of_mem
abbrev eD:=@Int.le_refl
abbrev eE:=@Bool.not_eq_true'
abbrev eM:=@Int.natCast_nonneg
abbrev eR:=@List.length_replicate
abbrev fe:=@List.take_of_length_le
abbrev fK:=@List.foldl_append
abbrev fM:=@List.flatMap_cons
abbrev gq:=@List.map_cons
abbrev gu:=@List.all_eq_true
abbrev gH:=@List.append_assoc
abbrev gI:=@Array.getD_eq_getD_getElem?
abbrev gO:=@List.length_eq_zero_iff
abbrev gY:=@List.mem_of_mem_take
abbrev gZ:=@List.mem_append_left
abbrev g_:=@List.getElem?_drop
abbrev hY:=@List.append_nil
abbrev ii:=@Nat.ne_of_beq_eq_false
abbrev im:=@Array.getElem?_eq_getElem
abbrev iD:=@Nat.le_succ_of_le
abbrev iJ:=@List.mem_append_right
abbrev iP:=@Option.isSome_iff_exists
abbrev iQ:=@Bool.and_self
abbrev iV:=@Option.some.inj
abbrev iW:=@Nat.succ_mul
abbrev iY:=@List.cons.injEq
abbrev iZ:=@Bool.or_eq_true
abbrev jS:=@Option.map_eq_some_iff
abbrev jT:=@List.length_range
abbrev jX:=@Nat.zero_le
abbrev ku:=@List.getElem?_toArray
abbrev kH:=@Nat.or_assoc
abbrev kK:=@List.map_take
abbrev kL:=@Bool.true_and
abbrev lj:=@List.take_append_of_le_length
abbrev lw:=@List.getElem?_replicate
abbrev md:=@List.getElem?_range
abbrev mE:=@List.length_drop
abbrev nz:=@List.mem_range
abbrev nA:=@List.getElem_range
abbrev nB:=@Bool.false_and
abbrev oV:=@List.take_succ_eq_append_getElem
abbrev oW:=@List.getElem?_set
abbrev pB:=@List.eq_of_mem_replicate
abbrev pV:=@Array.getElem?_setIfInBounds_ne
abbrev p_:=@List.map_congr_left
abbrev qa:=@List.length_take_le
abbrev qO:=@Nat.lt_succ_self
abbrev qP:=@List.getElem_map
abbrev rR:=@Nat.beq_refl
abbrev rS:=@List.drop_of_length_le
abbrev sJ:=@Nat.min_eq_left
abbrev sL:=@List.length_set
abbrev sP:=@Nat.add_assoc
abbrev s5:=@List.contains_iff_mem
abbrev tC:=@List.size_toArray
abbrev uX:=@List.mem_flatMap
abbrev uY:=@List.getElem_set
abbrev uZ:=@List.getElem_mem
abbrev u_:=@List.drop_append
abbrev vH:=@Classical.byContradiction
abbrev v7:=@List.drop_succ_cons
abbrev xg:=@Nat.not_lt_zero
abbrev yJ:=@Nat.zero_or
abbrev Ae:=@Nat.lt_succ_of_lt
abbrev Af:=@List.map_map
abbrev Bw:=@List.take_append_drop
abbrev Ch:=@Int.not_lt
abbrev Ck:=@Nat.lt_irrefl
abbrev D_:=@List.replicate_succ'
abbrev D':=@List.getElem?_mapIdx
abbrev Ea:=@List.drop_append_of_le_length
abbrev FD:=@List.sum_append
abbrev FE:=@List.mem_filter
abbrev G3:=@Int.toNat_of_nonneg
abbrev HG:=@Nat.sub_self
abbrev HH:=@Nat.mul_comm
abbrev Lc:=@Nat.eq_zero_or_pos
abbrev Lf:=@Array.ext'
abbrev Nz:=@Nat.lt_trichotomy
abbrev NA:=@Nat.add_mul
abbrev NC:=@Bool.eq_false_iff
inductive FV where
 |raw (v:Value)
 |sl (cells:List FV) (n:Nat)
 |ptr (cells:List FV) (off:Nat)
 |agg (cells:List FV)
inductive AV where
 |f (x:FV)
 |ptr (id off:Nat)
 |sl (id off n:Nat)
 |row (id sz n:Nat)
 |mp (id:Nat)
 |emp
 |anyb
 |agg (cells:List AV)
 |tup (vs:List AV)
 |clo (g:FuncId) (cap:List AV)
def FV.isCell:FV->Bool
 |.raw v=>v.oneCell'
 |.sl _ _=>ai
 |.ptr _ _=>ai
 |.agg _=>aj
def AV.isCell:AV->Bool
 |.f x=>x.isCell
 |.ptr _ _=>ai
 |.sl _ _ _=>ai
 |.row _ _ _=>ai
 |.mp _=>ai
 |.emp=>ai
 |.clo _ _=>ai
 |_=>aj
inductive nu (O:Nat->Prop) (w:World):FV->Value->Prop
 |raw (v:Value):nu O w (.raw v) v
 |nil (a:Option Addr) (c:Nat) (hc:c<=maxLen):nu O w (.sl [] 0) (.slice a 0 c)
 |sl (cells:List FV) (n c b off:Nat) (us:Nat->Value) (hn:n<=c) (hc:c<=maxLen) (hO:¬O b) (hb:b<w.heap.size)
   (hcl:∀ x∈cells,x.isCell=ai)
   (hu:∀ j,j<cells.length->w.cell? ⟨b,off+j,ah⟩=af (us j)) (hr:∀ (j:Nat) x,cells[j]? =af x->nu O w x (us j)):
   nu O w (.sl cells n) (.slice (af ⟨b,off,ah⟩) n c)
 |ptr (cells:List FV) (o b off:Nat) (us:Nat->Value) (hO:¬O b) (hb:b<w.heap.size)
   (hcl:∀ x∈cells,x.isCell=ai)
   (hu:∀ j,j<cells.length->w.cell? ⟨b,off+j,ah⟩=af (us j)) (hr:∀ (j:Nat) x,cells[j]? =af x->nu O w x (us j)):
   nu O w (.ptr cells o) (.pointer (af ⟨b,off+o,ah⟩))
 |agg (cells:List FV) (vs:List Value) (hl:vs.length=cells.length) (hcl:∀ x∈cells,x.isCell=ai)
   (hr:∀ (j:Nat) x v,cells[j]? =af x->vs[j]? =af v->nu O w x v):nu O w (.agg cells) (.agg vs.toArray)
abbrev PM:=Nat->Option Nat
inductive cM (φ:PM) (O:Nat->Prop) (w:World):AV->Value->Prop
 |f {x:FV} {v:Value} (h:nu O w x v):cM φ O w (.f x) v
 |ptr {id off b:Nat} (h:φ id=af b):cM φ O w (.ptr id off) (.pointer (af ⟨b,off,ah⟩))
 |sl {id off n c b:Nat} (h:φ id=af b) (hn:n<=c) (hc:c<=maxLen):cM φ O w (.sl id off n) (.slice (af ⟨b,off,ah⟩) n c)
 |row {id sz n c b:Nat} (h:φ id=af b) (hn:n<=c) (hc:c<=maxLen) (hs:∃ ty,w.shape? b=af (ty,c*sz)):
   cM φ O w (.row id sz n) (.slice (af ⟨b,0,ah⟩) n c)
 |emp {a:Option Addr}:cM φ O w .emp (.slice a 0 0)
 |anyb {b:Bool}:cM φ O w .anyb (.bool b)
 |mp {id b:Nat} (h:φ id=af b):cM φ O w (.mp id) (.map (af b))
 |agg {cells:List AV} {vs:List Value} (hl:vs.length=cells.length) (hcl:∀ x∈cells,x.isCell=ai)
   (hr:∀ (j:Nat) x v,cells[j]? =af x->vs[j]? =af v->cM φ O w x v):cM φ O w (.agg cells) (.agg vs.toArray)
 |tup {cells:List AV} {vs:List Value} (hl:vs.length=cells.length)
   (hr:∀ (j:Nat) x v,cells[j]? =af x->vs[j]? =af v->cM φ O w x v):cM φ O w (.tup cells) (.tuple vs.toArray)
 |clo {g:FuncId} {cells:List AV} {vs:List Value} (hl:vs.length=cells.length)
   (hr:∀ (j:Nat) x v,cells[j]? =af x->vs[j]? =af v->cM φ O w x v):cM φ O w (.clo g cells) (.func (.func g) #[] vs.toArray)
structure K6 (O:Nat->Prop) (w w':World):Prop where
 os:w'.os=w.os
 tape:w'.tape=w.tape
 output:w'.output=w.output
 size:w.heap.size<=w'.heap.size
 blk:∀ k,k<w.heap.size->¬O k->w'.heap[k]? =w.heap[k]?
 shp:∀ k,k<w.heap.size->w'.shape? k=w.shape? k
theorem K6.refl (O:Nat->Prop) (w:World):K6 O w w:=⟨rfl,rfl,rfl,bP _,λ_ _ _=>rfl,λ_ _=>rfl⟩
theorem DS {w w':World} {b:Nat} (h:w'.heap[b]? =w.heap[b]?) (o:Nat):w'.cell? ⟨b,o,ah⟩=w.cell? ⟨b,o,ah⟩:=by
 unfold Nx;rw[h]
theorem nu.ext {O O':Nat->Prop} {w w':World} (he:K6 O w w') (J:∀ k,k<w.heap.size->O' k->O k) {x:FV} {v:Value} (h:nu O w x v):nu O' w' x v:=by
 induction h with
 |raw v=>exact .raw v
 |nil a c hc=>exact .nil a c hc
 |sl cells n c b off us hn hc hO hb hcl hu hr I=>
  exact .sl cells n c b off us hn hc (λh=>hO (J b hb h)) (dz hb he.size) hcl (λj hj=>by rw[DS (he.blk b hb hO)];exact hu j hj) I
 |ptr cells o b off us hO hb hcl hu hr I=>
  exact .ptr cells o b off us (λh=>hO (J b hb h)) (dz hb he.size) hcl (λj hj=>by rw[DS (he.blk b hb hO)];exact hu j hj) I
 |agg cells vs hl hcl hr I=>exact .agg cells vs hl hcl I
theorem cM.ext {φ φ':PM} {O O':Nat->Prop} {w w':World} (hs:∀ i k,φ i=af k->φ' i=af k) (he:K6 O w w') (J:∀ k,k<w.heap.size->O' k->O k) {x:AV} {v:Value} (h:cM φ O w x v):cM φ' O' w' x v:=by
 induction h with
 |f h=>exact .f (h.ext he J)
 |ptr h=>exact .ptr (hs _ _ h)
 |sl h hn hc=>exact .sl (hs _ _ h) hn hc
 |row h hn hc hsh=>
  obtain⟨ty,hty⟩:=hsh;refine .row (hs _ _ h) hn hc ⟨ty,?_⟩;rw[he.shp _ ?_];exact hty;unfold rQ at hty;rcases b7 _ w.heap.size with hlt|hge
  .exact hlt
  .rw[Array.getElem?_eq_none hge] at hty;cases hty
 |emp=>exact .emp
 |anyb=>exact .anyb
 |mp h=>exact .mp (hs _ _ h)
 |agg hl hcl hr I=>exact .agg hl hcl I
 |tup hl hr I=>exact .tup hl I
 |clo hl hr I=>exact .clo hl I
inductive BC where
 |fz (l:List FV)
 |mx (l:List AV)
 |mp (es:List (Value×AV))
 |it (s:ByteArray) (pos:Nat)
def BC.get:BC->Nat->Option AV
 |.fz l,j=>l[j]?.map AV.f
 |.mx l,j=>l[j]?
 |_,_=>ah
def BC.len:BC->Nat
 |.fz l=>l.length
 |.mx l=>l.length
 |_=>0
def BC.isCells:BC->Bool
 |.fz _=>ai
 |.mx _=>ai
 |_=>aj
structure xc where
 ty:TypeId
 c:BC
abbrev HF:=Nat->Option xc
def own (φ:PM) (h:HF) (k:Nat):Prop:=∃ id b,h id=af b/\φ id=af k
def tot (E:Nat->Prop) (φ:PM) (h:HF) (k:Nat):Prop:=E k\/own φ h k
def vG (φ:PM) (O:Nat->Prop) (w:World) (c:BC) (arr:Array Value):Prop:=
 c.len<=arr.size/\∀ j x,c.get j=af x->x.isCell=ai/\∃ v,arr[j]? =af v/\cM φ O w x v
def jy (φ:PM) (O:Nat->Prop) (w:World) (b:xc) (o:Obj):Prop:=
 match b.c with
 |.mp es=>∃ ents clock,o= .map ents clock/\ents.toList.map (·.key)=es.map (·.1)/\∀ (j:Nat) x,es[j]? =af x->∃ m,ents[j]? =af m/\cM φ O w x.2 m.val
 |.it s p=>o= .stringIter s p
 |c=>∃ arr,o= .cells arr b.ty (0,0)/\vG φ O w c arr
def XK (φ:PM) (O:Nat->Prop) (w:World) (k:Nat) (b:xc):Prop:=∃ o,w.heap[k]? =af o/\jy φ O w b o
theorem XK.cells {φ:PM} {O:Nat->Prop} {w:World} {k:Nat} {b:xc} (h:XK φ O w k b) (hc:b.c.isCells=ai):
 ∃ arr,w.heap[k]? =af (.cells arr b.ty (0,0))/\vG φ O w b.c arr:=by
 obtain⟨o,h1,h2⟩:=h;unfold jy at h2;cases hb:b.c with
 |fz l=>rw[hb] at h2;obtain⟨arr,rfl,I⟩:=h2;exact⟨arr,h1,I⟩
 |mx l=>rw[hb] at h2;obtain⟨arr,rfl,I⟩:=h2;exact⟨arr,h1,I⟩
 |mp _=>rw[hb] at hc;cases hc
 |it _ _=>rw[hb] at hc;cases hc
theorem jy.mono {φ φ':PM} {O O':Nat->Prop} {w w':World} (hk:∀ x v,cM φ O w x v->cM φ' O' w' x v) {b:xc} {o:Obj} (h:jy φ O w b o):jy φ' O' w' b o:=by
 unfold jy at h ⊢;cases hb:b.c with
 |fz l=>rw[hb] at h;obtain⟨arr,h1,h2,J⟩:=h;exact⟨arr,h1,h2,λj x I=>by obtain⟨a,v,c,d⟩:=J j x I;exact⟨a,v,c,hk _ _ d⟩⟩
 |mx l=>rw[hb] at h;obtain⟨arr,h1,h2,J⟩:=h;exact⟨arr,h1,h2,λj x I=>by obtain⟨a,v,c,d⟩:=J j x I;exact⟨a,v,c,hk _ _ d⟩⟩
 |mp es=>rw[hb] at h;obtain⟨e,c,h1,h2,J⟩:=h;exact⟨e,c,h1,h2,λj x I=>by obtain⟨m,a,b⟩:=J j x I;exact⟨m,a,hk _ _ b⟩⟩
 |it s p=>rw[hb] at h;exact h
theorem vG.mono {φ φ':PM} {O O':Nat->Prop} {w w':World} (hk:∀ x v,cM φ O w x v->cM φ' O' w' x v) {c:BC} {arr:Array Value} (h:vG φ O w c arr):vG φ' O' w' c arr:=
 ⟨h.1,λj x I=>by obtain⟨a,v,c,d⟩:=h.2 j x I;exact⟨a,v,c,hk _ _ d⟩⟩
def uQ (l:List UInt8):FV:=.raw (.string ⟨l.toArray⟩)
def CV:List FV:=[uQ [118,97,114],uQ [118,111,108,97,116,105,108,101],uQ [109,117,116,101,120],uQ [114,119,108,111,99,107],uQ [99,111,110,100],uQ [102,117,116,117,114,101],uQ [116,104,114,101,97,100],uQ [105,102],uQ [101,108,115,101],uQ [119,104,105,108,101],uQ [108,111,99,107],uQ [114,101,97,100],uQ [119,114,105,116,101],uQ [116,114,97,110,115,97,99,116,105,111,110],uQ [97,116,111,109,105,99],uQ [119,97,105,116],uQ [110,111,116,105,102,121],uQ [110,111,116,105,102,121,97,108,108],uQ [115,112,97,119,110],uQ [106,111,105,110],uQ [115,101,116],uQ [103,101,116]]
def G (g:Nat):Option (List FV):=if g==0 then af CV else ah
structure qY (φ:PM) (E:Nat->Prop) (h:HF) (w:World):Prop where
 inj:∀ i j b b' k,h i=af b->h j=af b'->φ i=af k->φ j=af k->i=j
 at_:∀ i b,h i=af b->∃ k,φ i=af k/\¬E k/\XK φ (tot E φ h) w k b
 el:∀ k,E k->k<w.heap.size
 gl:∀ g cells,G g=af cells->nu (tot E φ h) w (.ptr cells 0) (.pointer (af ⟨g,0,ah⟩))
structure je (φ φ':PM) (h h':HF) (w w':World):Prop where
 sub:∀ i k,φ i=af k->φ' i=af k
 ext:K6 (own φ h) w w'
 own_:∀ k,k<w.heap.size->own φ' h' k->own φ h k
theorem je.refl (φ:PM) (h:HF) (w:World):je φ φ h h w w:=⟨λ_ _ h=>h,K6.refl _ _,λ_ _ h=>h⟩
theorem je.trans {φ φ' φ'':PM} {h h' h'':HF} {w w' w'':World} (m:je φ φ' h h' w w') (n:je φ' φ'' h' h'' w' w''):je φ φ'' h h'' w w'' where
 sub:=λi k e=>n.sub i k (m.sub i k e)
 ext:=⟨n.ext.os.trans m.ext.os,n.ext.tape.trans m.ext.tape,n.ext.output.trans m.ext.output,dk m.ext.size n.ext.size,
  λk hk I=>(n.ext.blk k (dz hk m.ext.size) (λh=>I (m.own_ k hk h))).trans (m.ext.blk k hk I),
  λk hk=>(n.ext.shp k (dz hk m.ext.size)).trans (m.ext.shp k hk)⟩
 own_:=λk hk h=>m.own_ k hk (n.own_ k (dz hk m.ext.size) h)
theorem K6.mono {O O':Nat->Prop} {w w':World} (h:K6 O w w') (I:∀ k,O k->O' k):K6 O' w w':=
 ⟨h.os,h.tape,h.output,h.size,λk hk hO=>h.blk k hk (λx=>hO (I k x)),h.shp⟩
theorem je.keep {φ φ':PM} {h h':HF} {w w':World} (m:je φ φ' h h' w w') {E:Nat->Prop} {x:AV} {v:Value} (r:cM φ (tot E φ h) w x v):cM φ' (tot E φ' h') w' x v:=
 r.ext m.sub (m.ext.mono λ_ h=>.inr h) λk hk I=>I.elim .inl λo=>.inr (m.own_ k hk o)
theorem je.keepF {φ φ':PM} {h h':HF} {w w':World} (m:je φ φ' h h' w w') {E:Nat->Prop} {x:FV} {v:Value} (r:nu (tot E φ h) w x v):nu (tot E φ' h') w' x v:=
 r.ext (m.ext.mono λ_ h=>.inr h) λk hk I=>I.elim .inl λo=>.inr (m.own_ k hk o)
abbrev EF:=Nat->Option AV
def Ns (φ:PM) (O:Nat->Prop) (w:World) (e:EF) (a:Act):Prop:=∀ t x,e t=af x->cM φ O w x (a.tmps.getD t undef)
def CG (e:EF) (dst:Option Nat) (x:AV):EF:=λt=>if dst=af t then af x else e t
def eX (h:HF) (wr:List Nat) (nw:HF):HF:=λi=>if i∈wr then nw i else h i
structure Bv where
 val:AV
 rd:List Nat
 wr:List Nat
 nw:HF
 N:List Nat
def gP (P:Program) (o:Oper) (e:EF) (h:HF) (f:Bv):Prop:=
 ∀ (φ:PM) (E:Nat->Prop) (h':HF) (w:World) (a:Act),(∀ i∈f.rd,h' i=h i)->(∀ i∈f.wr,h' i=h i)->
  (∀ t,.tmp t∈o.op.operands->∀ y,e t=af y->cM φ (tot E φ h') w y (a.tmps.getD t undef))->qY φ E h' w->(∀ n∈f.N,φ n=ah)->
  o.wp P a w (λa' w'=>∃ v φ',a'=a.put o.dst v/\je φ φ' h' (eX h' f.wr f.nw) w w'/\(∀ i k,φ' i=af k->φ i=af k\/i∈f.N)/\
   qY φ' E (eX h' f.wr f.nw) w'/\cM φ' (tot E φ' (eX h' f.wr f.nw)) w' f.val v) (λ_ _ _=>False)
def rT:Bv:=⟨.f (.raw undef),[],[],λ_=>ah,[]⟩
inductive KQ (P:Program) (ops:Array Oper) (o:Oper) (f:Bv) (e:EF) (h:HF):Prop
 |run (hg:o.guard=ah) (ht:gP P o e h f)
 |runG (j t:Nat) (want:Bool) (hg:o.guard=af (j,want)) (hj:(ops[j]?).bind (·.dst)=af t) (he:e t=af (.f (.raw (.bool want)))) (ht:gP P o e h f)
 |skip (j t:Nat) (want:Bool) (hg:o.guard=af (j,want)) (hj:(ops[j]?).bind (·.dst)=af t) (v:Value) (he:e t=af (.f (.raw v))) (hv:v≠ .bool want) (hf:f=rT)
inductive Ac (P:Program) (ops:Array Oper):List (Oper×Bv)->EF->HF->EF->HF->Prop
 |nil (e:EF) (h:HF):Ac P ops [] e h e h
 |cons {o:Oper} {f:Bv} {r:List (Oper×Bv)} {e e':EF} {h h':HF} (hs:KQ P ops o f e h)
   (hr:Ac P ops r (CG e o.dst f.val) (eX h f.wr f.nw) e' h'):Ac P ops ((o,f)::r) e h e' h'
def Lh (S:Nat->Bool):Nat->List (Oper×Bv)->EF->EF
 |_,[],e=>e
 |k,(o,f)::r,e=>Lh S (k+1) r (if S k then CG e o.dst f.val else e)
def Ci (S:Nat->Bool):Nat->List (Oper×Bv)->HF->HF
 |_,[],h=>h
 |k,(_,f)::r,h=>Ci S (k+1) r (if S k then eX h f.wr f.nw else h)
theorem Eh {S S':Nat->Bool} {t:Nat}:∀ (l:List (Oper×Bv)) (k:Nat) (e e':EF),e t=e' t->
 (∀ (j:Nat) o f,l[j]? =af (o,f)->o.dst=af t->S (k+j)=S' (k+j))->Lh S k l e t=Lh S' k l e' t
 |[],_,_,_,he,_=>he
 |(o,f)::r,k,e,e',he,I=>by
  simp only[Lh];refine Eh r (k+1) _ _ ?_ (λj o f hj hd=>by have:=I (j+1) o f (by simpa using hj) hd;rwa [show k+(j+1)=k+1+j from by omega] at this);by_cases hd:o.dst=af t
  .rw[show S k=S' k from by simpa using I 0 o f rfl hd];split
   .simp[CG,hd]
   .exact he
  .split<;>split<;>simp[CG,hd,he]
theorem Eg {S S':Nat->Bool} {t:Nat}:∀ (l:List (Oper×Bv)) (k:Nat) (e e':HF),e t=e' t->
 (∀ (j:Nat) o f,l[j]? =af (o,f)->t∈f.wr->S (k+j)=S' (k+j))->Ci S k l e t=Ci S' k l e' t
 |[],_,_,_,he,_=>he
 |(o,f)::r,k,e,e',he,I=>by
  simp only[Ci];refine Eg r (k+1) _ _ ?_ (λj o f hj hd=>by have:=I (j+1) o f (by simpa using hj) hd;rwa [show k+(j+1)=k+1+j from by omega] at this);by_cases hd:t∈f.wr
  .rw[show S k=S' k from by simpa using I 0 o f rfl hd];split
   .simp[eX,hd]
   .exact he
  .split<;>split<;>simp[eX,hd,he]
theorem Cu {S:Nat->Bool} {t:Nat}:∀ (l:List (Oper×Bv)) (k:Nat) (e:EF),(∀ (j:Nat) o f,l[j]? =af (o,f)->o.dst=af t->S (k+j)=aj)->Lh S k l e t=e t
 |[],_,_,_=>rfl
 |(o,f)::r,k,e,I=>by
  simp only[Lh];rw[Cu r (k+1) _ (λj o f hj hd=>by have:=I (j+1) o f (by simpa using hj) hd;rwa [show k+(j+1)=k+1+j from by omega] at this)];split
  .rename_i h;unfold CG;rw[aA];intro hd;have:=I 0 o f rfl hd;simp_all
  .rfl
theorem Ct {S:Nat->Bool} {t:Nat}:∀ (l:List (Oper×Bv)) (k:Nat) (e:HF),(∀ (j:Nat) o f,l[j]? =af (o,f)->t∈f.wr->S (k+j)=aj)->Ci S k l e t=e t
 |[],_,_,_=>rfl
 |(o,f)::r,k,e,I=>by
  simp only[Ci];rw[Ct r (k+1) _ (λj o f hj hd=>by have:=I (j+1) o f (by simpa using hj) hd;rwa [show k+(j+1)=k+1+j from by omega] at this)];split
  .rename_i h;unfold eX;rw[aA];intro hd;have:=I 0 o f rfl hd;simp_all
  .rfl
theorem P9 {S:Nat->Bool} {t:Nat}:∀ (l:List (Oper×Bv)) (k i:Nat) (e:EF) (o:Oper) (f:Bv),l[i]? =af (o,f)->o.dst=af t->S (k+i)=ai->
 (∀ (j:Nat) o' f',i<j->l[j]? =af (o',f')->o'.dst=af t->S (k+j)=aj)->Lh S k l e t=af f.val
 |[],_,_,_,_,_,h,_,_,_=>by simp at h
 |(o',f')::r,k,0,e,o,f,h,hd,I,hl=>by
  simp only[qQ,ak,aD] at h;obtain⟨rfl,rfl⟩:=h;simp only[Lh];rw[Cu r (k+1) _ (λj o f hj hd=>by have:=hl (j+1) o f (by omega) (by simpa using hj) hd;rwa [show k+(j+1)=k+1+j from by omega] at this)];simp at I;simp[I,CG,hd]
 |(o',f')::r,k,i+1,e,o,f,h,hd,I,hl=>by
  simp only[Lh];exact P9 r (k+1) i _ o f (by simpa using h) hd (by rwa [show k+1+i=k+(i+1) from by omega])
   (λj o f hij hj hd=>by have:=hl (j+1) o f (by omega) (by simpa using hj) hd;rwa [show k+(j+1)=k+1+j from by omega] at this)
theorem P5 {S:Nat->Bool} {t:Nat}:∀ (l:List (Oper×Bv)) (k i:Nat) (e:HF) (o:Oper) (f:Bv),l[i]? =af (o,f)->t∈f.wr->S (k+i)=ai->
 (∀ (j:Nat) o' f',i<j->l[j]? =af (o',f')->t∈f'.wr->S (k+j)=aj)->Ci S k l e t=f.nw t
 |[],_,_,_,_,_,h,_,_,_=>by simp at h
 |(o',f')::r,k,0,e,o,f,h,hd,I,hl=>by
  simp only[qQ,ak,aD] at h;obtain⟨rfl,rfl⟩:=h;simp only[Ci];rw[Ct r (k+1) _ (λj o f hj hd=>by have:=hl (j+1) o f (by omega) (by simpa using hj) hd;rwa [show k+(j+1)=k+1+j from by omega] at this)];simp at I;simp[I,eX,hd]
 |(o',f')::r,k,i+1,e,o,f,h,hd,I,hl=>by
  simp only[Ci];exact P5 r (k+1) i _ o f (by simpa using h) hd (by rwa [show k+1+i=k+(i+1) from by omega])
   (λj o f hij hj hd=>by have:=hl (j+1) o f (by omega) (by simpa using hj) hd;rwa [show k+(j+1)=k+1+j from by omega] at this)
theorem Ac.step {P:Program} {ops:Array Oper}:∀ {l:List (Oper×Bv)} {e e':EF} {h h':HF} (_:Ac P ops l e h e' h') (k i:Nat) (o:Oper) (f:Bv),l[i]? =af (o,f)->
 KQ P ops o f (Lh (λj=>decide (j<k+i)) k l e) (Ci (λj=>decide (j<k+i)) k l h):=by
 intro l e e' h h' hc;induction hc with
 |nil=>intro k i o f hi;simp at hi
 |@cons o1 I r e e' h h' hs hr J=>
  intro k i o f hi;cases i with
  |zero=>
   simp only[qQ,ak,aD] at hi;obtain⟨rfl,rfl⟩:=hi;have e1:Lh (λj=>decide (j<k+0)) k ((o1,I)::r) e=e:=by
    funext t;rw[Cu];intro j o f _ _;simp
   have e2:Ci (λj=>decide (j<k+0)) k ((o1,I)::r) h=h:=by
    funext t;rw[Ct];intro j o f _ _;simp
   rw[e1,e2];exact hs
  |succ i=>
   have:=J (k+1) i o f (by simpa using hi);simp only[Lh,Ci];rw[show k+(i+1)=k+1+i from by omega];simpa[show k<k+1+i from by omega] using this
theorem Ac.final {P:Program} {ops:Array Oper}:∀ {l:List (Oper×Bv)} {e e':EF} {h h':HF} (_:Ac P ops l e h e' h') (k:Nat) (S:Nat->Bool),(∀ j,j<l.length->S (k+j)=ai)->
 Lh S k l e=e'/\Ci S k l h=h':=by
 intro l e e' h h' hc;induction hc with
 |nil=>intro k S _;exact⟨rfl,rfl⟩
 |@cons o1 M r e e' h h' hs hr J=>
  intro k S I;have h0:S k=ai:=by simpa using I 0 (by simp)
  simp only[Lh,Ci,h0,bG];exact J (k+1) S (λj hj=>by have:=I (j+1) (by simpa using hj);rwa [show k+(j+1)=k+1+j from by omega] at this)
theorem PY {P:Program} {o:Oper} {a:Act} {w:World} {K K':Act->World->Prop} {Q:Exit->Act->World->Prop} (h:∀ a w,K a w->K' a w)
 (hh:o.wp P a w K (λ_ _ _=>False)):o.wp P a w K' Q:=by
 unfold HE at*
 generalize (execOp a.eval o).run P w=r at*
 cases r with
 |ok n w'=>
  cases n<;>simp only[Oper.upon] at hh ⊢<;>
   first
    |exact h _ _ hh
    |exact Calls.mono hh (λe w'' he=>by
      cases e with
      |returned v=>exact h _ _ he
      |panicked c=>exact he.elim
      |outgrown=>obtain⟨_,_,h⟩:=he;exact h.elim)
    |exact Rows.mono hh (λ_ _ he=>h _ _ he)
 |halt x w'=>cases x<;>simp only[Oper.upon] at hh ⊢<;>first|exact hh.elim|exact hh
inductive Bef (ops:Array Oper):Nat->Nat->Prop
 |one {j:Nat} {o:Oper} {e:Edge} (h:ops[j]? =af o) (he:e∈o.after) (hb:Ad .any e=ai):Bef ops j e.on
 |more {j i:Nat} {o:Oper} {e:Edge} (h:ops[j]? =af o) (he:e∈o.after) (hb:Ad .any e=ai) (hi:Bef ops e.on i):Bef ops j i
structure NIP (ops:Array Oper) (l:List (Oper×Bv)):Prop where
 edge:∀ (j:Nat) o,ops[j]? =af o->∀ e∈o.after,Ad .any e=ai->e.on<j
 pair:∀ (i j:Nat) oi fi oj fj,i<j->l[i]? =af (oi,fi)->l[j]? =af (oj,fj)->Bef ops j i\/
  (oi.apart ops oj=ai/\(∀ x∈fi.wr,x∉fj.rd/\x∉fj.wr)/\(∀ x∈fj.wr,x∉fi.rd))
 names:∀ (i j:Nat) oi fi oj fj,i<j->l[i]? =af (oi,fi)->l[j]? =af (oj,fj)->∀ n∈fi.N,n∉fj.N
def FB (ops:Array Oper) (listed:Array Bool):Prop:=∀ (j:Nat) o,ops[j]? =af o->listed.getD j aj=ai->∀ e∈o.after,Ad .any e=ai->listed.getD e.on aj=ai
theorem FB.bef {ops:Array Oper} {listed:Array Bool} (hc:FB ops listed) {j i:Nat} (h:Bef ops j i):listed.getD j aj=ai->listed.getD i aj=ai:=by
 induction h with
 |one h he hb=>intro hj;exact hc _ _ h hj _ he hb
 |more h he hb hi I=>intro hj;exact I (hc _ _ h hj _ he hb)
theorem XU {ops:Array Oper} {listed:Array Bool} (hc:FB ops listed) {j i:Nat} {o:Oper} (I:ops[j]? =af o) (hr:∀ e∈o.after,Ad .any e=ai->listed.getD e.on aj=ai) (h:Bef ops j i):listed.getD i aj=ai:=by
 cases h with
 |one h he hb=>rw[h] at I;cases I;exact hr _ he hb
 |more h he hb hi=>rw[h] at I;cases I;exact hc.bef hi (hr _ he hb)
theorem sU {listed:Array Bool} {j:Nat} (h:listed.getD j ai=aj):listed.getD j aj=aj/\j<listed.size:=by
 rcases b7 j listed.size with h1|h1
 .simp[h1] at h ⊢;exact h
 .simp[Array.getElem?_eq_none h1] at h
def StP (φ0:PM) (E:Nat->Prop) (e0:EF) (h0:HF) (w0:World) (a0:Act) (l:List (Oper×Bv)) (S:Nat->Bool) (a:Act) (w:World):Prop:=
 ∃ φ,je φ0 φ h0 (Ci S 0 l h0) w0 w/\(∀ i k,φ i=af k->φ0 i=af k\/∃ (j:Nat) (o:Oper) (f:Bv),S j=ai/\l[j]? =af (o,f)/\i∈f.N)/\
  qY φ E (Ci S 0 l h0) w/\Ns φ (tot E φ (Ci S 0 l h0)) w (Lh S 0 l e0) a/\a.defers=a0.defers/\a.tmps.size=a0.tmps.size
theorem Ir {a:Act} {dst:Option Tmp} {v:Value} {t:Nat} (hd:∀ d,dst=af d->d<a.tmps.size):(a.put dst v).tmps.getD t undef=if dst=af t then v else a.tmps.getD t undef:=by
 cases dst with
 |none=>simp[ND]
 |some d=>
  by_cases h:d=t
  .subst h;simp[ND,hd d rfl]
  .simp[ND,h,pV h]
theorem Qo {a:Act} {dst:Option Tmp} {v:Value}:(a.put dst v).tmps.size=a.tmps.size:=by cases dst<;>simp[ND]
theorem Is {a:Act} {dst:Option Tmp} {v:Value}:(a.put dst v).defers=a.defers:=by cases dst<;>rfl
theorem aa2 {P:Program} {ops:Array Oper} {l:List (Oper×Bv)} {e0 e':EF} {h0 h':HF} {φ0:PM} {E:Nat->Prop} {w0:World} {a0:Act}
 (hl:l.map (·.1)=ops.toList) (hc:Ac P ops l e0 h0 e' h') (ni:NIP ops l) (hfr:∀ (j:Nat) o f,l[j]? =af (o,f)->∀ n∈f.N,φ0 n=ah)
 (hsz:∀ (j:Nat) o,ops[j]? =af o->∀ d,o.dst=af d->d<a0.tmps.size) {listed:Array Bool} (hcl:FB ops listed) {i:Nat} (hi:i∈HC .any ops listed) {Q:Exit->Act->World->Prop} {K:Act->World->Prop}
 (hK:∀ a w,StP φ0 E e0 h0 w0 a0 l (λj=>(listed.setIfInBounds i ai).getD j aj) a w->K a w) {a:Act} {w:World} (hst:StP φ0 E e0 h0 w0 a0 l (λj=>listed.getD j aj) a w):
 wpOp P ops Q i K a w:=by
 obtain⟨hun,o,ho,hdeps⟩:=mem_ready.1 hi;obtain⟨hnf,hlt⟩:=sU hun;have hln:∀ (j:Nat) o',ops[j]? =af o'->∃ f,l[j]? =af (o',f):=λj o' h=>by
  have h1:(l.map (·.1))[j]? =af o':=by rw[hl];simpa using h
  rw[a8] at h1;cases hj:l[j]? with
  |none=>rw[hj] at h1;cases h1
  |some p=>rw[hj] at h1;obtain⟨a,b⟩:=p;simp at h1;subst h1;exact⟨b,rfl⟩
 have hnl:∀ (j:Nat) o' f,l[j]? =af (o',f)->ops[j]? =af o':=λj o' f h=>by
  have h1:(l.map (·.1))[j]? =af o':=by rw[a8,h];rfl
  rw[hl] at h1;simpa using h1
 obtain⟨f,hf⟩:=hln i o ho;have hord:∀ (j:Nat) oj fj,j≠i->l[j]? =af (oj,fj)->(listed.getD j aj=decide (j<i))\/
  (o.apart ops oj=ai\/oj.apart ops o=ai)/\(∀ x∈f.wr,x∉fj.rd/\x∉fj.wr)/\(∀ x∈fj.wr,x∉f.rd/\x∉f.wr):=by
  intro j oj fj hji hj;rcases b7 j i with h|h
  .rcases ni.pair j i oj fj o f h hj hf with hb|⟨h1,h2,h3⟩
   .left;rw[XU hcl ho hdeps hb];simp[h]
   .right;exact⟨.inr h1,λx I=>⟨h3 x I,λU=>(h2 x U).2 I⟩,λx I=>h2 x I⟩
  .have h:i<j:=by omega
   rcases ni.pair i j o f oj fj h hf hj with hb|⟨h1,h2,h3⟩
   .left;have:listed.getD j aj=aj:=by
     cases I:listed.getD j aj with
     |false=>rfl
     |true=>have:=hcl.bef hb I;rw[hnf] at this;cases this
    rw[this];simp;omega
   .right;exact⟨.inl h1,λx I=>h2 x I,λx I=>⟨h3 x I,λU=>(h2 x U).2 I⟩⟩
 have J:∀ j,(listed.setIfInBounds i ai).getD j aj=if j=i then ai else listed.getD j aj:=λj=>by
  by_cases h:i=j
  .subst h;simp[hlt]
  .rw[getD_set_ne aj h,aA (λe=>h e.symm)]
 have hlater:∀ (j:Nat) oj fj,i<j->l[j]? =af (oj,fj)->(listed.getD j aj=aj)\/((o.apart ops oj=ai\/oj.apart ops o=ai)/\(∀ x∈f.wr,x∉fj.rd/\x∉fj.wr)):=by
  intro j oj fj hij hj;rcases hord j oj fj (by omega) hj with h|⟨h1,h2,_⟩
  .left;rw[h];simp;omega
  .right;exact⟨h1,h2⟩
 have hdd:∀ {x y:Oper},(x.apart ops y=ai\/y.apart ops x=ai)->∀ d,x.dst=af d->y.dst≠af d:=by
  intro x y h d hd he;rcases h with h|h
  .exact (Oper.apart_spec h).2.1 d hd he
  .exact (Oper.apart_spec h).2.1 d he hd
 have hlook:∀ {x y:Oper},(x.apart ops y=ai\/y.apart ops x=ai)->∀ d,y.dst=af d->d∉x.looksAt ops:=by
  intro x y h d hd;rcases h with h|h
  .exact (Oper.apart_spec h).2.2 d hd
  .exact (Oper.apart_spec h).1 d hd
 have heL:∀ t,t∈o.looksAt ops->Lh (λj=>listed.getD j aj) 0 l e0 t=Lh (λj=>decide (j<0+i)) 0 l e0 t:=λt ht=>by
  refine Eh l 0 e0 e0 rfl λj oj fj hj hd=>?_
  simp only[bO];by_cases hji:j=i
  .subst hji;rw[hnf];simp
  .rcases hord j oj fj hji hj with h|⟨h,_⟩
   .exact h
   .exact cV ht (hlook h t hd)
 have hhL:∀ t,t∈f.rd\/t∈f.wr->Ci (λj=>listed.getD j aj) 0 l h0 t=Ci (λj=>decide (j<0+i)) 0 l h0 t:=λt ht=>by
  refine Eg l 0 h0 h0 rfl λj oj fj hj hd=>?_
  simp only[bO];by_cases hji:j=i
  .subst hji;rw[hnf];simp
  .rcases hord j oj fj hji hj with h|⟨_,_,h⟩
   .exact h
   .rcases ht with ht|ht
    .exact cV ht (h t hd).1
    .exact cV ht (h t hd).2
 have hE':∀ t,Lh (λj=>(listed.setIfInBounds i ai).getD j aj) 0 l e0 t=if o.dst=af t then af f.val else Lh (λj=>listed.getD j aj) 0 l e0 t:=λt=>by
  by_cases hd:o.dst=af t
  .rw[aE hd];refine P9 l 0 i e0 o f hf hd (by simp[J]) λj o' f' hij hj M=>?_
   simp only[bO,J,aA (show ¬j=i by omega)];rcases hlater j o' f' hij hj with h|⟨h,_⟩
   .exact h
   .exact cV M (hdd h t hd)
  .rw[aA hd];refine Eh l 0 e0 e0 rfl λj oj fj hj M=>?_
   simp only[bO,J];rw[aA];intro hji;subst hji;rw[hf] at hj;cases hj;exact hd M
 have Y:Ci (λj=>(listed.setIfInBounds i ai).getD j aj) 0 l h0=eX (Ci (λj=>listed.getD j aj) 0 l h0) f.wr f.nw:=by
  funext t;unfold eX;by_cases hd:t∈f.wr
  .rw[aE hd];refine P5 l 0 i h0 o f hf hd (by simp[J]) λj o' f' hij hj M=>?_
   simp only[bO,J,aA (show ¬j=i by omega)];rcases hlater j o' f' hij hj with h|⟨_,h⟩
   .exact h
   .exact cV M (h t hd).2
  .rw[aA hd];refine Eg l 0 h0 h0 rfl λj oj fj hj M=>?_
   simp only[bO,J];rw[aA];intro hji;subst hji;rw[hf] at hj;cases hj;exact hd M
 obtain⟨φ,hm,hdom,hrep,henv,hdef,hsize⟩:=hst;have hfrN:∀ n∈f.N,φ n=ah:=λn hn=>by
  cases I:φ n with
  |none=>rfl
  |some k=>
   rcases hdom n k I with h|⟨j,oj,fj,hSj,hj,hnj⟩
   .rw[hfr i o f hf n hn] at h;cases h
   .have hji:j≠i:=by intro h;subst h;exact cV hSj (by simp only[hnf];simp)
    rcases b7 j i with h|h
    .exact cV hn (ni.names j i oj fj o f h hj hf n hnj)
    .exact cV hnj (ni.names i j o f oj fj (by omega) hf hj n hn)
 have hdsz:∀ d,o.dst=af d->d<a.tmps.size:=λd hd=>by rw[hsize];exact hsz i o ho d hd
 have main:∀ (v:Value) (φ':PM) (w':World),je φ φ' (Ci (λj=>listed.getD j aj) 0 l h0) (eX (Ci (λj=>listed.getD j aj) 0 l h0) f.wr f.nw) w w'->
  (∀ i k,φ' i=af k->φ i=af k\/i∈f.N)->qY φ' E (eX (Ci (λj=>listed.getD j aj) 0 l h0) f.wr f.nw) w'->
  cM φ' (tot E φ' (eX (Ci (λj=>listed.getD j aj) 0 l h0) f.wr f.nw)) w' f.val v->K (a.put o.dst v) w':=by
  intro v φ' w' m1 d1 r1 v1;refine hK _ _ ⟨φ',?_,?_,?_,?_,?_,?_⟩
  .rw[Y];exact hm.trans m1
  .intro i' k h;rcases d1 i' k h with h|h
   .rcases hdom i' k h with h|⟨j,oj,fj,hSj,hj,hnj⟩
    .exact .inl h
    .refine .inr ⟨j,oj,fj,?_,hj,hnj⟩;show (listed.setIfInBounds i ai).getD j aj=ai;rw[J j];split
     .rfl
     .exact hSj
   .exact .inr ⟨i,o,f,(J i).trans (by simp),hf,h⟩
  .rw[Y];exact r1
  .rw[Y];intro t x I;rw[hE' t] at I;rw[Ir hdsz];by_cases hd:o.dst=af t
   .rw[aE hd] at I ⊢;cases I;exact v1
   .rw[aA hd] at I ⊢;exact m1.keep (henv t x I)
  .rw[Is];exact hdef
  .rw[Qo];exact hsize
 have hstep:=hc.step 0 i o f hf;have hrun:gP P o (Lh (λj=>decide (j<0+i)) 0 l e0) (Ci (λj=>decide (j<0+i)) 0 l h0) f->o.wp P a w K Q:=by
  intro ht;refine PY ?_ (ht φ E (Ci (λj=>listed.getD j aj) 0 l h0) w a (λt h=>hhL t (.inl h)) (λt h=>hhL t (.inr h)) ?_ hrep hfrN)
  .rintro a' w' ⟨v,φ',rfl,m1,d1,r1,v1⟩;exact main v φ' w' m1 d1 r1 v1
  .intro t ht' y hy;refine henv t y ?_;rw[heL t (gZ _ (List.mem_filterMap.2 ⟨.tmp t,by simpa using ht',rfl⟩))];exact hy
 have hyield:∀ (j t:Nat) (want b:Bool),o.guard=af (j,want)->(ops[j]?).bind (·.dst)=af t->Lh (λj=>decide (j<0+i)) 0 l e0 t=af (.f (.raw (.bool b)))->iO o (yielded ops a.tmps)=(b==want):=by
  intro j t want b hg hj he;rw[<- heL t (iJ _ (by rw[hg];simp[hj]))] at he;have h1:=henv t _ he;have h2:a.tmps.getD t undef= .bool b:=by
   generalize Z:a.tmps.getD t undef=z at h1;cases h1 with
   |f h=>cases h;rfl
  have h3:a.tmps[t]? =af (.bool b):=by
   rw[gI] at h2;cases Z:a.tmps[t]? with
   |none=>rw[Z] at h2;simp[undef] at h2
   |some z=>rw[Z] at h2;simp at h2;rw[h2]
  unfold iO yielded;rw[hg];simp[hj,h3]
 unfold wpOp;simp only[ho];cases hstep with
 |run hg ht=>
  rw[aE (by unfold iO;rw[hg])];exact .inl (hrun ht)
 |runG j t want hg hj he ht=>
  rw[aE (by rw[hyield j t want want hg hj he];simp)];exact .inl (hrun ht)
 |skip j t want hg hj v he hv hf'=>
  have hnw:iO o (yielded ops a.tmps)=aj:=by
   rw[<- heL t (iJ _ (by rw[hg];simp[hj]))] at he;have h1:=henv t _ he;have h2:a.tmps.getD t undef=v:=by
    generalize a.tmps.getD t undef=z at h1;cases h1 with
    |f h=>cases h;rfl
   unfold iO yielded;rw[hg];simp only[hj,aH];rw[gI] at h2;cases Z:a.tmps[t]? with
   |none=>simp
   |some z=>
    rw[Z] at h2;simp at h2;subst h2;cases z<;>simp at hv ⊢;exact hv
  rw[aA (by rw[hnw];simp)];subst hf';have hu:eX (Ci (λj=>listed.getD j aj) 0 l h0) rT.wr rT.nw=Ci (λj=>listed.getD j aj) 0 l h0:=by
   funext t;simp[eX,rT]
  refine main undef φ w ?_ (λ_ _ h=>.inl h) ?_ ?_
  .rw[hu];exact je.refl _ _ _
  .rw[hu];exact hrep
  .exact .f (.raw _)
theorem YF {l:List Bool}:∀ {i:Nat},l[i]? =af aj->(l.set i ai).countP id=l.countP id+1:=by
 induction l with
 |nil=>intro i h;simp at h
 |cons b l I=>
  intro i h;cases i with
  |zero=>simp at h;subst h;simp
  |succ i=>
   simp only[List.set_cons_succ,List.countP_cons];rw[I (by simpa using h)];omega
theorem Pw {l:List Bool} (h:l.length<=l.countP id):∀ (j:Nat),j<l.length->l[j]? =af ai:=by
 have h1:l.countP id=l.length:=Nat.le_antisymm List.countP_le_length h;rw[List.countP_eq_length] at h1;intro j hj;rw[aB hj];simpa using h1 _ (uZ hj)
theorem VU {ops:Array Oper} {l:List (Oper×Bv)} (J:NIP ops l) {listed:Array Bool} (hs:listed.size=ops.size) (hr:HC .any ops listed=[]):
 ∀ (n j:Nat),j<n->j<ops.size->listed.getD j aj=ai:=by
 intro n;induction n with
 |zero=>intro j h;omega
 |succ n M=>
  intro j hj hjs;cases I:listed.getD j aj with
  |true=>rfl
  |false=>
   exfalso;have hmem:j∈HC .any ops listed:=by
    refine mem_ready.2 ⟨?_,ops[j],im hjs,λe he hb=>?_⟩
    .have:j<listed.size:=by omega
     simp[this] at I ⊢;exact I
    .have h1:=J.edge j _ (im hjs) e he hb;exact M e.on (by omega) (by omega)
   rw[hr] at hmem;cases hmem
theorem Nm {P:Program} {ops:Array Oper} {l:List (Oper×Bv)} {e0 e':EF} {h0 h':HF} {φ0:PM} {E:Nat->Prop} {w0:World} {a0:Act}
 (hl:l.map (·.1)=ops.toList) (hc:Ac P ops l e0 h0 e' h') (J:NIP ops l) (hfr:∀ (j:Nat) o f,l[j]? =af (o,f)->∀ n∈f.N,φ0 n=ah)
 (hsz:∀ (j:Nat) o,ops[j]? =af o->∀ d,o.dst=af d->d<a0.tmps.size) {Q:Exit->Act->World->Prop}
 (U:∀ a w,StP φ0 E e0 h0 w0 a0 l (λ_=>ai) a w->Q .normal a w):
 ∀ (fuel:Nat) (listed:Array Bool) (a:Act) (w:World),listed.size=ops.size->FB ops listed->ops.size<=fuel+listed.toList.countP id->
  StP φ0 E e0 h0 w0 a0 l (λj=>listed.getD j aj) a w->wpAny P .any ops Q fuel listed a w:=by
 have hlen:l.length=ops.size:=by have:=gx al hl;simpa using this
 have fin:∀ (listed:Array Bool) (a:Act) (w:World),(∀ j,j<ops.size->listed.getD j aj=ai)->StP φ0 E e0 h0 w0 a0 l (λj=>listed.getD j aj) a w->Q .normal a w:=by
  intro listed a w hall hst;refine U a w ?_;have h1:=hc.final 0 (λj=>listed.getD j aj) (λj hj=>by simp only[bO];exact hall j (by omega));have h2:=hc.final 0 (λ_=>ai) (λ_ _=>rfl);unfold StP at hst ⊢;rw[h1.1,h1.2] at hst;rw[h2.1,h2.2];obtain⟨φ,m,d,r⟩:=hst;refine ⟨φ,m,λi k h=>?_,r⟩;rcases d i k h with h|⟨j,o,f,_,hj,hn⟩
  .exact .inl h
  .exact .inr ⟨j,o,f,rfl,hj,hn⟩
 intro fuel;induction fuel with
 |zero=>
  intro listed a w hs hcl hcnt hst;have hall:∀ j,j<ops.size->listed.getD j aj=ai:=λj hj=>by
   have:=Pw (l:=listed.toList) (by simp only[iC];omega) j (by simp only[iC];omega);rw[cI] at this;rw[gI,this];rfl
  refine ⟨?_,fin listed a w hall hst⟩;cases hr:HC .any ops listed with
  |nil=>rfl
  |cons i r=>
   have hi:i∈HC .any ops listed:=by rw[hr];simp
   obtain⟨hun,o,I,_⟩:=mem_ready.1 hi;have hnf:=(sU hun).1;rw[hall i (cF.1 I).1] at hnf;cases hnf
 |succ fuel M=>
  intro listed a w hs hcl hcnt hst;refine ⟨λhr=>fin listed a w (λj hj=>VU J hs hr (j+1) j (by omega) hj) hst,λi hi=>?_⟩;obtain⟨hun,o,I,hdeps⟩:=mem_ready.1 hi;obtain⟨hnf,hlt⟩:=sU hun;refine aa2 hl hc J hfr hsz hcl hi (λa' w' h=>M _ a' w' ?_ ?_ ?_ h) hst
  .simpa using hs
  .intro j oj hoj hj e he hb;by_cases hji:i=j
   .subst hji;rw[I] at hoj;cases hoj;exact getD_set_true (hdeps e he hb)
   .rw[getD_set_ne aj hji] at hj;exact getD_set_true (hcl j oj hoj hj e he hb)
  .have h1:listed.toList[i]? =af aj:=by
    rw[cI,im hlt];simp[hlt] at hnf;rw[hnf]
   rw[Array.toList_setIfInBounds,YF h1];omega
def ao9 (φ0:PM) (E:Nat->Prop) (e':EF) (h0 h':HF) (N:List Nat) (w0:World) (a0:Act) (a:Act) (w:World):Prop:=
 ∃ φ,je φ0 φ h0 h' w0 w/\(∀ i k,φ i=af k->φ0 i=af k\/i∈N)/\qY φ E h' w/\Ns φ (tot E φ h') w e' a/\a.defers=a0.defers/\a.tmps.size=a0.tmps.size
theorem je.drew {φ:PM} {h:HF} (w:World):je φ φ h h w {w with drawn:=w.drawn+1}:=
 ⟨λ_ _ h=>h,⟨rfl,rfl,rfl,bP _,λ_ _ _=>rfl,λ_ _=>rfl⟩,λ_ _ h=>h⟩
theorem qY.moved {φ:PM} {E:Nat->Prop} {h:HF} {w w':World} (r:qY φ E h w) (m:je φ φ h h w w') (hk:∀ k,own φ h k->w'.heap[k]? =w.heap[k]?):qY φ E h w':=
 ⟨r.inj,λi b hb=>by
   obtain⟨k,h1,h2,o,J,I⟩:=r.at_ i b hb;exact⟨k,h1,h2,o,by rw[hk k ⟨i,b,hb,h1⟩];exact J,I.mono λ_ _ h=>m.keep h⟩,λk hk=>dz (r.el k hk) m.ext.size,
   λg cells hg=>m.keepF (r.gl g cells hg)⟩
theorem Qm {P:Program} {ops:Array Oper} {l:List (Oper×Bv)} {e0 e':EF} {h0 h':HF} {φ0:PM} {E:Nat->Prop} {w0:World} {a0:Act} {id:Nat} {draw:Bool}
 (hm:P.follows .mixedOrders=ai) (hl:l.map (·.1)=ops.toList) (hc:Ac P ops l e0 h0 e' h') (I:NIP ops l) (hfr:∀ n∈l.flatMap (λp=>p.2.N),φ0 n=ah)
 (hsz:∀ (j:Nat) o,ops[j]? =af o->∀ d,o.dst=af d->d<a0.tmps.size) (hrep:qY φ0 E h0 w0) (henv:Ns φ0 (tot E φ0 h0) w0 e0 a0) {Q:Exit->Act->World->Prop}
 (Y:∀ a w,ao9 φ0 E e' h0 h' (l.flatMap (λp=>p.2.N)) w0 a0 a w->Q .normal a w):(Code.region id ops draw).wp P Q a0 w0:=by
 have hfr':∀ (j:Nat) o f,l[j]? =af (o,f)->∀ n∈f.N,φ0 n=ah:=λj o f hj n hn=>hfr n (uX.2 ⟨(o,f),ba hj,hn⟩)
 have fin:∀ a w,StP φ0 E e0 h0 w0 a0 l (λ_=>ai) a w->Q .normal a w:=by
  rintro a w ⟨φ,m,d,r,en,Z,sz⟩;have h2:=hc.final 0 (λ_=>ai) (λ_ _=>rfl);rw[h2.2] at m r en;rw[h2.1] at en;refine Y a w ⟨φ,m,λi k h=>?_,r,en,Z,sz⟩;rcases d i k h with h|⟨j,o,f,_,hj,hn⟩
  .exact .inl h
  .exact .inr (uX.2 ⟨(o,f),ba hj,hn⟩)
 have st0:∀ (w:World),je φ0 φ0 h0 h0 w0 w->qY φ0 E h0 w->StP φ0 E e0 h0 w0 a0 l (λj=>(oB ops.size aj).getD j aj) a0 w:=by
  intro w m r;have e1:(λj=>(oB ops.size aj).getD j aj)=λ_=>aj:=by
   funext j;rw[gI,Array.getElem?_replicate];split<;>rfl
  rw[e1];have e2:Lh (λ_=>aj) 0 l e0=e0:=by funext t;rw[Cu];intros;rfl
  have e3:Ci (λ_=>aj) 0 l h0=h0:=by funext t;rw[Ct];intros;rfl
  refine ⟨φ0,by rw[e3];exact m,λ_ _ h=>.inl h,by rw[e3];exact r,?_,rfl,rfl⟩;rw[e2,e3];exact λt x U=>m.keep (henv t x U)
 have cl0:FB ops (oB ops.size aj):=by
  intro j o ho hj;rw[gI,Array.getElem?_replicate] at hj;split at hj<;>simp at hj
 cases draw with
 |true=>
  refine wp_region_any hm ?_;exact Nm hl hc I hfr' hsz fin ops.size _ a0 _ (by simp) cl0 (by omega) (st0 _ (je.drew w0) (hrep.moved (je.drew w0) λ_ _=>rfl))
 |false=>
  have hany:=Nm (E:=E) (w0:=w0) hl hc I hfr' hsz fin ops.size _ a0 w0 (by simp) cl0 (by omega) (st0 _ (je.refl _ _ _) hrep);refine wp_region ?_;have key:∀ (m k:Nat) (listed:Array Bool) (a:Act) (w:World),k+m=ops.size->listed.size=ops.size->(∀ j,j<k->listed.getD j aj=ai)->(∀ j,k<=j->j<ops.size->listed.getD j ai=aj)->
   wpAny P .any ops Q m listed a w->wpOps P ops Q (List.range' k m) a w:=by
   intro m;induction m with
   |zero=>intro k listed a w hk hs h1 h2 h;simpa[wpOps] using h.2
   |succ m M=>
    intro k listed a w hk hs h1 h2 h;rw[List.range'_succ,wpOps_cons];have hkr:k∈HC .any ops listed:=by
     refine mem_ready.2 ⟨h2 k (bP _) (by omega),ops[k]'(by omega),im (by omega),λe he hb=>?_⟩;exact h1 _ (I.edge k _ (im (by omega)) e he hb)
    refine wpOp_mono (λa' w' h'=>M (k+1) (listed.setIfInBounds k ai) a' w' (by omega) (by simpa using hs) ?_ ?_ h') (h.2 k hkr)
    .intro j hj;by_cases hjk:k=j
     .subst hjk;simp[show k<listed.size by omega]
     .rw[getD_set_ne aj hjk];exact h1 j (by omega)
    .intro j hj J;rw[getD_set_ne ai (by omega)];exact h2 j (by omega) J
  have:=key ops.size 0 (oB ops.size aj) a0 w0 (by omega) (by simp) (by intro j hj;omega) (by
   intro j _ hj;rw[gI,Array.getElem?_replicate,aE hj];rfl) hany
  rwa [List.range_eq_range']
inductive PT (α:Type) where
 |leaf
 |node (v:Option α) (l r:PT α)
namespace PT
variable {α:Type}
def get:PT α->Nat->Option α
 |leaf,_=>ah
 |node v l r,n=>match n with
  |0=>v
  |m+1=>if aC (m%2) 0 then get l (m/2) else get r (m/2)
def NY:Nat->PT α->Nat->Option α->PT α
 |0,t,_,_=>t
 |k+1,t,n,x=>match t with
  |leaf=>(match n with
   |0=>node x leaf leaf
   |m+1=>if aC (m%2) 0 then node ah (NY k leaf (m/2) x) leaf else node ah leaf (NY k leaf (m/2) x))
  |node v l r=>(match n with
   |0=>node x l r
   |m+1=>if aC (m%2) 0 then node v (NY k l (m/2) x) r else node v l (NY k r (m/2) x))
def set (t:PT α) (n:Nat) (x:Option α):PT α:=NY (n+1) t n x
theorem zu:∀ (k:Nat) (t:PT α) (n:Nat) (x:Option α),n<k->∀ i,(NY k t n x).get i=if i=n then x else t.get i
 |0,_,_,_,h,_=>cV h (xg _)
 |k+1,t,n,x,h,i=>by
  cases n with
  |zero=>
   cases t<;>cases i<;>simp[NY,get]
  |succ m=>
   have hm:m/2<k:=by have:=Nat.div_le_self m 2;omega
   cases t with
   |leaf=>
    simp only[NY];cases hb:aC (m%2) 0 with
    |true=>
     have J:m%2=0:=aw hb;simp only[bG];cases i with
     |zero=>simp[get]
     |succ j=>
      simp only[get];cases hj:aC (j%2) 0 with
      |true=>
       have I:j%2=0:=aw hj;simp only[bG];rw[zu k _ _ _ hm];by_cases he:j/2=m/2
       .rw[aE he,aE (by omega)]
       .rw[aA he,aA (by omega)];rfl
      |false=>
       have I:¬j%2=0:=ii hj;simp only[cz,eo];rw[aA (by omega)]
    |false=>
     have J:¬m%2=0:=ii hb;simp only[cz,eo];cases i with
     |zero=>simp[get]
     |succ j=>
      simp only[get];cases hj:aC (j%2) 0 with
      |true=>
       have I:j%2=0:=aw hj;simp only[bG];rw[aA (by omega)]
      |false=>
       have I:¬j%2=0:=ii hj;simp only[cz,eo];rw[zu k _ _ _ hm];by_cases he:j/2=m/2
       .rw[aE he,aE (by omega)]
       .rw[aA he,aA (by omega)];rfl
   |node v l r=>
    simp only[NY];cases hb:aC (m%2) 0 with
    |true=>
     have J:m%2=0:=aw hb;simp only[bG];cases i with
     |zero=>simp[get]
     |succ j=>
      simp only[get];cases hj:aC (j%2) 0 with
      |true=>
       have I:j%2=0:=aw hj;simp only[bG];rw[zu k _ _ _ hm];by_cases he:j/2=m/2
       .rw[aE he,aE (by omega)]
       .rw[aA he,aA (by omega)]
      |false=>
       have I:¬j%2=0:=ii hj;simp only[cz,eo];rw[aA (by omega)]
    |false=>
     have J:¬m%2=0:=ii hb;simp only[cz,eo];cases i with
     |zero=>simp[get]
     |succ j=>
      simp only[get];cases hj:aC (j%2) 0 with
      |true=>
       have I:j%2=0:=aw hj;simp only[bG];rw[aA (by omega)]
      |false=>
       have I:¬j%2=0:=ii hj;simp only[cz,eo];rw[zu k _ _ _ hm];by_cases he:j/2=m/2
       .rw[aE he,aE (by omega)]
       .rw[aA he,aA (by omega)]
theorem get_set (t:PT α) (n:Nat) (x:Option α) (i:Nat):(t.set n x).get i=if i=n then x else t.get i:=zu (n+1) t n x (by omega) i
def mask {β:Type}:PT α->PT β->PT α
 |leaf,_=>leaf
 |node _ _ _,leaf=>leaf
 |node v l r,node u J I=>node (match u with|some _=>v|none=>ah) (mask l J) (mask r I)
def mk:Option α->PT α->PT α->PT α
 |none,leaf,leaf=>leaf
 |v,l,r=>node v l r
def only (m:Nat):Nat->Nat->PT α->PT α
 |_,_,leaf=>leaf
 |a,b,node v l r=>mk (if aN m b then v else ah) (only m (2*a) (a+b) l) (only m (2*a) (2*a+b) r)
def exc (m:Nat):Nat->Nat->PT α->PT α
 |_,_,leaf=>leaf
 |a,b,node v l r=>mk (if aN m b then ah else v) (exc m (2*a) (a+b) l) (exc m (2*a) (2*a+b) r)
def merge (m:Nat):Nat->Nat->PT α->PT α->PT α
 |a,b,leaf,t=>only m a b t
 |a,b,node v l r,leaf=>exc m a b (node v l r)
 |a,b,node v l r,node I M J=>mk (if aN m b then I else v) (merge m (2*a) (a+b) l M) (merge m (2*a) (2*a+b) r J)
def all (p:Nat->α->Bool):Nat->Nat->PT α->Bool
 |_,_,leaf=>ai
 |a,b,node v l r=>(match v with|some x=>p b x|none=>ai)&&all p (2*a) (a+b) l&&all p (2*a) (2*a+b) r
theorem get_all (p:Nat->α->Bool):∀ (t:PT α) (a b i:Nat) (x:α),all p a b t=ai->t.get i=af x->p (a*i+b) x=ai
 |leaf,_,_,_,_,_,h=>by simp[get] at h
 |node v l r,a,b,0,x,h,I=>by
  simp only[get] at I;subst I;simp only[all,av] at h;rw[Nat.mul_zero,bO];exact h.1.1
 |node v l r,a,b,j+1,x,h,I=>by
  simp only[all,av] at h;simp only[get] at I;cases hj:aC (j%2) 0 with
  |true=>
   have J:j%2=0:=aw hj;simp only[hj,bG] at I;have key:=get_all p l _ _ _ x h.1.2 I;have:2*a*(j/2)+(a+b)=a*(j+1)+b:=by
    have e:j=2*(j/2):=by omega
    calc 2*a*(j/2)+(a+b)=a*(2*(j/2))+a+b:=by rw[HH 2 a,Nat.mul_assoc];omega
     _=a*(j+1)+b:=by rw[<- e,Nat.mul_add];omega
   rw[this] at key;exact key
  |false=>
   have J:¬j%2=0:=ii hj;simp only[hj,cz,eo] at I;have key:=get_all p r _ _ _ x h.2 I;have:2*a*(j/2)+(2*a+b)=a*(j+1)+b:=by
    have e:j=2*(j/2)+1:=by omega
    have h2:a*(j+1)=a*(2*(j/2))+2*a:=by
     calc a*(j+1)=a*(2*(j/2)+2):=by rw[show j+1=2*(j/2)+2 from by omega]
      _=a*(2*(j/2))+2*a:=by rw[Nat.mul_add];omega
    have M:2*a*(j/2)=a*(2*(j/2)):=by rw[HH 2 a,Nat.mul_assoc]
    omega
   rw[this] at key;exact key
def dom:Nat->Nat->PT α->Nat->Nat
 |_,_,leaf,acc=>acc
 |a,b,node v l r,acc=>dom (2*a) (a+b) l (dom (2*a) (2*a+b) r (match v with|some _=>acc|||(1<<<b)|none=>acc))
def emp:PT α:=leaf
end PT
abbrev Ab:=PT AV
abbrev oc:=PT xc
abbrev NW:=List (Nat×xc)
def Ab.put (e:Ab):Option Nat->AV->Ab
 |none,_=>e
 |some d,x=>e.set d (af x)
def ji:NW->HF
 |[],_=>ah
 |(s,x)::r,t=>if aC s t then af x else ji r t
theorem Z6 (e:Ab) (d:Option Nat) (x:AV):CG e.get d x=(e.put d x).get:=by
 funext t;cases d with
 |none=>simp[CG,Ab.put]
 |some d=>
  simp only[CG,Ab.put,PT.get_set,ak];by_cases h:d=t
  .simp[h]
  .rw[aA h,aA (λe=>h e.symm)]
def H5 (acc:List Nat) (s:Nat) (e:Edge):Nat:=if Ad .any e then (s|||2^e.on)|||acc.getD e.on 0 else s
def KE:List Oper->List Nat->List Nat
 |[],acc=>acc
 |o::r,acc=>KE r (acc++[o.after.toList.foldl (H5 acc) 0])
theorem KF {ops:Array Oper} {o:Oper} {k:Nat} {acc:List Nat} (J:ops[k]? =af o) (M:∀ (j:Nat) B,acc[j]? =af B->∀ i,B.testBit i=ai->Bef ops j i):
 ∀ (es:List Edge) (s:Nat),(∀ e∈es,e∈o.after)->(∀ i,s.testBit i=ai->Bef ops k i)->∀ i,(es.foldl (H5 acc) s).testBit i=ai->Bef ops k i
 |[],s,_,hs,i,hi=>hs i hi
 |e::r,s,he,hs,i,hi=>by
  refine KF J M r (H5 acc s e) (λe' h'=>he e' (cO _ h')) (λi hi=>?_) i hi;unfold H5 at hi;split at hi
  .rename_i hb;rw[bu,bu,iZ,iZ] at hi;rcases hi with (hi|hi)|hi
   .exact hs i hi
   .rw[Nat.testBit_two_pow] at hi;have:e.on=i:=by simpa using hi
    subst this;exact .one J (he e (dC ..)) hb
   .refine .more J (he e (dC ..)) hb ?_;rw[ax] at hi;cases I:acc[e.on]? with
    |none=>rw[I] at hi;simp at hi
    |some C=>rw[I] at hi;exact M _ C I i hi
  .exact hs i hi
theorem Nl {ops:Array Oper}:∀ (rest:List Oper) (acc:List Nat),(∀ (j:Nat),∀ o,rest[j]? =af o->ops[acc.length+j]? =af o)->
 (∀ (j:Nat) B,acc[j]? =af B->∀ i,B.testBit i=ai->Bef ops j i)->∀ (j:Nat) B,(KE rest acc)[j]? =af B->∀ i,B.testBit i=ai->Bef ops j i
 |[],acc,_,I=>I
 |o::r,acc,J,I=>by
  refine Nl r _ (λj o' hj=>?_) ?_
  .rw[bm,dR,show acc.length+1+j=acc.length+(j+1) from by omega];exact J (j+1) o' (by simpa using hj)
  .intro j B hj i hi;rcases b7 j acc.length with h|h
   .rw[bJ h] at hj;exact I j B hj i hi
   .rw[bV h] at hj;have M:j-acc.length=0:=by
     rcases Lc (j-acc.length) with h0|h0
     .exact h0
     .rw[bR (by simp;omega)] at hj;cases hj
    have hjl:j=acc.length:=by omega
    subst hjl;simp at hj;subst hj;have hoo:ops[acc.length]? =af o:=by simpa using J 0 o rfl
    rw[<- Array.foldl_toList] at hi;exact KF hoo I _ 0 (λe he=>by simpa using he) (λi hi=>by simp at hi) i hi
inductive Y_ where
 |mv (x:Operand)
 |pick (c a b:Operand)
 |alloc (ty:TypeId) (z:List Value)
 |box (ty:TypeId) (x:Operand)
 |build (z:List Value) (parts:List (Nat×Nat×Operand))
 |bsl (ty:TypeId) (sz len:Nat) (z:List Value) (parts:List (Nat×Nat×Operand))
 |load (sz:Nat) (ag:Bool) (x:Operand)
 |store (sz:Nat) (x v:Operand)
 |nilc (x:Operand)
 |bin (op:BinOp) (x y:Operand)
 |eqs (neg:Bool) (ds:List TypeDesc) (x y:Operand)
 |isnil (neg:Bool) (x:Operand)
 |eqb (neg:Bool) (x y:Operand)
 |not (x:Operand)
 |conv (k:IntKind) (x:Operand)
 |mksl (ty:TypeId) (sz bytes:Nat) (z:List Value) (l c:Operand)
 |slc (sz:Nat) (x:Operand) (lo hi mx:Option Operand)
 |fad (off:Nat) (x:Operand)
 |fld (off sz:Nat) (ag:Bool) (x:Operand)
 |iad (sz:Nat) (x i:Operand)
 |iada (n sz:Nat) (x i:Operand)
 |idx (n sz:Nat) (ag:Bool) (x i:Operand)
 |ext (x:Operand) (i:Nat)
 |len (x:Operand)
 |lens (x:Operand)
 |lenm (x:Operand)
 |max (x y:Operand)
 |min (x y:Operand)
 |sidx (x i:Operand)
 |app (ty:TypeId) (sz bytes:Nat) (s x:Operand)
 |copy (sz:Nat) (d x:Operand)
 |clr (sz:Nat) (z:List Value) (x:Operand)
 |mkf (f:FuncId) (caps:List Operand)
 |mkm
 |lku (str ok:Bool) (z:Value) (x k:Operand)
 |mup (str:Bool) (x k v:Operand)
 |rng (x:Operand)
 |nxt (x:Operand)
 |bad
inductive SI where
 |op (s:Y_)
 |call (f:FuncId) (args:List Operand)
 |callv (x:Operand) (args:List Operand)
def X2 (t:Nat):List Nat->Bool
 |[]=>aj
 |x::r=>aC x t||X2 t r
def Kz:List Value->Bool
 |[]=>ai
 |v::r=>v.oneCell'&&Kz r
def Fl:Value->AV
 |.agg vs=>if Kz vs.toList then .agg (vs.toList.map λv=>.f (.raw v)) else .f (.raw (.agg vs))
 |v=>.f (.raw v)
def mF (e:Ab):Operand->Option AV
 |.tmp t=>e.get t
 |.const v=>af (Fl v)
 |.func g=>af (.clo g [])
 |.global g=>match G g with|some cells=>af (.f (.ptr cells 0))|none=>ah
def W7 (e:Ab):List Operand->Option (List AV)
 |[]=>af []
 |x::xs=>match mF e x with|some y=>(match W7 e xs with|some I=>af (y::I)|none=>ah)|none=>ah
structure Ce where
 val:AV
 rd:List Nat
 wr:List Nat
 nw:NW
 N:List Nat
def Ce.eff (r:Ce):Bv:=⟨r.val,r.rd,r.wr,ji r.nw,r.N⟩
def rv (x:AV):Option Ce:=af ⟨x,[],[],[],[]⟩
def raw (v:Value):AV:=.f (.raw v)
def pkV (ok:Bool) (v:AV) (b:Bool):AV:=match ok with|true=>.tup [v,raw (.bool b)]|false=>v
def xX:List AV->Option (List FV)
 |[]=>af []
 |.f x::r=>match xX r with|some l=>af (x::l)|none=>ah
 |_::_=>ah
def pu (l:List AV):BC:=match xX l with|some fs=>.fz fs|none=>.mx l
def MF (l:List AV):AV:=match xX l with|some fs=>.f (.agg fs)|none=>.agg l
def splice {α:Type} (l:List α) (off:Nat) (vs:List α):List α:=l.take off++vs++l.drop (off+vs.length)
def BC.toMx:BC->List AV
 |.fz l=>l.map .f
 |.mx l=>l
 |_=>[]
def gK:List AV->Bool
 |[]=>ai
 |x::r=>x.isCell&&gK r
def BC.put (c:BC) (off:Nat) (vs:List AV):Option BC:=
 if c.isCells&&eQ (off+vs.length) c.len&&gK vs then
  match c,xX vs with
  |.fz l,af I=>af (.fz (splice l off I))
  |c,_=>af (.mx (splice c.toMx off vs))
 else ah
def BC.sub? (c:BC) (off sz:Nat):Bool->Option AV
 |false=>match sz with|1=>c.get off|_=>ah
 |true=>match c with
  |.fz l=>if eQ (off+sz) l.length then af (.f (.agg ((l.drop off).take sz))) else ah
  |.mx l=>if eQ (off+sz) l.length then af (.agg ((l.drop off).take sz)) else ah
  |_=>ah
def AV.cs:AV->List AV
 |.agg l=>l
 |.f (.agg l)=>l.map .f
 |x=>[x]
def DX (h:oc) (sz:Nat) (ag:Bool):AV->Option Ce
 |.ptr id off=>match h.get id with
  |some b=>(match b.c.sub? off sz ag with|some v=>af ⟨v,[id],[],[],[]⟩|none=>ah)
  |none=>ah
 |.f (.ptr cells off)=>(match (BC.fz cells).sub? off sz ag with|some v=>rv v|none=>ah)
 |_=>ah
def KH (h:oc) (sz:Nat) (v:AV):AV->Option Ce
 |.ptr id off=>match h.get id with
  |some b=>if v.cs.length==sz then (match b.c.put off v.cs with|some c=>af ⟨raw undef,[id],[id],[(id,⟨b.ty,c⟩)],[]⟩|none=>ah) else ah
  |none=>ah
 |_=>ah
def zD (cells:List AV) (e:Ab):List (Nat×Nat×Operand)->Option (List AV)
 |[]=>af cells
 |(off,sz,x)::r=>match mF e x with
  |some v=>if v.cs.length==sz&&eQ (off+sz) cells.length&&gK v.cs then zD (splice cells off v.cs) e r else ah
  |none=>ah
def cY (a b:Int):Bool:=decide (a<=b)
def fX (a b:Int):Bool:=decide (a<b)
def Mn (k:IntKind) (n:Int):Int:=
 match k with
 |.i64=>if cY (-9223372036854775808) n&&cY n 9223372036854775807 then n else oX .i64 n
 |.u8=>if cY 0 n&&cY n 255 then n else oX .u8 n
 |k=>oX k n
def nok:Int->Bool
 |.ofNat k=>aC k k
 |.negSucc k=>aC k k
theorem ali (n:Int):nok n=ai:=by cases n<;>exact rR _
def bn (k:IntKind) (n:Int):Int:=bif nok n then Mn k n else 0
theorem HI (k:IntKind) (n:Int):bn k n=Mn k n:=by unfold bn;rw[ali];rfl
def r9 (a b:ByteArray):Bool:=a.data.toList==b.data.toList
def uS (op:BinOp):Value->Value->Option Value
 |.int k a,.int k' b=>if k==k' then
   match op with
   |.add=>af (.int k (bn k (a+b)))
   |.sub=>af (.int k (bn k (a-b)))
   |.mul=>af (.int k (bn k (a*b)))
   |.rem=>if b==0 then ah else af (.int k (a.tmod b))
   |.quo=>if b==0 then ah else af (.int k (bn k (a.tdiv b)))
   |.eql=>af (.bool (a==b))
   |.neq=>af (.bool (a !=b))
   |.lss=>af (.bool (fX a b))
   |.leq=>af (.bool (cY a b))
   |.gtr=>af (.bool (fX b a))
   |.geq=>af (.bool (cY b a))
   |_=>ah
  else ah
 |.string a,.string b=>match op with
   |.eql=>af (.bool (r9 a b))
   |.neq=>af (.bool !(r9 a b))
   |_=>ah
 |_,_=>ah
def xN:TypeDesc->FV->FV->Option Bool
 |.int _,.raw (.int k a),.raw (.int k' b)=>if k==k' then af (a==b) else ah
 |.bool,.raw (.bool a),.raw (.bool b)=>af (a==b)
 |.string,.raw (.string a),.raw (.string b)=>af (r9 a b)
 |_,_,_=>ah
def o9:List TypeDesc->List FV->List FV->Option Bool
 |[],[],[]=>af ai
 |d::ds,x::xs,y::I=>match xN d x y with
  |some ai=>o9 ds xs I
  |some aj=>af aj
  |none=>ah
 |_,_,_=>ah
def AV.row? (h:oc) (sz:Nat):AV->Option (List AV×Nat×List Nat)
 |.f (.sl cells n)=>if eQ (n*sz) cells.length then af ((cells.take (n*sz)).map .f,n,[]) else ah
 |.f (.raw (.slice ah 0 0))=>af ([],0,[])
 |.emp=>af ([],0,[])
 |.row id sz' n=>if sz'==sz then (match h.get id with|some b=>if b.c.isCells&&eQ (n*sz) b.c.len then af (b.c.toMx.take (n*sz),n,[id]) else ah|none=>ah) else ah
 |.sl id off n=>match h.get id with|some b=>if b.c.isCells&&eQ (off+n*sz) b.c.len then af ((b.c.toMx.drop off).take (n*sz),n,[id]) else ah|none=>ah
 |_=>ah
def AV.slen:AV->Option Nat
 |.f (.sl _ n)=>af n
 |.f (.raw (.slice _ n _))=>af n
 |.emp=>af 0
 |.row _ _ n=>af n
 |.sl _ _ n=>af n
 |_=>ah
def bc (n bytes:Nat):Bool:=eQ n 1099511627776&&eQ (n*bytes) 1099511627776
def repl (z:List Value):Nat->List FV
 |0=>[]
 |n+1=>z.map .raw++repl z n
def An:Value->Bool
 |.slice ah 0 0=>ai
 |_=>aj
def IY:AV->Bool
 |.emp=>ai
 |.f (.raw v)=>An v
 |_=>aj
def tI (k:Value):List (Value×AV)->Option (Option AV)
 |[]=>af ah
 |(k',v)::r=>match uS .eql k k' with
  |some (.bool ai)=>af (af v)
  |some (.bool aj)=>tI k r
  |_=>ah
def zf (k:Value) (v:AV):List (Value×AV)->Option (List (Value×AV))
 |[]=>af [(k,v)]
 |(k',I)::r=>match uS .eql k k' with
  |some (.bool ai)=>af ((k,v)::r)
  |some (.bool aj)=>(match zf k v r with|some J=>af ((k',I)::J)|none=>ah)
  |_=>ah
def zh:Bool->Value->Bool
 |false,.int _ _=>ai
 |true,.string _=>ai
 |_,_=>aj
def eU (s:Y_) (e:Ab) (h:oc) (nx:Nat):Option Ce:=
 match s with
 |.mv x=>match mF e x with|some v=>rv v|none=>ah
 |.pick c a b=>match mF e c with
  |some (.f (.raw (.bool t)))=>(match mF e (if t then a else b) with|some v=>rv v|none=>ah)
  |_=>ah
 |.alloc ty z=>af ⟨.ptr nx 0,[],[nx],[(nx,⟨ty,.fz (z.map .raw)⟩)],[nx]⟩
 |.box ty x=>match mF e x with
  |some v=>if gK v.cs then af ⟨.ptr nx 0,[],[nx],[(nx,⟨ty,pu v.cs⟩)],[nx]⟩ else ah
  |none=>ah
 |.build z parts=>match zD (z.map raw) e parts with|some cs=>rv (MF cs)|none=>ah
 |.bsl ty sz len z parts=>match zD ((repl z len).map .f) e parts with
  |some cs=>af ⟨if len=0 then .emp else .row nx sz len,[],[nx],[(nx,⟨ty,pu cs⟩)],[nx]⟩
  |none=>ah
 |.load sz ag x=>match mF e x with|some p=>DX h sz ag p|none=>ah
 |.store sz x v=>match mF e x,mF e v with|some p,af y=>KH h sz y p|_,_=>ah
 |.nilc x=>match mF e x with
  |some (.ptr id off)=>rv (.ptr id off)
  |some (.f (.ptr cells off))=>rv (.f (.ptr cells off))
  |some (.clo g cap)=>rv (.clo g cap)
  |_=>ah
 |.bin op x y=>match mF e x,mF e y with
  |some (.f (.raw u)),af (.f (.raw v))=>(match uS op u v with|some r=>rv (raw r)|none=>ah)
  |_,_=>ah
 |.eqs neg ds x y=>match mF e x,mF e y with
  |some (.f (.agg a)),af (.f (.agg b))=>(match o9 ds a b with|some r=>rv (raw (.bool (r !=neg)))|none=>ah)
  |_,_=>ah
 |.eqb neg x y=>match mF e x,mF e y with
  |some (.f (.raw (.bool a))),af (.f (.raw (.bool b)))=>rv (raw (.bool ((a==b) !=neg)))
  |_,_=>ah
 |.isnil neg x=>match mF e x with
  |some (.row _ _ _)=>rv (raw (.bool neg))
  |some (.sl _ _ _)=>rv (raw (.bool neg))
  |some (.f (.sl _ (_+1)))=>rv (raw (.bool neg))
  |some (.f (.sl _ 0))=>rv .anyb
  |some .emp=>rv .anyb
  |some (.f (.raw v))=>if An v then rv (raw (.bool !neg)) else ah
  |_=>ah
 |.not x=>match mF e x with|some (.f (.raw (.bool b)))=>rv (raw (.bool !b))|_=>ah
 |.conv k x=>match mF e x with|some (.f (.raw (.int _ n)))=>rv (raw (.int k (bn k n)))|_=>ah
 |.mksl ty sz bytes z l c=>match mF e l,mF e c with
  |some (.f (.raw (.int _ a))),af (.f (.raw (.int _ b)))=>
   if cY 0 a&&cY a b&&bc b.toNat bytes then af ⟨.row nx sz a.toNat,[],[nx],[(nx,⟨ty,.fz (repl z a.toNat)⟩)],[nx]⟩ else ah
  |_,_=>ah
 |.slc sz x lo hi mx=>match mF e x with
  |some v=>match lo,hi,mx with
   |none,af (.const (.int _ 0)),af (.const (.int _ 0))=>if v.slen.isSome then rv .emp else ah
   |none,af b,ah=>match v,mF e b with
    |.row id sz' n,af (.f (.raw (.int _ j)))=>if sz'==sz&&cY 0 j&&cY j n then (match h.get id with
     |some blk=>if blk.c.isCells&&eQ (n*sz) blk.c.len then af ⟨.row nx sz j.toNat,[id],[nx,id],[(nx,⟨blk.ty,pu (blk.c.toMx.take (j.toNat*sz))⟩)],[nx]⟩ else ah
     |none=>ah) else ah
    |.f (.sl cells n),af (.f (.raw (.int _ j)))=>if cY 0 j&&cY j n&&eQ (n*sz) cells.length then rv (.f (.sl (cells.take (j.toNat*sz)) j.toNat)) else ah
    |_,_=>ah
   |some b,ah,ah=>match v,mF e b with
    |.row id sz' n,af (.f (.raw (.int _ j)))=>if sz'==sz&&cY 0 j&&fX j n then rv (.sl id (j.toNat*sz) (n-j.toNat)) else ah
    |.f (.sl cells n),af (.f (.raw (.int _ j)))=>if cY 0 j&&cY j n&&eQ (n*sz) cells.length then rv (.f (.sl ((cells.drop (j.toNat*sz)).take ((n-j.toNat)*sz)) (n-j.toNat))) else ah
    |_,_=>ah
   |_,_,_=>ah
  |none=>ah
 |.fad off x=>match mF e x with
  |some (.ptr id o)=>rv (.ptr id (o+off))
  |some (.f (.ptr cells o))=>rv (.f (.ptr cells (o+off)))
  |_=>ah
 |.fld off sz ag x=>match mF e x with
  |some (.agg l)=>(match (BC.mx l).sub? off sz ag with|some v=>rv v|none=>ah)
  |some (.f (.agg l))=>(match (BC.fz l).sub? off sz ag with|some v=>rv v|none=>ah)
  |_=>ah
 |.iad sz x i=>match mF e x,mF e i with
  |some v,af (.f (.raw (.int _ j)))=>match v with
   |.row id sz' n=>if sz'==sz&&cY 0 j&&fX j n then rv (.ptr id (j.toNat*sz)) else ah
   |.sl id off n=>if cY 0 j&&fX j n then rv (.ptr id (off+j.toNat*sz)) else ah
   |.f (.sl cells n)=>if cY 0 j&&fX j n then rv (.f (.ptr cells (j.toNat*sz))) else ah
   |_=>ah
  |_,_=>ah
 |.iada n sz x i=>match mF e x,mF e i with
  |some v,af (.f (.raw (.int _ j)))=>if cY 0 j&&fX j n then (match v with
   |.ptr id off=>rv (.ptr id (off+j.toNat*sz))
   |.f (.ptr cells off)=>rv (.f (.ptr cells (off+j.toNat*sz)))
   |_=>ah) else ah
  |_,_=>ah
 |.idx n sz ag x i=>match mF e x,mF e i with
  |some v,af (.f (.raw (.int _ j)))=>if cY 0 j&&fX j n then (match v with
   |.agg l=>(match (BC.mx l).sub? (j.toNat*sz) sz ag with|some v=>rv v|none=>ah)
   |.f (.agg l)=>(match (BC.fz l).sub? (j.toNat*sz) sz ag with|some v=>rv v|none=>ah)
   |_=>ah) else ah
  |_,_=>ah
 |.ext x i=>match mF e x with|some (.tup l)=>(match l[i]? with|some v=>rv v|none=>ah)|_=>ah
 |.len x=>match mF e x with
  |some v=>(match v.slen with|some n=>rv (raw (.int .i64 n))|none=>ah)
  |none=>ah
 |.lens x=>match mF e x with
  |some (.f (.raw (.string s)))=>rv (raw (.int .i64 s.data.toList.length))
  |_=>ah
 |.lenm x=>match mF e x with
  |some (.mp id)=>(match h.get id with|some ⟨_,.mp es⟩=>af ⟨raw (.int .i64 es.length),[id],[],[],[]⟩|_=>ah)
  |_=>ah
 |.max x y=>match mF e x,mF e y with
  |some (.f (.raw (.int k a))),af (.f (.raw (.int _ b)))=>rv (raw (.int k (if fX a b then b else a)))
  |_,_=>ah
 |.min x y=>match mF e x,mF e y with
  |some (.f (.raw (.int k a))),af (.f (.raw (.int _ b)))=>rv (raw (.int k (if fX b a then b else a)))
  |_,_=>ah
 |.sidx x i=>match mF e x,mF e i with
  |some (.f (.raw (.string s))),af (.f (.raw (.int _ j)))=>if cY 0 j then (match s.data.toList[j.toNat]? with|some b=>rv (raw (.int .u8 b.toNat))|none=>ah) else ah
  |_,_=>ah
 |.app ty sz bytes s x=>match mF e s,mF e x with
  |some b,af y=>match y.row? h sz with
   |some (src,m,rd)=>match b with
    |.row id sz' n=>match h.get id with
     |some blk=>if sz'==sz&& !(X2 id rd)&&blk.c.isCells&&eQ (n*sz) blk.c.len&&blk.ty==ty&&bc (n+m) bytes then
       af ⟨.row nx sz (n+m),id::rd,[nx,id],[(nx,⟨ty,pu (blk.c.toMx.take (n*sz)++src)⟩)],[nx]⟩ else ah
     |none=>ah
    |b=>if IY b&&bc m bytes then
      (if m==0 then af ⟨b,rd,[],[],[]⟩ else af ⟨.row nx sz m,rd,[nx],[(nx,⟨ty,pu src⟩)],[nx]⟩) else ah
   |none=>ah
  |_,_=>ah
 |.copy sz d x=>match mF e d,mF e x with
  |some (.row id sz' n),af y=>(match h.get id,y.row? h sz with
   |some blk,af (src,m,rd)=>if sz'==sz&& !(X2 id rd)&&eQ (n*sz) blk.c.len then
     (match blk.c.put 0 (src.take (iX m n*sz)) with
     |some c=>af ⟨raw (.int .i64 (iX m n)),id::rd,[id],[(id,⟨blk.ty,c⟩)],[]⟩
     |none=>ah) else ah
   |_,_=>ah)
  |_,_=>ah
 |.clr _ z x=>match mF e x with
  |some (.sl id off n)=>(match h.get id with
   |some blk=>if gk 0 n then (match blk.c.put off ((repl z n).map .f) with
    |some c=>af ⟨.tup [],[id],[id],[(id,⟨blk.ty,c⟩)],[]⟩
    |none=>ah) else ah
   |none=>ah)
  |_=>ah
 |.mkf f caps=>match W7 e caps with|some l=>rv (.clo f l)|none=>ah
 |.mkm=>af ⟨.mp nx,[],[nx],[(nx,⟨0,.mp []⟩)],[nx]⟩
 |.lku str ok z x k=>match mF e x,mF e k with
  |some (.mp id),af (.f (.raw key))=>(match h.get id with
   |some ⟨_,.mp es⟩=>if zh str key then (match tI key es with|some (af v)=>af ⟨pkV ok v ai,[id],[],[],[]⟩|some ah=>af ⟨pkV ok (raw z) aj,[id],[],[],[]⟩|none=>ah) else ah
   |_=>ah)
  |_,_=>ah
 |.mup str x k v=>match mF e x,mF e k,mF e v with
  |some (.mp id),af (.f (.raw key)),af y=>(match h.get id with
   |some ⟨ty,.mp es⟩=>if zh str key then (match zf key y es with|some es'=>af ⟨raw undef,[id],[id],[(id,⟨ty,.mp es'⟩)],[]⟩|none=>ah) else ah
   |_=>ah)
  |_,_,_=>ah
 |.rng x=>match mF e x with
  |some (.f (.raw (.string s)))=>af ⟨.ptr nx 0,[],[nx],[(nx,⟨0,.it s 0⟩)],[nx]⟩
  |_=>ah
 |.nxt x=>match mF e x with
  |some (.ptr id 0)=>(match h.get id with
   |some ⟨ty,.it s p⟩=>(match s.data.toList[p]? with
    |some b=>if gk b.toNat 128 then af ⟨.tup [raw (.bool ai),raw (.int .i64 p),raw (.int .i32 b.toNat)],[id],[id],[(id,⟨ty,.it s (p+1)⟩)],[]⟩ else ah
    |none=>af ⟨.tup [raw (.bool aj)],[id],[id],[(id,⟨ty,.it s p⟩)],[]⟩)
   |_=>ah)
  |_=>ah
 |.bad=>ah
structure sI where
 dst:Option Nat
 op:SI
 guard:Option (Nat×Bool)
inductive SC where
 |skip
 |reg (ops:List sI) (prs:List (Nat×Nat))
 |seq (a b:SC)
 |cond (c:Nat) (a b:SC)
 |block (id:Nat) (b:SC)
 |loop (b:SC)
 |exit (id:Nat)
 |ret
 |defer (f:FuncId) (caps:List Operand) (t:Nat)
 |bad
structure ao8 where
 val:AV
 h:oc
 nx:Nat
 wr:Nat
abbrev XJ:=FuncId->List AV->oc->Nat->Option ao8
mutual
def AV.ids:AV->Nat->Nat
 |.ptr id _,acc=>acc|||(1<<<id)
 |.sl id _ _,acc=>acc|||(1<<<id)
 |.row id _ _,acc=>acc|||(1<<<id)
 |.mp id,acc=>acc|||(1<<<id)
 |.agg l,acc=>AV.idsL l acc
 |.tup l,acc=>AV.idsL l acc
 |.clo _ l,acc=>AV.idsL l acc
 |.f _,acc=>acc
 |.emp,acc=>acc
 |.anyb,acc=>acc
def AV.idsL:List AV->Nat->Nat
 |[],acc=>acc
 |x::r,acc=>AV.idsL r (AV.ids x acc)
end
mutual
def AV.all (p:Nat->Bool):AV->Bool
 |.ptr id _=>p id
 |.sl id _ _=>p id
 |.row id _ _=>p id
 |.mp id=>p id
 |.agg l=>AV.allL p l
 |.tup l=>AV.allL p l
 |.clo _ l=>AV.allL p l
 |.f _=>ai
 |.emp=>ai
 |.anyb=>ai
def AV.allL (p:Nat->Bool):List AV->Bool
 |[]=>ai
 |x::r=>AV.all p x&&AV.allL p r
end
def BC.ids:BC->Nat->Nat
 |.mx l,acc=>AV.idsL l acc
 |.mp es,acc=>AV.idsL (es.map (·.2)) acc
 |_,acc=>acc
def BC.all (p:Nat->Bool):BC->Bool
 |.mx l=>AV.allL p l
 |.mp es=>AV.allL p (es.map (·.2))
 |_=>ai
def oc.all (p:Nat->Bool) (h:oc):Bool:=PT.all (λi b=>p i&&b.c.all p) 1 0 h
def Wq:Nat->oc->Nat->Nat->Nat
 |0,_,_,Lo=>Lo
 |n+1,h,todo,Lo=>
  if aC todo 0 then Lo else
  match Nat.log2 todo with
  |id=>if aN Lo id then Wq n h (todo ^^^ (1<<<id)) Lo else
   match h.get id with
   |some b=>Wq n h (b.c.ids (todo ^^^ (1<<<id))) (Lo|||(1<<<id))
   |none=>Wq n h (todo ^^^ (1<<<id)) Lo
section force
variable {α:Type}
def sW (n:Nat) (k:Nat->α):α:=match n with|0=>k 0|m+1=>k (m+1)
def frcI (n:Int) (k:Int->α):α:=match n with|.ofNat m=>sW m λm=>k (.ofNat m)|.negSucc m=>sW m λm=>k (.negSucc m)
def frcB (b:Bool) (k:Bool->α):α:=match b with|true=>k ai|false=>k aj
def frcV (v:Value) (k:Value->α):α:=match v with
 |.int kd n=>frcI n λn=>k (.int kd n)
 |.bool b=>frcB b λb=>k (.bool b)
 |v=>k v
def als (x:FV) (k:FV->α):α:=match x with
 |.raw v=>frcV v λv=>k (.raw v)
 |.ptr cells off=>sW off λoff=>k (.ptr cells off)
 |.sl cells n=>sW n λn=>k (.sl cells n)
 |.agg l=>k (.agg l)
def ab7:List FV->(List FV->α)->α
 |[],k=>k []
 |x::r,k=>als x λx=>ab7 r λr=>k (x::r)
def alr (x:FV) (k:FV->α):α:=match x with
 |.agg l=>ab7 l λl=>k (.agg l)
 |x=>als x k
def ah2 (x:AV) (k:AV->α):α:=match x with
 |.f x=>alr x λx=>k (.f x)
 |.ptr id off=>sW id λid=>sW off λoff=>k (.ptr id off)
 |.sl id off n=>sW id λid=>sW off λoff=>sW n λn=>k (.sl id off n)
 |.row id sz n=>sW id λid=>sW sz λsz=>sW n λn=>k (.row id sz n)
 |.mp id=>sW id λid=>k (.mp id)
 |x=>k x
def Rm:List AV->(List AV->α)->α
 |[],k=>k []
 |x::r,k=>ah2 x λx=>Rm r λr=>k (x::r)
def alt (x:AV) (k:AV->α):α:=match x with
 |.agg l=>Rm l λl=>k (.agg l)
 |.tup l=>Rm l λl=>k (.tup l)
 |.clo f l=>Rm l λl=>k (.clo f l)
 |x=>ah2 x k
def frcC (c:BC) (k:BC->α):α:=match c with
 |.fz l=>ab7 l λl=>k (.fz l)
 |.mx l=>Rm l λl=>k (.mx l)
 |.it s p=>sW p λp=>k (.it s p)
 |.mp es=>k (.mp es)
def Rl {β:Type}:PT β->(PT β->α)->α
 |.leaf,k=>k .leaf
 |.node v l r,k=>(match v with
  |none=>λ(k:Option β->α)=>k ah
  |some x=>λk=>k (af x)) λv=>Rl l λl=>Rl r λr=>k (.node v l r)
def TY {β:Type}:Nat->PT β->Nat->Option β->(PT β->α)->α
 |0,t,_,_,k=>k t
 |f+1,t,n,x,k=>match t with
  |.leaf=>(match n with
   |0=>k (.node x .leaf .leaf)
   |m+1=>if aC (m%2) 0 then sW (m/2) λq=>TY f .leaf q x λu=>k (.node ah u .leaf) else sW (m/2) λq=>TY f .leaf q x λu=>k (.node ah .leaf u))
  |.node v l r=>(match n with
   |0=>k (.node x l r)
   |m+1=>if aC (m%2) 0 then sW (m/2) λq=>TY f l q x λu=>k (.node v u r) else sW (m/2) λq=>TY f r q x λu=>k (.node v l u))
theorem OP {β:Type}:∀ (x:PT β) (k:PT β->α),Rl x k=k x
 |.leaf,_=>rfl
 |.node v l r,k=>by cases v<;>simp only[Rl,OP l,OP r]
end force
structure IS where
 e:Ab
 h:oc
 nx:Nat
 wr:Nat
structure ahm where
 val:AV
 rd:Nat
 wr:Nat
 h:oc
 nx:Nat
def bits:List Nat->Nat->Nat
 |[],acc=>acc
 |x::r,acc=>bits r (acc|||(1<<<x))
def ahy {α:Type} (h:oc) (nw:NW):List Nat->(oc->α)->α
 |[],k=>k h
 |i::r,k=>match ji nw i with
  |none=>TY (i+1) h i ah λh=>ahy h nw r k
  |some ⟨ty,c⟩=>frcC c λc=>TY (i+1) h i (af ⟨ty,c⟩) λh=>ahy h nw r k
def ah8 (call:XJ) (f:FuncId) (args:List AV) (h:oc) (nx:Nat):Option ahm:=
 sW (Wq 1000000 h (AV.idsL args 0) 0) λids=>Rl (PT.only ids 1 0 h) λhc=>
 if AV.allL (gk · nx) args&&oc.all (gk · nx) hc then
  match call f args hc nx with
  |some ⟨val,h',nx',wr⟩=>alt val λval=>sW nx' λnx'=>sW wr λwr=>Rl (PT.merge wr 1 0 h h') λhm=>af ⟨val,ids,wr,hm,nx'⟩
  |none=>ah
 else ah
def opA (call:XJ) (o:SI) (e:Ab) (h:oc) (nx:Nat):Option ahm:=
 match o with
 |.call f args=>match W7 e args with|some l=>ah8 call f l h nx|none=>ah
 |.callv x args=>match mF e x,W7 e args with|some (.clo f cap),af l=>ah8 call f (l++cap) h nx|_,_=>ah
 |.op o=>match eU o e h nx with
  |some ⟨val,rd,wr,nw,N⟩=>alt val λval=>sW (bits rd 0) λrd=>sW (bits wr 0) λI=>sW (nx+N.length) λnx'=>ahy h nw wr λh=>af ⟨val,rd,I,h,nx'⟩
  |none=>ah
def al8 (e:Ab):Option (Nat×Bool)->Option Bool
 |none=>af ai
 |some (t,want)=>match e.get t with
  |some (.f (.raw (.bool b)))=>af (b==want)
  |some (.f (.raw (.tuple _)))=>af aj
  |_=>ah
def ai7 {α:Type} (e:Ab) (dst:Option Nat) (v:AV) (k:Ab->α):α:=match dst with
 |none=>k e
 |some d=>TY (d+1) e d (af v) k
structure FPm where
 rd:Nat
 wr:Nat
def T4 (call:XJ):List sI->IS->Option (IS×List FPm)
 |[],s=>af (s,[])
 |o::r,⟨e,h,nx,wr⟩=>
  match al8 e o.guard with
  |some ai=>(match opA call o.op e h nx with
   |some ⟨val,rd,w,h',nx'⟩=>ai7 e o.dst val λe'=>sW (wr|||w) λwr'=>(match T4 call r ⟨e',h',nx',wr'⟩ with
    |some (s',fs)=>af (s',⟨rd,w⟩::fs)
    |none=>ah)
   |none=>ah)
  |some aj=>ai7 e o.dst (raw undef) λe'=>(match T4 call r ⟨e',h,nx,wr⟩ with
   |some (s',fs)=>af (s',⟨0,0⟩::fs)
   |none=>ah)
  |none=>ah
def Yn:List FPm->Nat->Option FPm
 |[],_=>ah
 |f::_,0=>af f
 |_::r,n+1=>Yn r n
def DG (a b:Nat):Bool:=aC (a&&&b) 0
def FK (fs:List FPm):List (Nat×Nat)->Bool
 |[]=>ai
 |(i,j)::r=>(match Yn fs i,Yn fs j with
  |some a,af b=>DG a.wr b.rd&&DG a.wr b.wr&&DG b.wr a.rd
  |_,_=>aj)&&FK fs r
inductive Ex where
 |normal
 |exit (id:Nat)
 |ret
def agx (body:IS->Option (Ex×IS)) (e0:Ab):Nat->IS->Option (Ex×IS)
 |0,_=>ah
 |n+1,s=>match body s with
  |some (.normal,⟨e,h,nx,wr⟩)=>Rl (PT.mask e e0) λe=>agx body e0 n ⟨e,h,nx,wr⟩
  |r=>r
def run (call:XJ) (inert:FuncId->Bool) (fuel:Nat):SC->IS->Option (Ex×IS)
 |.skip,s=>af (.normal,s)
 |.reg ops prs,s=>match T4 call ops s with
  |some (s',fs)=>if FK fs prs then af (.normal,s') else ah
  |none=>ah
 |.seq a b,s=>match run call inert fuel a s with
  |some (.normal,s')=>run call inert fuel b s'
  |r=>r
 |.cond c a b,s=>match s.e.get c with
  |some (.f (.raw (.bool ai)))=>run call inert fuel a s
  |some (.f (.raw (.bool aj)))=>run call inert fuel b s
  |_=>ah
 |.block id b,s=>match run call inert fuel b s with
  |some (.exit i,s')=>if aC i id then af (.normal,s') else af (.exit i,s')
  |r=>r
 |.loop b,s=>agx (run call inert fuel b) s.e fuel s
 |.exit id,s=>af (.exit id,s)
 |.ret,s=>af (.ret,s)
 |.defer f caps t,⟨e,h,nx,wr⟩=>match W7 e caps with
  |some l=>if inert f then ai7 e (af t) (.clo f l) λe'=>af (.normal,⟨e',h,nx,wr⟩) else ah
  |none=>ah
 |.bad,_=>ah
inductive RV where
 |tmp (t:Nat)
 |cell (a:Nat) (sz:Nat) (ag:Bool)
structure SF where
 code:SC
 res:List RV
 nt:Nat
def Ed:List AV->AV
 |[x]=>x
 |l=>.tup l
def aiv:Value->Value->Bool
 |.bool a,.bool b=>a==b
 |.int k a,.int k' b=>k==k'&&a==b
 |.string a,.string b=>r9 a b
 |.slice ah n c,.slice ah I c'=>aC n I&&aC c c'
 |.pointer ah,.pointer ah=>ai
 |.tuple a,.tuple b=>a.isEmpty&&b.isEmpty
 |_,_=>aj
def fx (P:Program) (t:TypeId):Option Nat:=(P.info? t).map (·.size)
def Fp (P:Program) (t:TypeId):Option Nat:=(P.info? t).map (·.bytes)
def s7 (P:Program) (t:TypeId):Option (List Value):=((P.info? t).bind (·.zero)).map (·.cells.toList)
def DY (P:Program) (t:TypeId):Option Bool:=(P.underlying t).map λ|.struct _=>ai|.array _ _=>ai|_=>aj
def AZ (P:Program) (t:TypeId):Option TypeId:=match P.underlying t with|some (.slice e)=>af e|_=>ah
def BE (P:Program) (t:TypeId) (i:Nat):Option (Nat×Nat):=match P.underlying t with
 |some (.struct fs)=>(fs[i]?).bind λf=>(fx P f.type).map (f.offset,·)
 |some (.array _ el)=>(fx P el).map λs=>(i*s,s)
 |some (.slice el)=>(fx P el).map λs=>(i*s,s)
 |_=>ah
def xr (P:Program) (t:TypeId):List (Nat×Operand)->Option (List (Nat×Nat×Operand))
 |[]=>af []
 |(i,x)::r=>match BE P t i,xr P t r with|some (o,s),af l=>af ((o,s,x)::l)|_,_=>ah
def mD (z:List Value):Bool:=z.all λv=>v.oneCell'
def Iv:TypeDesc->Bool
 |.int _=>ai
 |.bool=>ai
 |.string=>ai
 |_=>aj
def rU (P:Program):Nat→List Field→Option (List TypeDesc)
 |_,[]=>af []
 |k,f::r=>match P.underlying f.type,rU P (k+1) r with
  |some d,af ds=>if f.name != "_" &&f.offset==k&&Iv d then af (d::ds) else ah
  |_,_=>ah
def Z_ (P:Program) (t:TypeId):Option (List TypeDesc):=match P.underlying t with
 |some (.struct fs)=>if P.stoodInHeld t then ah else rU P 0 fs.toList
 |_=>ah
def Sr (P:Program) (c:Call):Option Y_:=
 match c.callee with
 |.builtin .len=>(match c.args.toList,c.argTypes.toList with
  |[x],[t]=>(match P.underlying t with
   |some (.slice _)=>af (.len x)
   |some .string=>af (.lens x)
   |some (.map _ _)=>af (.lenm x)
   |_=>ah)
  |_,_=>ah)
 |.builtin .max=>(match c.args.toList with
  |[x,y]=>af (.max x y)
  |_=>ah)
 |.builtin .min=>(match c.args.toList with
  |[x,y]=>af (.min x y)
  |_=>ah)
 |.builtin .copy=>(match c.args.toList,c.argTypes.toList with
  |[d,x],[t,u]=>(match AZ P t,AZ P u with
   |some el,af _=>(fx P el).bind λsz=>if sz !=0 then af (.copy sz d x) else ah
   |_,_=>ah)
  |_,_=>ah)
 |.builtin .clear=>(match c.args.toList,c.argTypes.toList with
  |[x],[t]=>(AZ P t).bind λel=>(s7 P el).bind λz=>(fx P el).bind λsz=>if mD z&&z.length==sz&&sz !=0 then af (.clr sz z x) else ah
  |_,_=>ah)
 |.builtin .append=>(match c.args.toList,c.argTypes.toList with
  |[s,x],[t,u]=>(match AZ P t,AZ P u with
   |some el,af _=>(fx P el).bind λsz=>(Fp P el).bind λb=>(s7 P el).bind λz=>if sz !=0&&z.length==sz then af (.app el sz b s x) else ah
   |_,_=>ah)
  |_,_=>ah)
 |_=>ah
def dj (P:Program):Op->Option Y_
 |.move x=>af (.mv x)
 |.assign x=>af (.mv x)
 |.pick c a b=>af (.pick c a b)
 |.alloc t=>(s7 P t).bind λz=>if mD z then af (.alloc t z) else ah
 |.box t x=>af (.box t x)
 |.build t ps=>match P.underlying t with
  |some (.struct fs)=>(s7 P t).bind λz=>if mD z&&(fs.toList.all λf=>(fx P f.type).isSome) then (xr P t ps.toList).map (.build z) else ah
  |some (.array _ el)=>(s7 P t).bind λz=>if mD z&&(fx P el).isSome then (xr P t ps.toList).map (.build z) else ah
  |_=>ah
 |.buildSlice t n ps=>(AZ P t).bind λel=>(s7 P el).bind λz=>(fx P el).bind λsz=>if mD z&&z.length==sz&&eQ (n*sz) 65536&&sz !=0 then (xr P t ps.toList).map (.bsl el sz n z) else ah
 |.load t x=>(fx P t).bind λsz=>(DY P t).map λag=>.load sz ag x
 |.store t x v=>(fx P t).map λsz=>.store sz x v
 |.nilCheck x=>af (.nilc x)
 |.binOp op t x y _=>match P.underlying t with
  |some (.int _)|some .string=>af (.bin op x y)
  |some .bool=>(match op with|.eql=>af (.eqb aj x y)|.neq=>af (.eqb ai x y)|_=>ah)
  |some (.slice _)=>(match op,y with
   |.eql,.const (.slice ah 0 0)=>af (.isnil aj x)
   |.neq,.const (.slice ah 0 0)=>af (.isnil ai x)
   |_,_=>ah)
  |some (.struct _)=>(Z_ P t).bind λds=>(match op with|.eql=>af (.eqs aj ds x y)|.neq=>af (.eqs ai ds x y)|_=>ah)
  |_=>ah
 |.unOp .not _ x=>af (.not x)
 |.unOp .neg t x=>match P.underlying t with|some (.int k)=>af (.bin .sub (.const (.int k 0)) x)|_=>ah
 |.convert s d x=>match P.underlying s,P.underlying d with|some (.int _),af (.int k)=>af (.conv k x)|_,_=>ah
 |.makeSlice t l c=>(AZ P t).bind λel=>(s7 P el).bind λz=>(fx P el).bind λsz=>(Fp P el).bind λb=>if mD z&&z.length==sz&&sz !=0 then af (.mksl el sz b z l c) else ah
 |.slice t x lo hi mx=>(AZ P t).bind λel=>(fx P el).map λsz=>.slc sz x lo hi mx
 |.fieldAddr t x k=>match P.underlying t with
  |some (.struct fs)=>(fs[k]?).bind λf=>(fx P f.type).bind λsz=>if sz !=0 then af (.fad f.offset x) else ah
  |_=>ah
 |.field t x k=>match P.underlying t with
  |some (.struct fs)=>(fs[k]?).bind λf=>(fx P f.type).bind λsz=>(DY P f.type).map λag=>.fld f.offset sz ag x
  |_=>ah
 |.indexAddr t x i=>match P.underlying t with
  |some (.slice el)=>(fx P el).map λsz=>.iad sz x i
  |some (.array n el)=>(fx P el).map λsz=>.iada n sz x i
  |_=>ah
 |.index t x i=>match P.underlying t with
  |some (.array n el)=>(fx P el).bind λsz=>(DY P el).map λag=>.idx n sz ag x i
  |some .string=>af (.sidx x i)
  |_=>ah
 |.extract x i=>af (.ext x i)
 |.makeFunc (.func f) first caps=>if first.isEmpty then af (.mkf f caps.toList) else ah
 |.makeMap t ah=>match P.underlying t with|some (.map _ _)=>af .mkm|_=>ah
 |.lookup t x k ok=>match P.underlying t with
  |some (.map I el)=>(match P.underlying I,(P.info? el).bind (·.zero) with
   |some (.int _),af z=>if z.oneCell' then af (.lku aj ok z x k) else ah
   |some .string,af z=>if z.oneCell' then af (.lku ai ok z x k) else ah
   |_,_=>ah)
  |_=>ah
 |.mapUpdate t m k v=>match P.underlying t with
  |some (.map I _)=>(match P.underlying I with
   |some (.int _)=>af (.mup aj m k v)
   |some .string=>af (.mup ai m k v)
   |_=>ah)
  |_=>ah
 |.range t x=>match P.underlying t with|some .string=>af (.rng x)|_=>ah
 |.next x ai=>af (.nxt x)
 |.call c=>Sr P c
 |_=>ah
def Pq:Op->Option SI
 |.call c=>(match c.callee with
  |.value (.func f)=>af (.call f c.args.toList)
  |.value (.tmp t)=>af (.callv (.tmp t) c.args.toList)
  |_=>ah)
 |_=>ah
def yG (P:Program) (op:Op):SI:=match Pq op with
 |some i=>i
 |none=>(match dj P op with|some s=>.op s|none=>.op .bad)
def Y_.still:Y_->Bool
 |.mv _|.pick _ _ _|.build _ _|.nilc _|.bin _ _ _|.eqs _ _ _ _|.isnil _ _|.eqb _ _ _|.not _|.conv _ _|.fad _ _|.fld _ _ _ _|.iad _ _ _|.iada _ _ _ _|.idx _ _ _ _ _|.ext _ _|.max _ _|.min _ _|.sidx _ _|.mkf _ _|.bad=>ai
 |_=>aj
def SI.still:SI->Bool
 |.op s=>s.still
 |_=>aj
def r8 (P:Program) (ops:Array Oper):List Oper->Option (List sI)
 |[]=>af []
 |o::r=>match r8 P ops r with
  |some l=>(match o.guard with
   |none=>af (⟨o.dst,yG P o.op,ah⟩::l)
   |some (j,want)=>(match (ops[j]?).bind (·.dst) with
    |some t=>af (⟨o.dst,yG P o.op,af (t,want)⟩::l)
    |none=>ah))
  |none=>ah
def MA (ops:Array Oper) (l:List sI):Option (List (Nat×Nat)):=
 let B:=KE ops.toList []
 if (dT ops.size).all λj=>((ops[j]?).all λoj=>oj.after.toList.all λe=> !Ad .any e||decide (e.on<j))&&
     (dT j).all λi=>aN (B.getD j 0) i||(match ops[i]?,ops[j]? with|some oi,af oj=>oi.apart ops oj|_,_=>aj)
 then af ((dT ops.size).flatMap λj=>(dT j).filterMap λi=>
  if aN (B.getD j 0) i||(match l[i]?,l[j]? with|some a,af b=>a.op.still||b.op.still|_,_=>aj) then ah else af (i,j))
 else ah
def DI (ops:Array Oper) (I:Bool):Option (FuncId×List Operand×Nat):=match ops.toList,I with
 |[p,q],aj=>(match p.op,p.guard,p.dst,q.op,q.guard,q.dst with
  |.makeFunc (.func f) first caps,ah,af t,.defer c,ah,ah=>(match c.callee,c.args.toList with
   |.value (.tmp t'),[]=>if aC t t'&&first.isEmpty then af (f,caps.toList,t) else ah
   |_,_=>ah)
  |_,_,_,_,_,_=>ah)
 |_,_=>ah
def cj (P:Program) (nt:Nat):Code->SC
 |.skip=>.skip
 |.region _ ops I=>if ops.toList.all λo=>match o.dst with|some d=>decide (d<nt)|none=>ai then
   (match DI ops I with
   |some (f,caps,t)=>.defer f caps t
   |none=>(match r8 P ops ops.toList with
    |some l=>(match MA ops l with|some prs=>.reg l prs|none=>.bad)
    |none=>.bad)) else .bad
 |.seq a b=>.seq (cj P nt a) (cj P nt b)
 |.cond (.tmp c) a b=>.cond c (cj P nt a) (cj P nt b)
 |.cond (.const (.bool ai)) a _=>cj P nt a
 |.cond (.const (.bool aj)) _ b=>cj P nt b
 |.block id b=>.block id (cj P nt b)
 |.loop b=>.loop (cj P nt b)
 |.exit id=>.exit id
 |.ret=>.ret
 |_=>.bad
def vC (P:Program):List ResultVar->Option (List RV)
 |[]=>af []
 |.tmp t::r=>match vC P r with|some l=>af (.tmp t::l)|none=>ah
 |.cell a t::r=>match vC P r,fx P t,DY P t with|some l,af sz,af ag=>af (.cell a sz ag::l)|_,_,_=>ah
def zS (P:Program) (f:FuncId):Option SF:=
 match P.funcs[f]? with
 |some fn=>if fn.name== "runtime.NumGoroutine" then ah else (match fn.body,vC P fn.results.toList with
  |some c,af r=>af ⟨cj P fn.ntmps c,r,fn.ntmps⟩
  |_,_=>ah)
 |none=>ah
inductive Xp where
 |mk (op n:Int) (name:List UInt8) (l:List Xp)
inductive Sx where
 |mk (op line:Int) (name arg:List UInt8) (index:List Xp) (expr:Xp) (body els:List Sx)
def Xp.op:Xp->Int|.mk a _ _ _=>a
def Xp.n:Xp->Int|.mk _ a _ _=>a
def Xp.name:Xp->List UInt8|.mk _ _ a _=>a
def Xp.l:Xp->List Xp|.mk _ _ _ a=>a
def Sx.op:Sx->Int|.mk a _ _ _ _ _ _ _=>a
def Sx.line:Sx->Int|.mk _ a _ _ _ _ _ _=>a
def Sx.name:Sx->List UInt8|.mk _ _ a _ _ _ _ _=>a
def Sx.arg:Sx->List UInt8|.mk _ _ _ a _ _ _ _=>a
def Sx.index:Sx->List Xp|.mk _ _ _ _ a _ _ _=>a
def Sx.expr:Sx->Xp|.mk _ _ _ _ _ a _ _=>a
def Sx.body:Sx->List Sx|.mk _ _ _ _ _ _ a _=>a
def Sx.els:Sx->List Sx|.mk _ _ _ _ _ _ _ a=>a
inductive Ty where
 |int (k:IntKind)
 |bool
 |str
 |sl (t:Ty)
 |st (t:Ty)
 |pr (a b:Ty)
 |un
 |ex
 |sm
 deriving DecidableEq
@[reducible] def Ty.den:Ty->Type
  |.int _=>Int
  |.bool=>Bool
  |.str=>List UInt8
  |.sl t=>List t.den
  |.st t=>t.den
  |.pr a b=>a.den×b.den
  |.un=>Unit
  |.ex=>Xp
  |.sm=>Sx
def Ty.size:Ty->Nat
 |.st t=>t.size
 |.pr a b=>a.size+b.size
 |.un=>0
 |.ex=>4
 |.sm=>11
 |_=>1
def Ty.zero:(t:Ty)->t.den
 |.int _=>(0:Int)
 |.bool=>aj
 |.str=>[]
 |.sl _=>[]
 |.st t=>t.zero
 |.pr a b=>(a.zero,b.zero)
 |.un=>()
 |.ex=>.mk 0 0 [] []
 |.sm=>.mk 0 0 [] [] [] (.mk 0 0 [] []) [] []
def Ty.one:Ty->Bool
 |.int _=>ai
 |.bool=>ai
 |.str=>ai
 |.sl _=>ai
 |_=>aj
def MU:Ty:=.pr (.int .i64) (.pr (.int .i64) (.pr .str (.sl .ex)))
def Mu:Ty:=.pr (.int .i64) (.pr (.int .i64) (.pr .str (.pr .str (.pr (.sl .ex) (.pr .ex (.pr (.sl .sm) (.sl .sm)))))))
def NI (e:Xp):MU.den:=(e.op,e.n,e.name,e.l)
def eh (x:MU.den):Xp:=.mk x.1 x.2.1 x.2.2.1 x.2.2.2
def NH (e:Sx):Mu.den:=(e.op,e.line,e.name,e.arg,e.index,e.expr,e.body,e.els)
def nO (x:Mu.den):Sx:=.mk x.1 x.2.1 x.2.2.1 x.2.2.2.1 x.2.2.2.2.1 x.2.2.2.2.2.1 x.2.2.2.2.2.2.1 x.2.2.2.2.2.2.2
mutual
def wL:Xp->List FV
 |.mk op n name l=>[.raw (.int .i64 op),.raw (.int .i64 n),.raw (.string ⟨name.toArray⟩),.sl (JH l) l.length]
def JH:List Xp->List FV
 |[]=>[]
 |x::r=>wL x++JH r
end
mutual
def yo:Sx->List FV
 |.mk op line name arg index expr body els=>[.raw (.int .i64 op),.raw (.int .i64 line),.raw (.string ⟨name.toArray⟩),.raw (.string ⟨arg.toArray⟩),.sl (JH index) index.length]++wL expr++[.sl (JG body) body.length,.sl (JG els) els.length]
def JG:List Sx->List FV
 |[]=>[]
 |x::r=>yo x++JG r
end
def bS:(T:Ty)->T.den->List FV
 |.int k,n=>[.raw (.int k n)]
 |.bool,b=>[.raw (.bool b)]
 |.str,s=>[.raw (.string ⟨s.toArray⟩)]
 |.sl t,xs=>[.sl (List.flatMap (bS t) xs) (al xs)]
 |.st t,v=>bS t v
 |.pr a b,v=>bS a v.1++bS b v.2
 |.un,_=>[]
 |.ex,v=>wL v
 |.sm,v=>yo v
def gL:(T:Ty)->T.den->FV
 |.int k,n=>.raw (.int k n)
 |.bool,b=>.raw (.bool b)
 |.str,s=>.raw (.string ⟨s.toArray⟩)
 |.sl t,xs=>.sl (List.flatMap (bS t) xs) (al xs)
 |.st t,v=>.agg (bS t v)
 |.pr a b,v=>.agg (bS a v.1++bS b v.2)
 |.un,_=>.agg []
 |.ex,v=>.agg (wL v)
 |.sm,v=>.agg (yo v)
def Lj:(T:Ty)->T.den->T.den->Bool
 |.int _,a,b=>decide ((a:Int)=b)
 |.bool,a,b=>(a:Bool)==b
 |.str,a,b=>decide ((a:List UInt8)=b)
 |.st t,a,b=>Lj t a b
 |.pr x y,a,b=>Lj x a.1 b.1&&Lj y a.2 b.2
 |_,_,_=>ai
def wW {S:Ty} (T:Ty) (v:S.den):Option T.den:=if h:S=T then af (h▸v) else ah
def fk (j:Int) (n:Nat):Bool:=cY 0 j&&fX j n
def aJ {T:Ty} (xs:List T.den) (j:Int):T.den:=xs.getD j.toNat T.zero
def cq {α:Type} (xs:List α) (j:Int) (x:α):List α:=xs.set j.toNat x
def TA {α:Type} (xs I:List α):List α:=I.take xs.length++xs.drop I.length
def jL (a b:Int):Int:=if fX a b then b else a
def Ha (a b:Int):Int:=if fX b a then b else a
def Ay (s:List UInt8) (j:Int):Int:=aQ (s.getD j.toNat 0).toNat
def bcase {R:Type} (b:Bool) (t f:Option R):Option R:=match b with|true=>t|false=>f
def chk {R:Type} (b:Bool) (k:b=ai->Option R):Option R:=match b,k with|true,k=>k rfl|false,_=>ah
open Classical in
def Fq {R:Type} (a b:Option R):Option R:=if a=b then a else ah
open Classical in
def same {α R:Type} (a b:α) (r:Option R):Option R:=if a=b then r else ah
def obind {α R:Type} (o:Option α) (k:α->Option R):Option R:=match o with|some x=>k x|none=>ah
def lt {α R:Type} (x:α) (k:α->Option R):Option R:=k x
def jn {α R:Type} (o:Option (R⊕α)) (k:α->Option R):Option R:=match o with|some (.inr x)=>k x|some (.inl r)=>af r|none=>ah
def iterN {σ R:Type} (step:σ->Option (σ⊕R)):Nat->σ->Option R
 |0,_=>ah
 |n+1,x=>match step x with
  |some (.inl y)=>iterN step n y
  |some (.inr r)=>af r
  |none=>ah
open Classical in
def iter {σ R:Type} (step:σ->Option (σ⊕R)) (x:σ):Option R:=
 if h:∃ n,(iterN step n x).isSome=ai then iterN step (Classical.choose h) x else ah
def fU {σ R:Type} (step:σ->Option (σ⊕R)) (x:σ):Option R:=iterN step 18446744073709551616 x
abbrev yH:Type 1:=∀ σ R:Type,(σ->Option (σ⊕R))->σ->Option R
def kT {R:Type} (a b:Option R):Prop:=∀ y,a=af y->b=af y
theorem kT.rfl {R:Type} {a:Option R}:kT a a:=λ_ h=>h
theorem kT.bcase {R:Type} {b:Bool} {t f t' f':Option R} (h1:kT t t') (h2:kT f f'):kT (AI.bcase b t f) (AI.bcase b t' f'):=by cases b<;>assumption
theorem kT.chk {R:Type} {b:Bool} {k k':Option R} (h:kT k k'):kT (AI.chk b λ_=>k) (AI.chk b λ_=>k'):=by
 cases b with
 |true=>exact h
 |false=>exact λ_ h=>by cases h
theorem kT.obind {α R:Type} {o o':Option α} {k k':α->Option R} (h:kT o o') (hk:∀ x,kT (k x) (k' x)):kT (AI.obind o k) (AI.obind o' k'):=by
 intro y I;cases o with
 |none=>cases I
 |some x=>rw[h x (by exact Eq.refl _)];exact hk x y I
theorem kT.lt {α R:Type} {x:α} {k k':α->Option R} (h:∀ y,kT (k y) (k' y)):kT (AI.lt x k) (AI.lt x k'):=h x
theorem kT.jn {α R:Type} {o o':Option (R⊕α)} {k k':α->Option R} (h:kT o o') (hk:∀ x,kT (k x) (k' x)):kT (AI.jn o k) (AI.jn o' k'):=by
 intro y I;cases o with
 |none=>cases I
 |some x=>
  rw[h x (by exact Eq.refl _)];cases x with
  |inl r=>exact I
  |inr a=>exact hk a y I
theorem kT.iterN {σ R:Type} {f g:σ->Option (σ⊕R)} (h:∀ x,kT (f x) (g x)):∀ (n:Nat) (x:σ),kT (AI.iterN f n x) (AI.iterN g n x)
 |0,_=>λ_ h=>by cases h
 |n+1,x=>by
  intro y I;cases hf:f x with
  |none=>rw[AI.iterN,hf] at I;cases I
  |some s=>
   rw[AI.iterN,hf] at I;rw[AI.iterN,h x s hf];cases s with
   |inl z=>exact kT.iterN h n z y I
   |inr r=>exact I
theorem IX {σ R:Type} {f:σ->Option (σ⊕R)}:∀ {n:Nat} {x:σ} {r:R},iterN f n x=af r->iterN f (n+1) x=af r
 |0,x,r,h=>by cases h
 |n+1,x,r,h=>by
  cases hf:f x with
  |none=>rw[iterN,hf] at h;cases h
  |some s=>
   cases s with
   |inl y=>rw[iterN,hf] at h;rw[iterN,hf];exact IX h
   |inr q=>rw[iterN,hf] at h;rw[iterN,hf];exact h
theorem zl {σ R:Type} {f:σ->Option (σ⊕R)} {n m:Nat} {x:σ} {r:R} (h:iterN f n x=af r) (hle:n<=m):iterN f m x=af r:=by
 induction hle with
 |refl=>exact h
 |step _ I=>exact IX I
theorem zj {σ R:Type} {f:σ->Option (σ⊕R)} {n:Nat} {x:σ} {r:R} (h:iterN f n x=af r):iter f x=af r:=by
 have J:∃ n,(iterN f n x).isSome=ai:=⟨n,by rw[h];exact Eq.refl _⟩
 unfold iter;rw[dif_pos J];have hc:=Classical.choose_spec J;obtain⟨M,I⟩:=iP.1 hc;rw[I];rcases Nat.le_total n (Classical.choose J) with hl|hl
 .rw[zl h hl] at I;exact I.symm
 .rw[zl I hl] at h;exact h
theorem kT.iter {σ R:Type} {f g:σ->Option (σ⊕R)} {x:σ} (h:∀ x,kT (f x) (g x)):kT (fU f x) (AI.iter g x):=λy I=>zj (kT.iterN h _ x y I)
def orE {R:Type} (a b:Option R):Option R:=match a with|some y=>af y|none=>b
def fuel:Nat:=Classical.choose (⟨100000,rfl⟩:∃ n:Nat,n=100000)
theorem jV:fuel=100000:=Classical.choose_spec (⟨100000,rfl⟩:∃ n:Nat,n=100000)
def G4 (a:Ty):Ty->Ty
 |.un=>a
 |.int k=>.pr a (.int k)
 |.bool=>.pr a .bool
 |.str=>.pr a .str
 |.sl t=>.pr a (.sl t)
 |.st t=>.pr a (.st t)
 |.pr x y=>.pr a (.pr x y)
 |.ex=>.pr a .ex
 |.sm=>.pr a .sm
def spr:Ty->Ty->Ty
 |.un,b=>b
 |.int k,b=>G4 (.int k) b
 |.bool,b=>G4 .bool b
 |.str,b=>G4 .str b
 |.sl t,b=>G4 (.sl t) b
 |.st t,b=>G4 (.st t) b
 |.pr x y,b=>G4 (.pr x y) b
 |.ex,b=>G4 .ex b
 |.sm,b=>G4 .sm b
def QE (a:Ty):(b:Ty)->a.den->b.den->(G4 a b).den
 |.un,x,_=>x
 |.int _,x,y=>(x,y)
 |.bool,x,y=>(x,y)
 |.str,x,y=>(x,y)
 |.sl _,x,y=>(x,y)
 |.st _,x,y=>(x,y)
 |.pr _ _,x,y=>(x,y)
 |.ex,x,y=>(x,y)
 |.sm,x,y=>(x,y)
def fsN (a:Ty):(b:Ty)->(G4 a b).den->a.den
 |.un,z=>z
 |.int _,z=>z.1
 |.bool,z=>z.1
 |.str,z=>z.1
 |.sl _,z=>z.1
 |.st _,z=>z.1
 |.pr _ _,z=>z.1
 |.ex,z=>z.1
 |.sm,z=>z.1
def snN (a:Ty):(b:Ty)->(G4 a b).den->b.den
 |.un,_=>()
 |.int _,z=>z.2
 |.bool,z=>z.2
 |.str,z=>z.2
 |.sl _,z=>z.2
 |.st _,z=>z.2
 |.pr _ _,z=>z.2
 |.ex,z=>z.2
 |.sm,z=>z.2
def Ui:(a b:Ty)->a.den->b.den->(spr a b).den
 |.un,_,_,y=>y
 |.int k,b,x,y=>QE (.int k) b x y
 |.bool,b,x,y=>QE .bool b x y
 |.str,b,x,y=>QE .str b x y
 |.sl t,b,x,y=>QE (.sl t) b x y
 |.st t,b,x,y=>QE (.st t) b x y
 |.pr u v,b,x,y=>QE (.pr u v) b x y
 |.ex,b,x,y=>QE .ex b x y
 |.sm,b,x,y=>QE .sm b x y
def OO:(a b:Ty)->(spr a b).den->a.den
 |.un,_,_=>()
 |.int k,b,z=>fsN (.int k) b z
 |.bool,b,z=>fsN .bool b z
 |.str,b,z=>fsN .str b z
 |.sl t,b,z=>fsN (.sl t) b z
 |.st t,b,z=>fsN (.st t) b z
 |.pr u v,b,z=>fsN (.pr u v) b z
 |.ex,b,z=>fsN .ex b z
 |.sm,b,z=>fsN .sm b z
def Lm:(a b:Ty)->(spr a b).den->b.den
 |.un,_,z=>z
 |.int k,b,z=>snN (.int k) b z
 |.bool,b,z=>snN .bool b z
 |.str,b,z=>snN .str b z
 |.sl t,b,z=>snN (.sl t) b z
 |.st t,b,z=>snN (.st t) b z
 |.pr u v,b,z=>snN (.pr u v) b z
 |.ex,b,z=>snN .ex b z
 |.sm,b,z=>snN .sm b z
theorem tN (a b:Ty) (x:a.den) (y:b.den):OO a b (Ui a b x y)=x:=by cases a<;>cases b<;>rfl
theorem vb (a b:Ty) (x:a.den) (y:b.den):Lm a b (Ui a b x y)=y:=by cases a<;>cases b<;>rfl
inductive TV where
 |f (T:Ty) (v:T.den)
 |fel (T:Ty) (xs:List T.den) (j:Int) (h:fk j xs.length=ai) (off:Nat)
 |pel (id sz:Nat) (j:Int) (off:Nat)
 |ptr (id off:Nat)
 |row (id:Nat)
 |csl (id sz n:Nat)
 |emp
 |nil
 |mp (id:Nat)
 |agg (l:List TV)
 |tup (l:List TV)
 |clo (g:FuncId) (l:List TV)
 |undef
 |np
 |anyb
 |rtl (id:Nat) (j:Int)
inductive iz where
 |rows (ty:TypeId) (p:Bool) (T:Ty) (xs:List T.den)
 |cells (ty:TypeId) (l:List TV)
 |dead (p:Bool) (sz n:Nat)
 |mp (K V:Ty) (es:List (K.den×V.den))
abbrev iS:=PT TV
abbrev bk:=PT iz
def cst:Value->Option TV
 |.int k n=>af (.f (.int k) n)
 |.bool b=>af (.f .bool b)
 |.string s=>af (.f .str s.data.toList)
 |.slice ah 0 0=>af .nil
 |.pointer ah=>af .np
 |_=>ah
def Kg:List Value->Option (List TV)
 |[]=>af []
 |v::r=>match cst v,Kg r with|some x,af l=>af (x::l)|_,_=>ah
def ain:Value->Option TV
 |.agg vs=>if Kz vs.toList then (match Kg vs.toList with|some l=>af (.agg l)|none=>ah) else ah
 |v=>cst v
def cellsOf:Nat->(T:Ty)->T.den->Option (List TV)
 |0,_,_=>ah
 |n+1,.st t,v=>cellsOf n t v
 |n+1,.pr a b,v=>match cellsOf n a v.1,cellsOf n b v.2 with|some x,af y=>af (x++y)|_,_=>ah
 |_+1,.un,_=>af []
 |n+1,.ex,v=>cellsOf n MU (NI v)
 |n+1,.sm,v=>cellsOf n Mu (NH v)
 |_+1,.int k,v=>af [.f (.int k) v]
 |_+1,.bool,v=>af [.f .bool v]
 |_+1,.str,v=>af [.f .str v]
 |_+1,.sl t,v=>af [.f (.sl t) v]
def TV.isC:TV->Bool
 |.f T _=>T.one
 |.fel _ _ _ _ _=>ai
 |.pel _ _ _ _=>ai
 |.ptr _ _=>ai
 |.row _=>ai
 |.csl _ _ _=>ai
 |.emp=>ai
 |.nil=>ai
 |.np=>ai
 |.mp _=>ai
 |.clo _ _=>ai
 |_=>aj
def kA:List TV->Bool
 |[]=>ai
 |x::r=>x.isC&&kA r
def TV.cs (v:TV):Option (List TV):=match v with
 |.agg l=>if kA l then af l else ah
 |.f T x=>cellsOf 40 T x
 |x=>if x.isC then af [x] else ah
def kR (i:Nat):Nat:=1<<<i
def iN (h:bk) (T:Ty):TV->Option (T.den×Nat)
 |.f _ v=>match wW T v with|some x=>af (x,0)|none=>ah
 |.emp=>(match T with|.sl _=>af ([],0)|_=>ah)
 |.nil=>(match T with|.sl _=>af ([],0)|_=>ah)
 |.row id=>match h.get id with
  |some (.rows _ _ S xs)=>(match wW (S:=.sl S) T xs with|some x=>af (x,kR id)|none=>ah)
  |_=>ah
 |_=>ah
def fc (h:bk):Nat->(T:Ty)->List TV->Option (T.den×Nat×List TV)
 |0,_,_=>ah
 |n+1,.st t,l=>fc h n t l
 |n+1,.pr a b,l=>match fc h n a l with
  |some (x,m,r)=>(match fc h n b r with|some (y,m',I)=>af ((x,y),m|||m',I)|none=>ah)
  |none=>ah
 |_+1,.un,l=>af ((),0,l)
 |n+1,.ex,l=>match fc h n MU l with|some (x,m,r)=>af (eh x,m,r)|none=>ah
 |n+1,.sm,l=>match fc h n Mu l with|some (x,m,r)=>af (nO x,m,r)|none=>ah
 |_+1,.int k,l=>match l with|c::r=>(match iN h (.int k) c with|some (x,m)=>af (x,m,r)|none=>ah)|[]=>ah
 |_+1,.bool,l=>match l with|c::r=>(match iN h .bool c with|some (x,m)=>af (x,m,r)|none=>ah)|[]=>ah
 |_+1,.str,l=>match l with|c::r=>(match iN h .str c with|some (x,m)=>af (x,m,r)|none=>ah)|[]=>ah
 |_+1,.sl t,l=>match l with|c::r=>(match iN h (.sl t) c with|some (x,m)=>af (x,m,r)|none=>ah)|[]=>ah
def DW (h:bk) (T:Ty) (v:TV):Option (T.den×Nat):=match v with
 |.agg l=>if T.one then ah else (match fc h 40 T l with|some (x,m,[])=>af (x,m)|_=>ah)
 |x=>iN h T x
def og:Nat->(T:Ty)->T.den->Nat->Nat->Bool->Option TV
 |0,_,_,_,_,_=>ah
 |n+1,.st t,v,off,sz,ag=>if aC off 0&&aC sz t.size&&ag then af (.f (.st t) v) else og n t v off sz ag
 |n+1,.pr a b,v,off,sz,ag=>if gk off a.size then og n a v.1 off sz ag else og n b v.2 (off-a.size) sz ag
 |_+1,.un,_,_,_,_=>ah
 |n+1,.ex,v,off,sz,ag=>if aC off 0&&aC sz 4&&ag then af (.f .ex v) else og n MU (NI v) off sz ag
 |n+1,.sm,v,off,sz,ag=>if aC off 0&&aC sz 11&&ag then af (.f .sm v) else og n Mu (NH v) off sz ag
 |_+1,.int k,v,off,sz,ag=>if aC off 0&&aC sz 1&& !ag then af (.f (.int k) v) else ah
 |_+1,.bool,v,off,sz,ag=>if aC off 0&&aC sz 1&& !ag then af (.f .bool v) else ah
 |_+1,.str,v,off,sz,ag=>if aC off 0&&aC sz 1&& !ag then af (.f .str v) else ah
 |_+1,.sl t,v,off,sz,ag=>if aC off 0&&aC sz 1&& !ag then af (.f (.sl t) v) else ah
def gR (h:bk) (x:TV):Nat->(T:Ty)->T.den->Nat->Nat->Option (T.den×Nat)
 |0,_,_,_,_=>ah
 |n+1,.st t,v,off,sz=>match (if aC off 0&&aC sz t.size then DW h (.st t) x else ah) with
  |some y=>af y
  |none=>gR h x n t v off sz
 |n+1,.pr a b,v,off,sz=>if gk off a.size then (match gR h x n a v.1 off sz with|some (y,m)=>af ((y,v.2),m)|none=>ah) else (match gR h x n b v.2 (off-a.size) sz with|some (y,m)=>af ((v.1,y),m)|none=>ah)
 |_+1,.un,_,_,_=>ah
 |n+1,.ex,v,off,sz=>match (if aC off 0&&aC sz 4 then DW h .ex x else ah) with
  |some y=>af y
  |none=>(match gR h x n MU (NI v) off sz with|some (y,m)=>af (eh y,m)|none=>ah)
 |n+1,.sm,v,off,sz=>match (if aC off 0&&aC sz 11 then DW h .sm x else ah) with
  |some y=>af y
  |none=>(match gR h x n Mu (NH v) off sz with|some (y,m)=>af (nO y,m)|none=>ah)
 |_+1,.int k,_,off,sz=>if aC off 0&&aC sz 1 then iN h (.int k) x else ah
 |_+1,.bool,_,off,sz=>if aC off 0&&aC sz 1 then iN h .bool x else ah
 |_+1,.str,_,off,sz=>if aC off 0&&aC sz 1 then iN h .str x else ah
 |_+1,.sl t,_,off,sz=>if aC off 0&&aC sz 1 then iN h (.sl t) x else ah
def yW (h:bk) (T:Ty):Nat->List TV->Option (List T.den×Nat)
 |0,[]=>af ([],0)
 |0,_::_=>ah
 |n+1,l=>match fc h 40 T l with
  |some (x,m,r)=>(match yW h T n r with|some (xs,m')=>af (x::xs,m|||m')|none=>ah)
  |none=>ah
def s6:Ty->List Value
 |.int k=>[.int k 0]
 |.bool=>[.bool aj]
 |.str=>[.string ⟨#[]⟩]
 |.sl _=>[.slice ah 0 0]
 |.st t=>s6 t
 |.pr a b=>s6 a++s6 b
 |.un=>[]
 |.ex=>[.int .i64 0,.int .i64 0,.string ⟨#[]⟩,.slice ah 0 0]
 |.sm=>[.int .i64 0,.int .i64 0,.string ⟨#[]⟩,.string ⟨#[]⟩,.slice ah 0 0,.int .i64 0,.int .i64 0,.string ⟨#[]⟩,.slice ah 0 0,.slice ah 0 0,.slice ah 0 0]
def SA:List Value->List Value->Bool
 |[],[]=>ai
 |x::xs,y::I=>aiv x y&&SA xs I
 |_,_=>aj
def Ty.flat:Ty->Bool
 |.int _=>ai
 |.bool=>ai
 |.str=>ai
 |.st t=>t.flat
 |.pr a b=>a.flat&&b.flat
 |.un=>ai
 |_=>aj
def qW:List TypeDesc->Option Ty
 |[]=>af .un
 |.int k::r=>match qW r with|some t=>af (.pr (.int k) t)|none=>ah
 |.bool::r=>match qW r with|some t=>af (.pr .bool t)|none=>ah
 |.string::r=>match qW r with|some t=>af (.pr .str t)|none=>ah
 |_=>ah
inductive PV where
 |d (T:Ty)
 |ptr (id off:Nat)
 |row (id:Nat)
 |csl (id sz n:Nat)
 |mp (id:Nat)
 |nil
 |emp
 |clo (q:FuncId) (id off:Nat)
 |agg (l:List PV)
inductive PB where
 |rows (ty:TypeId) (p:Bool) (T:Ty)
 |rowsP (ty:TypeId) (T:Ty)
 |cells (ty:TypeId) (l:List PV)
 |mp (K V:Ty)
 |gone
mutual
def PV.ty:PV->Ty
 |.d T=>T
 |.agg l=>PV.tyL l
 |.ptr _ _=>.un
 |.row _=>.un
 |.csl _ _ _=>.un
 |.clo _ _ _=>.un
 |.mp _=>.un
 |.nil=>.un
 |.emp=>.un
def PV.tyL:List PV->Ty
 |[]=>.un
 |p::r=>spr p.ty (PV.tyL r)
end
def PB.ty:PB->Ty
 |.rows _ _ T=>.sl T
 |.rowsP _ T=>.pr .bool (.sl T)
 |.cells _ l=>PV.tyL l
 |.mp K V=>.sl (.pr K V)
 |.gone=>.un
def PB.tyL:List PB->Ty
 |[]=>.un
 |p::r=>spr p.ty (PB.tyL r)
structure Tm where
 vs:List PV
 bs:List PB
def Tm.ty (t:Tm):Ty:=spr (PV.tyL t.vs) (PB.tyL t.bs)
mutual
def px (g:Nat->Nat) (h:bk):(p:PV)->List TV->Option (p.ty.den×Nat×List TV)
 |.d T,l=>fc h 40 T l
 |.ptr i o,l=>match l with|.ptr i' o'::r=>if aC (g i) i'&&aC o o' then af ((),0,r) else ah|_=>ah
 |.row i,l=>match l with|.row i'::r=>if aC (g i) i' then af ((),0,r) else ah|_=>ah
 |.csl i s n,l=>match l with|.csl i' s' n'::r=>if aC (g i) i'&&aC s s'&&aC n n' then af ((),0,r) else ah|_=>ah
 |.clo q i o,l=>match l with|.clo q' [.ptr i' o']::r=>if aC q q'&&aC (g i) i'&&aC o o' then af ((),0,r) else ah|_=>ah
 |.mp i,l=>match l with|.mp i'::r=>if aC (g i) i' then af ((),0,r) else ah|_=>ah
 |.nil,l=>match l with|.nil::r=>af ((),0,r)|_=>ah
 |.emp,l=>match l with|.nil::r=>af ((),0,r)|.emp::r=>af ((),0,r)|_=>ah
 |.agg ps,l=>zw g h ps l
def zw (g:Nat->Nat) (h:bk):(ps:List PV)->List TV->Option ((PV.tyL ps).den×Nat×List TV)
 |[],l=>af ((),0,l)
 |p::r,l=>match px g h p l with
  |some (x,m,l')=>(match zw g h r l' with|some (y,m',l'')=>af (Ui p.ty (PV.tyL r) x y,m|||m',l'')|none=>ah)
  |none=>ah
end
def xH (g:Nat->Nat) (h:bk):(p:PV)->TV->Option (p.ty.den×Nat)
 |.d T,v=>DW h T v
 |.agg ps,v=>if v.isC then ah else (match v.cs with
  |some l=>(match zw g h ps l with|some (x,m,[])=>af (x,m)|_=>ah)
  |none=>ah)
 |.ptr i o,v=>match px g h (.ptr i o) [v] with|some (x,m,_)=>af (x,m)|none=>ah
 |.row i,v=>match px g h (.row i) [v] with|some (x,m,_)=>af (x,m)|none=>ah
 |.csl i s n,v=>match px g h (.csl i s n) [v] with|some (x,m,_)=>af (x,m)|none=>ah
 |.clo q i o,v=>match px g h (.clo q i o) [v] with|some (x,m,_)=>af (x,m)|none=>ah
 |.mp i,v=>match px g h (.mp i) [v] with|some (x,m,_)=>af (x,m)|none=>ah
 |.nil,v=>match px g h .nil [v] with|some (x,m,_)=>af (x,m)|none=>ah
 |.emp,v=>match px g h .emp [v] with|some (x,m,_)=>af (x,m)|none=>ah
def yk (g:Nat->Nat) (h:bk):(ps:List PV)->List TV->Option ((PV.tyL ps).den×Nat)
 |[],[]=>af ((),0)
 |p::r,v::vs=>match xH g h p v with
  |some (x,m)=>(match yk g h r vs with|some (y,m')=>af (Ui p.ty (PV.tyL r) x y,m|||m')|none=>ah)
  |none=>ah
 |[],_::_=>ah
 |_::_,[]=>ah
def E4 (g:Nat->Nat) (h:bk) (i:Nat):(b:PB)->Option (b.ty.den×Nat)
 |.rows ty p T=>match h.get (g i) with
  |some (.rows ty' I S xs)=>if ty==ty'&&p==I then (match wW (S:=.sl S) (.sl T) xs with|some x=>af (x,0)|none=>ah) else ah
  |_=>ah
 |.rowsP ty T=>match h.get (g i) with
  |some (.rows ty' I S xs)=>if ty==ty' then (match wW (S:=.sl S) (.sl T) xs with|some x=>af ((I,x),0)|none=>ah) else ah
  |_=>ah
 |.cells ty ps=>match h.get (g i) with
  |some (.cells ty' l)=>if ty==ty' then (match zw g h ps l with|some (x,m,[])=>af (x,m)|_=>ah) else ah
  |_=>ah
 |.mp K V=>match h.get (g i) with
  |some (.mp K' V' es)=>(match wW (S:=.sl (.pr K' V')) (.sl (.pr K V)) es with|some x=>af (x,0)|none=>ah)
  |_=>ah
 |.gone=>af ((),0)
def AY (g:Nat->Nat) (h:bk):Nat->(bs:List PB)->Option ((PB.tyL bs).den×Nat)
 |_,[]=>af ((),0)
 |i,b::r=>match E4 g h i b with
  |some (x,m)=>(match AY g h (i+1) r with|some (y,m')=>af (Ui b.ty (PB.tyL r) x y,m|||m')|none=>ah)
  |none=>ah
mutual
def pW (g:Nat->Nat):(p:PV)->p.ty.den->Option (List TV)
 |.d T,x=>cellsOf 40 T x
 |.ptr i o,_=>af [.ptr (g i) o]
 |.row i,_=>af [.row (g i)]
 |.csl i s n,_=>af [.csl (g i) s n]
 |.mp i,_=>af [.mp (g i)]
 |.clo q i o,_=>af [.clo q [.ptr (g i) o]]
 |.nil,_=>af [.nil]
 |.emp,_=>af [.emp]
 |.agg ps,x=>qU g ps x
def qU (g:Nat->Nat):(ps:List PV)->(PV.tyL ps).den->Option (List TV)
 |[],_=>af []
 |p::r,x=>match pW g p (OO p.ty (PV.tyL r) x) with
  |some a=>(match qU g r (Lm p.ty (PV.tyL r) x) with|some b=>af (a++b)|none=>ah)
  |none=>ah
end
def tF (g:Nat->Nat):(p:PV)->p.ty.den->Option TV
 |.d T,x=>af (.f T x)
 |.ptr i o,_=>af (.ptr (g i) o)
 |.row i,_=>af (.row (g i))
 |.csl i s n,_=>af (.csl (g i) s n)
 |.mp i,_=>af (.mp (g i))
 |.clo q i o,_=>af (.clo q [.ptr (g i) o])
 |.nil,_=>af .nil
 |.emp,_=>af .emp
 |.agg ps,x=>match qU g ps x with|some l=>af (.agg l)|none=>ah
def qb (g:Nat->Nat):(ps:List PV)->(PV.tyL ps).den->Option (List TV)
 |[],_=>af []
 |p::r,x=>match tF g p (OO p.ty (PV.tyL r) x) with
  |some a=>(match qb g r (Lm p.ty (PV.tyL r) x) with|some b=>af (a::b)|none=>ah)
  |none=>ah
def CI (g:Nat->Nat):(b:PB)->b.ty.den->Option (Option iz)
 |.rows ty p T,x=>af (af (.rows ty p T x))
 |.rowsP ty T,x=>af (af (.rows ty x.1 T x.2))
 |.cells ty ps,x=>match qU g ps x with|some l=>af (af (.cells ty l))|none=>ah
 |.mp K V,x=>af (af (.mp K V x))
 |.gone,_=>af ah
def vk:iz->iz
 |.rows _ p T xs=>.dead p T.size xs.length
 |.cells _ _=>.dead ai 0 0
 |.mp _ _ _=>.dead ai 0 0
 |.dead p sz n=>.dead p sz n
def kill (h:bk) (i:Nat):bk:=match h.get i with
 |some b=>h.set i (af (vk b))
 |none=>h
def oE (g:Nat->Nat):(bs:List PB)->(PB.tyL bs).den->Option (List (Option iz))
 |[],_=>af []
 |b::r,x=>match CI g b (OO b.ty (PB.tyL r) x) with
  |some c=>(match oE g r (Lm b.ty (PB.tyL r) x) with|some l=>af (c::l)|none=>ah)
  |none=>ah
def AE (g:Nat->Nat):Nat->List (Option iz)->bk->bk
 |_,[],h=>h
 |i,af c::r,h=>AE g (i+1) r (h.set (g i) (af c))
 |i,ah::r,h=>AE g (i+1) r (kill h (g i))
def Mz (g:Nat->Nat) (bs:List PB) (x:(PB.tyL bs).den) (h:bk):Option bk:=match oE g bs x with
 |some l=>af (AE g 0 l h)
 |none=>ah
def s_ {K V:Ty} (k:K.den):List (K.den×V.den)->Option V.den
 |[]=>ah
 |(k',v)::r=>if Lj K k k' then af v else s_ k r
def CQ {K V:Ty} (k:K.den) (v:V.den):List (K.den×V.den)->List (K.den×V.den)
 |[]=>[(k,v)]
 |(k',I)::r=>if Lj K k k' then (k,v)::r else (k',I)::CQ k v r
def Oc {K V:Ty} (k:K.den) (es:List (K.den×V.den)):Bool:=match s_ k es with|some _=>ai|none=>aj
def s9 {K V:Ty} (k:K.den) (es:List (K.den×V.den)) (z:V.den):V.den:=match s_ k es with|some v=>v|none=>z
def ald (T:Ty):Nat->Ty
 |0=>.un
 |1=>T
 |n+2=>.pr T (ald T (n+1))
def kwT:Ty:=.st (ald .str 22)
def kwV:kwT.den:=([118,97,114],[118,111,108,97,116,105,108,101],[109,117,116,101,120],[114,119,108,111,99,107],[99,111,110,100],[102,117,116,117,114,101],[116,104,114,101,97,100],[105,102],[101,108,115,101],[119,104,105,108,101],[108,111,99,107],[114,101,97,100],[119,114,105,116,101],[116,114,97,110,115,97,99,116,105,111,110],[97,116,111,109,105,99],[119,97,105,116],[110,111,116,105,102,121],[110,111,116,105,102,121,97,108,108],[115,112,97,119,110],[106,111,105,110],[115,101,116],[103,101,116])
@[simp] theorem dI {R:Type} (t f:Option R):bcase ai t f=t:=Eq.trans rfl rfl
@[simp] theorem ec {R:Type} (t f:Option R):bcase aj t f=f:=Eq.trans rfl rfl
@[simp] theorem chk_t {R:Type} (k:ai=ai->Option R):chk ai k=k rfl:=Eq.trans rfl rfl
theorem cB {R:Type} {b:Bool} (h:b=ai) (k:Option R):chk b (λ_=>k)=k:=by cases b with|true=>rfl|false=>cases h
@[simp] theorem c9 {α R:Type} (x:α) (k:α->Option R):obind (af x) k=k x:=Eq.trans rfl rfl
@[simp] theorem mo {α R:Type} (x:α) (k:α->Option R):jn (af (.inr x)) k=k x:=Eq.trans rfl rfl
@[simp] theorem jn_l {α R:Type} (r:R) (k:α->Option R):jn (af (.inl r)) k=af r:=Eq.trans rfl rfl
theorem aed {σ R:Type} {f:σ->Option (σ⊕R)} {n:Nat} {x:σ} {r:R} (h:iterN f n x=af r) (hn:n<=18446744073709551616):fU f x=af r:=zl h hn
theorem zk {σ R:Type} {f:σ->Option (σ⊕R)} (n:Nat) (hn:n<18446744073709551616) (st:Nat->σ) {r:R} (h0:∀ i,i<n->f (st i)=af (.inl (st (i+1)))) (h1:f (st n)=af (.inr r)):fU f (st 0)=af r:=by
 have key:∀ k i,i+k=n->iterN f (k+1) (st i)=af r:=by
  intro k;induction k with
  |zero=>intro i hi;have:i=n:=by omega
         subst this;simp only[iterN,h1]
  |succ k I=>intro i hi;rw[iterN,h0 i (by omega)];exact I (i+1) (by omega)
 exact aed (key n 0 (by omega)) (by omega)
@[simp] theorem aar {a b:Int}:cY a b=ai↔a<=b:=by unfold cY;simp
@[simp] theorem aaq {a b:Int}:fX a b=ai↔a<b:=by unfold fX;simp
theorem qV {a b:Int} (h:a<=b):cY a b=ai:=aar.2 h
theorem vm {a b:Int} (h:a<b):fX a b=ai:=aaq.2 h
theorem aas {a b:Int} (h:b<a):cY a b=aj:=by unfold cY;simp;omega
theorem ye {a b:Int} (h:b<=a):fX a b=aj:=by unfold fX;simp;omega
theorem aln {j:Int} {n:Nat} (h0:0<=j) (h1:j<n):fk j n=ai:=by unfold fk;rw[qV h0,vm h1];rfl
theorem c5 {j n:Nat} (h1:j<n):fk (j:Int) n=ai:=aln (by omega) (by omega)
theorem xo {n b:Nat} (h0:n<=1099511627776) (h1:n*b<=1099511627776):bc n b=ai:=by
 unfold bc;rw[bE h0,bE h1];rfl
theorem agi {n:Int} (h0: -9223372036854775808<=n) (h1:n<=9223372036854775807):bn .i64 n=n:=by
 rw[HI];unfold Mn;simp only[];rw[qV h0,qV h1];rfl
theorem pE {i n:Nat} (h:i<n) (hn:n<=1099511627776):bn .i64 ((i:Int)+1)=((i+1:Nat):Int):=by
 rw[agi (by omega) (by omega)];omega
theorem zm (a b:Nat):jL (aQ a) (aQ b)=((max a b:Nat):Int):=by
 unfold jL;by_cases h:a<b
 .rw[vm (by simp;omega),aE rfl];simp;omega
 .rw[ye (by simp;omega)];simp;omega
theorem uz {T:Ty} (xs:List T.den) (i:Nat):aJ xs (i:Int)=xs.getD i T.zero:=by unfold aJ;simp
theorem lI (xs:List (List Int)) (i:Nat):aJ (T:=.sl (.int .i64)) xs (i:Int)=xs.getD i []:=uz (T:=.sl (.int .i64)) xs i
theorem aig (xs:List Int) (i:Nat):aJ (T:=.int .i64) xs (i:Int)=xs.getD i 0:=uz (T:=.int .i64) xs i
theorem eB {α:Type} (xs:List α) (i:Nat) (x:α):cq xs (i:Int) x=xs.set i x:=by unfold cq;simp
structure cu where
 pre:Tm
 post:Tm
 m:pre.ty.den->Option post.ty.den
mutual
def aha:PV->List TV->PT Nat->PT Nat×List TV
 |.d T,l,σ=>(σ,l.drop T.size)
 |.ptr i _,l,σ=>match l with|.ptr a _::r=>(σ.set i (af a),r)|l=>(σ,l.drop 1)
 |.row i,l,σ=>match l with|.row a::r=>(σ.set i (af a),r)|l=>(σ,l.drop 1)
 |.csl i _ _,l,σ=>match l with|.csl a _ _::r=>(σ.set i (af a),r)|l=>(σ,l.drop 1)
 |.mp i,l,σ=>match l with|.mp a::r=>(σ.set i (af a),r)|l=>(σ,l.drop 1)
 |.clo _ i _,l,σ=>match l with|.clo _ [.ptr a _]::r=>(σ.set i (af a),r)|l=>(σ,l.drop 1)
 |.nil,l,σ=>(σ,l.drop 1)
 |.emp,l,σ=>(σ,l.drop 1)
 |.agg ps,l,σ=>VO ps l σ
def VO:List PV->List TV->PT Nat->PT Nat×List TV
 |[],l,σ=>(σ,l)
 |p::r,l,σ=>match aha p l σ with|(σ',l')=>VO r l' σ'
end
def am8 (p:PV) (v:TV) (σ:PT Nat):PT Nat:=match p with
 |.d _=>σ
 |p=>match v.cs with|some l=>(aha p l σ).1|none=>σ
def aby:List PV->List TV->PT Nat->PT Nat
 |p::r,v::vs,σ=>aby r vs (am8 p v σ)
 |_,_,σ=>σ
def VP (h:bk):Nat->List PB->PT Nat->PT Nat
 |_,[],σ=>σ
 |i,b::r,σ=>VP h (i+1) r (match b with
  |.cells _ ps=>(match σ.get i with
   |some a=>(match h.get a with|some (.cells _ l)=>(VO ps l σ).1|_=>σ)
   |none=>σ)
  |_=>σ)
def ij (σ:PT Nat) (i:Nat):Nat:=match σ.get i with|some a=>a|none=>0
def ZV (σ:PT Nat):Nat->Nat->Nat->Option Nat
 |0,_,acc=>af acc
 |n+1,i,acc=>match σ.get i with
  |some a=>if aN acc a then ah else ZV σ n (i+1) (acc|||kR a)
  |none=>ah
def idn:Nat->PT Nat
 |0=>.leaf
 |n+1=>(idn n).set n (af n)
def W3 (σ:PT Nat):Nat->Bool
 |0=>ai
 |n+1=>(match σ.get n with|some a=>aC a n|none=>aj)&&W3 σ n
structure aho (t:Tm) where
 x:t.ty.den
 m:Nat
 σ:PT Nat
 sm:Nat
def EA (np:Nat) (t:Tm) (vs:List TV) (h:bk):Option (aho t):=
 Rl (VP h 0 t.bs (VP h 0 t.bs (aby t.vs vs (idn np)))) λσ=>
 match ZV σ t.bs.length 0 0 with
 |some sm=>(match yk (ij σ) h t.vs vs with
  |some (x,m)=>(match AY (ij σ) h 0 t.bs with
   |some (y,m')=>if DG (m|||m') sm&&W3 σ np then af ⟨Ui _ _ x y,m|||m',σ,sm⟩ else ah
   |none=>ah)
  |none=>ah)
 |none=>ah
def PT.updI {α:Type} (f:Nat->α->α):Nat->Nat->PT α->PT α
 |_,_,.leaf=>.leaf
 |a,b,.node v l r=>.node (match v with|some x=>af (f b x)|none=>ah) (PT.updI f (2*a) (a+b) l) (PT.updI f (2*a) (2*a+b) r)
def eK (m:Nat) (h:bk):bk:=if aC m 0 then h else PT.updI (λi b=>if aN m i then vk b else b) 1 0 h
def Up:Operand->Bool
 |.const (.agg _)=>ai
 |_=>aj
def fO (e:iS):Operand->Option TV
 |.tmp t=>e.get t
 |.const v=>ain v
 |.func g=>af (.clo g [])
 |.global g=>match G g with|some _=>af (.fel kwT [kwV] 0 (Eq.refl ai) 0)|none=>ah
def FL (e:iS):List Operand->Option (List TV)
 |[]=>af []
 |x::xs=>match fO e x with|some y=>(match FL e xs with|some I=>af (y::I)|none=>ah)|none=>ah
def Jw (cells:List TV) (e:iS):List (Nat×Nat×Operand)->Option (List TV)
 |[]=>af cells
 |(off,sz,x)::r=>match fO e x with
  |some v=>(match v.cs with
   |some cs=>if cs.length==sz&&eQ (off+sz) cells.length then Jw (splice cells off cs) e r else ah
   |none=>ah)
  |none=>ah
def TQ (l:List TV) (off sz:Nat):Bool->Option TV
 |false=>if aC sz 1 then l[off]? else ah
 |true=>if eQ (off+sz) l.length then af (.agg ((l.drop off).take sz)) else ah
def eJ (h:bk) (id:Nat):Option (Bool×Nat×Nat):=match h.get id with
 |some (.rows _ p T xs)=>af (p,T.size,xs.length)
 |some (.dead p sz n)=>af (p,sz,n)
 |_=>ah
def lenOf (h:bk):TV->Option Nat
 |.f (.sl _) xs=>af (al xs)
 |.emp=>af 0
 |.nil=>af 0
 |.row id=>match eJ h id with|some (_,_,n)=>af n|none=>ah
 |.csl _ _ n=>af n
 |_=>ah
mutual
def Lt (h:bk):TV->Bool
 |.row id=>(eJ h id).isSome
 |.rtl id _=>(eJ h id).isSome
 |.agg l=>kU h l
 |.tup l=>kU h l
 |.clo _ l=>kU h l
 |.f _ _=>ai
 |.fel _ _ _ _ _=>ai
 |.pel _ _ _ _=>ai
 |.ptr _ _=>ai
 |.csl _ _ _=>ai
 |.emp=>ai
 |.nil=>ai
 |.mp _=>ai
 |.undef=>ai
 |.np=>ai
 |.anyb=>ai
def kU (h:bk):List TV->Bool
 |[]=>ai
 |x::r=>Lt h x&&kU h r
end
mutual
def Lv (n:Nat):TV->Bool
 |.row id=>gk id n
 |.rtl id _=>gk id n
 |.pel id _ _ _=>gk id n
 |.ptr id _=>gk id n
 |.csl id _ _=>gk id n
 |.mp id=>gk id n
 |.agg l=>rC n l
 |.tup l=>rC n l
 |.clo _ l=>rC n l
 |.f _ _=>ai
 |.fel _ _ _ _ _=>ai
 |.emp=>ai
 |.nil=>ai
 |.undef=>ai
 |.np=>ai
 |.anyb=>ai
def rC (n:Nat):List TV->Bool
 |[]=>ai
 |x::r=>Lv n x&&rC n r
end
def C2 (t:Tm) (x:t.ty.den):Option (List TV×bk):=
 match qb (λi=>i) t.vs (OO _ _ x) with
 |some vs=>(match Mz (λi=>i) t.bs (Lm _ _ x) PT.leaf with
  |some h=>if kU h vs&&rC t.bs.length vs&&PT.all (λ_ b=>match b with|.cells _ l=>kU h l&&rC t.bs.length l|_=>ai) 1 0 h then af (vs,h) else ah
  |none=>ah)
 |none=>ah
abbrev KO (R:Type):=TV->Nat->Nat->bk->Nat->Option R
def Qk:List TV->TV
 |[x]=>x
 |l=>.tup l
def BN:List PB->Bool
 |[]=>ai
 |.gone::_=>aj
 |_::r=>BN r
def H7:List PB->Bool
 |[]=>ai
 |.rows _ _ _::r=>H7 r
 |_::_=>aj
def ua (h h2:bk) (g:Nat->Nat):Nat->Bool
 |0=>ai
 |n+1=>(match eJ h (g n) with
  |some (p,s,k)=>(match eJ h2 (g n) with|some (I,s',k')=>(p==I)&&aC s s'&&aC k k'|none=>aj)
  |none=>ai)&&ua h h2 g n
def Xn {R:Type} (con:FuncId->Option cu) (f:FuncId) (l:List TV) (h:bk) (nx:Nat) (K:KO R):Option R:=
 match con f with
 |some c=>(match EA 0 c.pre l h with
  |some ⟨x,m,σ,sm⟩=>(match C2 c.pre x with
   |some _=>obind (c.m x) λy=>(match C2 c.post y with
    |some _=>if eQ c.pre.bs.length c.post.bs.length&&BN c.pre.bs then
      let np:=c.pre.bs.length
      let I:=c.post.bs.length-np
      let g:=λi=>if gk i np then ij σ i else nx+(i-np)
      (match qb g c.post.vs (OO _ _ y) with
      |some rs=>if !(aC m 0)&&aC c.post.bs.length 0&&(PV.tyL c.post.vs).flat then K (Qk rs) m 0 h nx else
       (match Mz g c.post.bs (Lm _ _ y) (eK m h) with
       |some h2=>chk (ua h h2 g np) λ_=>K (Qk rs) (sm|||m) (sm|||m|||(((1<<<I)-1)<<<nx)) h2 (nx+I)
       |none=>ah)
      |none=>ah) else if aC c.post.bs.length 0&&H7 c.pre.bs then
      let np:=c.pre.bs.length
      let g:=λi=>if gk i np then ij σ i else nx+(i-np)
      (match qb g c.post.vs (OO _ _ y) with
      |some rs=>(match Mz g c.pre.bs (Lm _ _ x) (eK m h) with
       |some h2=>K (Qk rs) (sm|||m) m h2 nx
       |none=>ah)
      |none=>ah) else ah
    |none=>ah)
   |none=>ah)
  |none=>ah)
 |none=>ah
def aiu {R:Type} (op:BinOp) (x y:TV) (q:TV->Option R):Option R:=
 match x,y with
 |.f (.int k) a,.f (.int k') b=>if k==k' then
   (match op with
   |.add=>q (.f (.int k) (bn k (a+b)))
   |.sub=>q (.f (.int k) (bn k (a-b)))
   |.mul=>q (.f (.int k) (bn k (a*b)))
   |.rem=>chk (!decide ((b:Int)=0)) λ_=>q (.f (.int k) (Ag a b))
   |.quo=>chk (!decide ((b:Int)=0)) λ_=>q (.f (.int k) (bn k (Int.tdiv a b)))
   |.eql=>q (.f .bool (decide ((a:Int)=b)))
   |.neq=>q (.f .bool (!decide ((a:Int)=b)))
   |.lss=>q (.f .bool (fX a b))
   |.leq=>q (.f .bool (cY a b))
   |.gtr=>q (.f .bool (fX b a))
   |.geq=>q (.f .bool (cY b a))
   |_=>ah)
  else ah
 |.f .str a,.f .str b=>match op with
   |.eql=>q (.f .bool (decide ((a:List UInt8)=b)))
   |.neq=>q (.f .bool (!decide ((a:List UInt8)=b)))
   |_=>ah
 |_,_=>ah
def X3:Bool->Ty->Bool
 |false,.int _=>ai
 |true,.str=>ai
 |_,_=>aj
abbrev itK:Ty:=.st (.pr .str (.int .i64))
def isIt:Ty->Bool
 |.st (.pr .str (.int .i64))=>ai
 |_=>aj
def Ug (K:Ty):Bool:= !isIt K
def PQ:List ((List UInt8×Int)×Unit)->List UInt8
 |[]=>[]
 |e::_=>e.1.1
def Oj:List ((List UInt8×Int)×Unit)->Nat
 |[]=>0
 |e::_=>aS e.1.2
def itE:(K V:Ty)->List (K.den×V.den)->Option (List UInt8×Nat)
 |.st (.pr .str (.int .i64)),.un,es=>af (PQ es,Oj es)
 |_,_,_=>ah
def mpE:(K V:Ty)->List (K.den×V.den)->Bool
 |.un,.un,[]=>ai
 |_,_,_=>aj
def yP (T:Ty):List TV->Option (List T.den)
 |[]=>af []
 |.f S v::r=>match wW (S:=S) T v with
  |some x=>(match yP T r with|some l=>af (x::l)|none=>ah)
  |none=>ah
 |_::_=>ah
def ac1:List TV->Option ((T:Ty)×List T.den)
 |.f T v::r=>match yP T (.f T v::r) with|some l=>af ⟨T,l⟩|none=>ah
 |_=>ah
def alp (n sz:Nat) (v:TV):Bool->Option ((T:Ty)×List T.den)
 |true=>ah
 |false=>if aC sz 1&& !v.isC then (match v.cs with|some l=>if aC l.length n then ac1 l else ah|none=>ah) else ah
def arrB (n sz off:Nat):Option iz->Option ((T:Ty)×List T.den)
 |some (.cells _ l)=>if aC sz 1&&aC off 0&&aC l.length n then ac1 l else ah
 |_=>ah
def ah3:Ty->Nat
 |.pr .un t=>ah3 t+1
 |_=>0
def DN:Option Ty->Option Nat
 |some (.pr .un t)=>af (ah3 t)
 |_=>ah
def ah7 {R:Type} (ty:TypeId) (sz bytes:Nat) (b y:TV) (h:bk) (nx:Nat) (K:KO R):Option R:=match y with
 |.csl id2 sz2 m=>(match h.get id2 with
  |some (.cells _ l2)=>if aC sz2 sz&&aC l2.length (m*sz)&& !(aC m 0) then (match b with
   |.csl id sz1 n=>(match h.get id with
    |some (.cells ty1 l)=>if aC sz1 sz&&ty1==ty&&aC l.length (n*sz)&& !(aC id id2) then
      chk (bc (n+m) bytes) λ_=>K (.csl nx sz (n+m)) (kR id|||kR id2) (kR id|||kR nx) ((h.set id (af (.dead ai 0 0))).set nx (af (.cells ty (l++l2)))) (nx+1) else ah
    |_=>ah)
   |.nil=>chk (bc m bytes) λ_=>K (.csl nx sz m) (kR id2) (0|||kR nx) ((eK 0 h).set nx (af (.cells ty l2))) (nx+1)
   |_=>ah) else ah
  |_=>ah)
 |_=>ah
def pkT (ok:Bool) (v b:TV):TV:=match ok with|true=>.tup [v,b]|false=>v
def dY {R:Type} (con:FuncId->Option cu) (b9:TypeId->Option Ty) (o:SI) (e:iS) (h:bk) (nx:Nat) (K:KO R):Option R:=
 match o with
 |.call f args=>match FL e args with|some l=>Xn con f l h nx K|none=>ah
 |.callv x args=>match fO e x,FL e args with
  |some (.clo f cap),af l=>Xn con f (l++cap) h nx K
  |_,_=>ah
 |.op s=>match s with
  |.mksl ty sz bytes z l c=>match DN (b9 ty) with
   |some n=>(match Kg z,fO e l,fO e c with
    |some J,af (.f (.int _) a),af (.f (.int _) b)=>chk (cY 0 a&&cY a b&&bc (aS b) bytes&&decide ((a:Int)=aQ n)) λ_=>K (.csl nx sz n) 0 (0|||kR nx) ((eK 0 h).set nx (af (.cells ty (aG n J).flatten))) (nx+1)
    |_,_,_=>ah)
   |none=>match b9 ty,fO e l,fO e c with
   |some T,af (.f (.int _) a),af (.f (.int _) b)=>if aC sz T.size&&SA z (s6 T) then
     chk (cY 0 a&&cY a b&&bc (aS b) bytes) λ_=>K (.row nx) 0 (kR nx) (h.set nx (af (.rows ty aj T (aG (aS a) T.zero)))) (nx+1) else ah
   |_,_,_=>ah
  |.bsl ty sz len z parts=>match DN (b9 ty) with
   |some _=>(match Kg z with
    |some J=>(match Jw ((aG len J).flatten) e parts with
     |some cs=>if aC len 0 then ah else K (.csl nx sz len) 0 (0|||kR nx) ((eK 0 h).set nx (af (.cells ty cs))) (nx+1)
     |none=>ah)
    |none=>ah)
   |none=>match b9 ty,Kg z with
   |some T,af J=>if aC sz T.size then (match Jw ((aG len J).flatten) e parts with
    |some cs=>(match yW h T len cs with
     |some (xs,m)=>K (.row nx) m (m|||kR nx) ((eK m h).set nx (af (.rows ty (aC len 0) T xs))) (nx+1)
     |none=>ah)
    |none=>ah) else ah
   |_,_=>ah
  |.app ty sz bytes s x=>match DN (b9 ty) with
   |some _=>(match fO e s,fO e x with
    |some b,af y=>ah7 ty sz bytes b y h nx K
    |_,_=>ah)
   |none=>match b9 ty,fO e s,fO e x with
   |some T,af b,af y=>if aC sz T.size then (match DW h (.sl T) y with
    |some (I,m)=>(match b with
     |.row id=>(match h.get id with
      |some (.rows ty' p S xs)=>(match wW (S:=.sl S) (.sl T) xs with
       |some xs=>if ty'==ty&& !(aN m id) then
         chk (bc (al xs+al I) bytes) λ_=>K (.row nx) (kR id|||m) (kR id|||kR nx) ((h.set id (af (.dead p sz (al xs)))).set nx (af (.rows ty p T (xs++I)))) (nx+1)
        else ah
       |none=>ah)
      |_=>ah)
     |.emp=>chk (bc (al I) bytes) λ_=>K (.row nx) m (kR nx) (h.set nx (af (.rows ty ai T I))) (nx+1)
     |.nil=>chk (bc (al I) bytes) λ_=>K (.row nx) m (kR nx) (h.set nx (af (.rows ty ai T I))) (nx+1)
     |_=>ah)
    |none=>ah) else ah
   |_,_,_=>ah
  |.copy sz d x=>match fO e d,fO e x with
   |some (.row id),af y=>(match h.get id with
    |some (.rows ty p T xs)=>if aC sz T.size then (match DW h (.sl T) y with
     |some (I,m)=>if !(aN m id)&& !p then
       K (.f (.int .i64) (aQ (iX (al I) (al xs)))) (kR id|||m) (kR id) (h.set id (af (.rows ty p T (TA xs I)))) nx else ah
     |none=>ah) else ah
    |_=>ah)
   |_,_=>ah
  |.clr sz z x=>match fO e x with
   |some (.rtl id j)=>(match h.get id with
    |some (.rows ty p T xs)=>if (aC sz T.size&&SA z (s6 T))&&mD z then
      chk (cY 0 j&&fX j (al xs)) λ_=>K (.tup []) (kR id) (0|||kR id) ((eK 0 h).set id (af (.rows ty p T (dA (aS j) xs++aG (al xs-aS j) T.zero)))) nx
     else ah
    |_=>ah)
   |_=>ah
  |.mv x=>match fO e x with|some v=>K v 0 0 h nx|none=>ah
  |.pick c a b=>match fO e c with
   |some (.f .bool t)=>bcase t (match fO e a with|some v=>K v 0 0 h nx|none=>ah) (match fO e b with|some v=>K v 0 0 h nx|none=>ah)
   |_=>ah
  |.alloc ty z=>match Kg z with
   |some l=>K (.ptr nx 0) 0 (kR nx) (h.set nx (af (.cells ty l))) (nx+1)
   |none=>ah
  |.box ty x=>match fO e x with
   |some v=>(match v.cs with|some l=>K (.ptr nx 0) 0 (kR nx) (h.set nx (af (.cells ty l))) (nx+1)|none=>ah)
   |none=>ah
  |.build z parts=>match Kg z with
   |some l=>(match Jw l e parts with|some cs=>K (.agg cs) 0 0 h nx|none=>ah)
   |none=>ah
  |.load sz ag x=>match fO e x with
   |some (.ptr id off)=>(match h.get id with
    |some (.cells _ l)=>(match TQ l off sz ag with|some v=>K v (kR id) 0 h nx|none=>ah)
    |_=>ah)
   |some (.pel id sz' j off)=>(match h.get id with
    |some (.rows _ _ T xs)=>if aC sz' T.size then chk (fk j xs.length) λ_=>(match og 40 T (aJ xs j) off sz ag with|some v=>K v (kR id) 0 h nx|none=>ah) else ah
    |some (.cells _ l)=>(match ag with
     |true=>ah
     |false=>if aC sz 1&&aC sz' 1&&aC off 0 then (match ac1 l with
      |some ⟨T,xs⟩=>chk (fk j l.length) λ_=>K (.f T (aJ xs j)) (kR id) 0 h nx
      |none=>ah) else ah)
    |_=>ah)
   |some (.fel T xs j _ off)=>(match og 40 T (aJ xs j) off sz ag with|some v=>K v 0 0 h nx|none=>ah)
   |_=>ah
  |.store sz x v=>match fO e x,fO e v with
   |some (.ptr id off),af y=>(match h.get id with
    |some (.cells ty l)=>(match y.cs with
     |some cs=>if cs.length==sz&&eQ (off+sz) l.length then K .undef (kR id) (kR id) (h.set id (af (.cells ty (splice l off cs)))) nx else ah
     |none=>ah)
    |_=>ah)
   |some (.pel id sz' j off),af y=>(match h.get id with
    |some (.rows ty p T xs)=>if aC sz' T.size then chk (fk j xs.length) λ_=>(match gR h y 40 T (aJ xs j) off sz with
     |some (z,m)=>if aN m id then ah else K .undef (m|||kR id) (m|||kR id) ((eK m h).set id (af (.rows ty p T (cq xs j z)))) nx
     |none=>ah) else ah
    |some (.cells ty l)=>if aC sz 1&&(aC sz' 1&&aC off 0) then chk (fk j l.length) λ_=>(match y.cs with
     |some cs=>if aC cs.length 1 then K .undef (kR id) (kR id) (h.set id (af (.cells ty (splice l j.toNat cs)))) nx else ah
     |none=>ah) else ah
    |_=>ah)
   |_,_=>ah
  |.nilc x=>match fO e x with
   |some (.ptr id off)=>K (.ptr id off) 0 0 h nx
   |some (.pel id sz j off)=>K (.pel id sz j off) 0 0 h nx
   |some (.fel T xs j hj off)=>K (.fel T xs j hj off) 0 0 h nx
   |some (.clo g cap)=>K (.clo g cap) 0 0 h nx
   |_=>ah
  |.bin op x y=>match fO e x,fO e y with
   |some u,af v=>aiu op u v λr=>K r 0 0 h nx
   |_,_=>ah
  |.eqs neg ds x y=>match qW ds,fO e x,fO e y with
   |some T,af u,af v=>if u.isC||v.isC||Up x||Up y then ah else (match u.cs,v.cs with
    |some lu,af lv=>(match fc PT.leaf 40 T lu,fc PT.leaf 40 T lv with
     |some (a,_,[]),af (b,_,[])=>K (.f .bool (Lj T a b !=neg)) 0 0 h nx
     |_,_=>ah)
    |_,_=>ah)
   |_,_,_=>ah
  |.isnil neg x=>match fO e x with
   |some .nil=>K (.f .bool (!neg)) 0 0 h nx
   |some .emp=>K .anyb 0 0 h nx
   |some (.f (.sl _) xs)=>bcase (aC (al xs) 0) (K .anyb 0 0 h nx) (K (.f .bool neg) 0 0 h nx)
   |some (.row id)=>(match h.get id with
    |some (.rows _ aj _ _)=>K (.f .bool neg) 0 0 h nx
    |_=>ah)
   |_=>ah
  |.eqb neg x y=>match fO e x,fO e y with
   |some (.f .bool a),af (.f .bool b)=>K (.f .bool ((a==b) !=neg)) 0 0 h nx
   |_,_=>ah
  |.not x=>match fO e x with|some (.f .bool b)=>K (.f .bool (!b)) 0 0 h nx|_=>ah
  |.conv k x=>match fO e x with|some (.f (.int _) n)=>K (.f (.int k) (bn k n)) 0 0 h nx|_=>ah
  |.slc sz x lo hi mx=>match fO e x with
   |some v=>(match lo,hi,mx with
    |none,af (.const (.int _ 0)),af (.const (.int _ 0))=>if (lenOf h v).isSome then K .emp 0 0 h nx else ah
    |none,af b,ah=>(match v,fO e b with
     |.f (.sl T) xs,af (.f (.int _) j)=>if aC sz T.size then chk (cY 0 j&&cY j (al xs)) λ_=>K (.f (.sl T) (dA (aS j) xs)) 0 0 h nx else ah
     |.row id,af (.f (.int _) j)=>(match h.get id with
      |some (.rows ty p T xs)=>if aC sz T.size then
        chk (cY 0 j&&fX j (al xs)) λ_=>K (.row nx) (kR id) (kR id|||kR nx) ((h.set id (af (.dead p sz (al xs)))).set nx (af (.rows ty aj T (dA (aS j) xs)))) (nx+1)
       else ah
      |_=>ah)
     |_,_=>ah)
    |some b,ah,ah=>(match v,fO e b with
     |.f (.sl T) xs,af (.f (.int _) j)=>if aC sz T.size then chk (cY 0 j&&cY j (al xs)) λ_=>K (.f (.sl T) (List.drop (aS j) xs)) 0 0 h nx else ah
     |.row id,af (.f (.int _) j)=>(match h.get id with
      |some (.rows _ _ T xs)=>if aC sz T.size then chk (cY 0 j&&fX j (al xs)) λ_=>K (.rtl id j) 0 0 h nx else ah
      |_=>ah)
     |_,_=>ah)
    |_,_,_=>ah)
   |none=>ah
  |.fad off x=>match fO e x with
   |some (.ptr id o)=>K (.ptr id (o+off)) 0 0 h nx
   |some (.pel id sz j o)=>K (.pel id sz j (o+off)) 0 0 h nx
   |some (.fel T xs j hj o)=>K (.fel T xs j hj (o+off)) 0 0 h nx
   |_=>ah
  |.fld off sz ag x=>match fO e x with
   |some (.agg l)=>(match TQ l off sz ag with|some v=>K v 0 0 h nx|none=>ah)
   |some (.f T v)=>if T.one then ah else (match og 40 T v off sz ag with|some v=>K v 0 0 h nx|none=>ah)
   |_=>ah
  |.iad sz x i=>match fO e x,fO e i with
   |some (.row id),af (.f (.int _) j)=>(match h.get id with
    |some (.rows _ _ T xs)=>if aC sz T.size then chk (fk j xs.length) λ_=>K (.pel id sz j 0) 0 0 h nx else ah
    |_=>ah)
   |some (.f (.sl T) xs),af (.f (.int _) j)=>if aC sz T.size then chk (fk j (al xs)) λhj=>K (.fel T xs j hj 0) 0 0 h nx else ah
   |some (.csl id sz' n),af (.f (.int _) j)=>if aC sz' sz then chk (cY 0 j&&fX j n) λ_=>K (.ptr id (aS j*sz)) 0 0 h nx else ah
   |_,_=>ah
  |.iada n sz x i=>match fO e x,fO e i with
   |some (.ptr id off),af (.f (.int _) j)=>(match arrB n sz off (h.get id) with
    |some _=>chk (cY 0 j&&fX j n) λ_=>K (.pel id sz j off) 0 0 h nx
    |none=>chk (cY 0 j&&fX j n) λ_=>K (.ptr id (off+aS j*sz)) 0 0 h nx)
   |_,_=>ah
  |.idx n sz ag x i=>match fO e x,fO e i with
   |some v,af (.f (.int _) j)=>(match alp n sz v ag with
    |some ⟨T,xs⟩=>chk (cY 0 j&&fX j n) λ_=>K (.f T (aJ xs j)) 0 0 h nx
    |none=>(match v with
     |.agg l=>chk (cY 0 j&&fX j n) λ_=>(match TQ l (aS j*sz) sz ag with|some v=>K v 0 0 h nx|none=>ah)
     |.f T v=>if T.one then ah else chk (cY 0 j&&fX j n) λ_=>(match og 40 T v (aS j*sz) sz ag with|some v=>K v 0 0 h nx|none=>ah)
     |_=>ah))
   |_,_=>ah
  |.ext x i=>match fO e x with|some (.tup l)=>(match l[i]? with|some v=>K v 0 0 h nx|none=>ah)|_=>ah
  |.len x=>match fO e x with
   |some v=>(match lenOf h v with|some n=>K (.f (.int .i64) (aQ n)) 0 0 h nx|none=>ah)
   |none=>ah
  |.lens x=>match fO e x with
   |some (.f .str s)=>K (.f (.int .i64) (aQ (al s))) 0 0 h nx
   |_=>ah
  |.max x y=>match fO e x,fO e y with
   |some (.f (.int k) a),af (.f (.int k') b)=>if k==k' then K (.f (.int k) (jL a b)) 0 0 h nx else ah
   |_,_=>ah
  |.min x y=>match fO e x,fO e y with
   |some (.f (.int k) a),af (.f (.int k') b)=>if k==k' then K (.f (.int k) (Ha a b)) 0 0 h nx else ah
   |_,_=>ah
  |.sidx x i=>match fO e x,fO e i with
   |some (.f .str s),af (.f (.int _) j)=>chk (fk j (al s)) λ_=>K (.f (.int .u8) (Ay s j)) 0 0 h nx
   |_,_=>ah
  |.rng x=>match fO e x with
   |some (.f .str s)=>K (.ptr nx 0) 0 (0|||kR nx) ((eK 0 h).set nx (af (.mp itK .un [((s,0),())]))) (nx+1)
   |_=>ah
  |.nxt x=>match fO e x with
   |some (.ptr id 0)=>(match h.get id with
    |some (.mp K' V es)=>(match itE K' V es with
     |some (s,p)=>bcase (gk p (al s)) (chk (fX (Ay s (aQ p)) 128) λ_=>K (.tup [.f .bool ai,.f (.int .i64) (aQ p),.f (.int .i32) (Ay s (aQ p))]) (kR id) (0|||kR id) ((eK 0 h).set id (af (.mp itK .un [((s,aQ (p+1)),())]))) nx)
       (K (.tup [.f .bool aj]) (kR id) (0|||kR id) ((eK 0 h).set id (af (.mp itK .un [((s,aQ p),())]))) nx)
     |none=>ah)
    |_=>ah)
   |_=>ah
  |.mkm=>K (.mp nx) 0 (0|||kR nx) ((eK 0 h).set nx (af (.mp .un .un []))) (nx+1)
  |.lku str ok z x k=>match fO e x,fO e k with
   |some (.mp id),af (.f KT M)=>(match h.get id with
    |some (.mp K' V es)=>if X3 str KT&&Ug K' then (match mpE K' V es with
     |true=>(match cst z with|some v=>K (pkT ok v (.f .bool aj)) (kR id) 0 h nx|none=>ah)
     |false=>(match wW (S:=KT) K' M,cst z with
      |some kv',af (.f Z Y)=>(match wW (S:=Z) V Y with
       |some zv'=>K (pkT ok (.f V (s9 kv' es zv')) (.f .bool (Oc kv' es))) (kR id) 0 h nx
       |none=>ah)
      |_,_=>ah)) else ah
    |_=>ah)
   |_,_=>ah
  |.mup str x k v=>match fO e x,fO e k,fO e v with
   |some (.mp id),af (.f KT M),af (.f VT U)=>(match h.get id with
    |some (.mp K' V es)=>if (X3 str KT&&VT.one)&&Ug K' then (match mpE K' V es with
     |true=>K .undef (kR id) (0|||kR id) ((eK 0 h).set id (af (.mp KT VT [(M,U)]))) nx
     |false=>(match wW (S:=KT) K' M,wW (S:=VT) V U with
      |some kv',af vv'=>K .undef (kR id) (0|||kR id) ((eK 0 h).set id (af (.mp K' V (CQ kv' vv' es)))) nx
      |_,_=>ah)) else ah
    |_=>ah)
   |_,_,_=>ah
  |.lenm x=>match fO e x with
   |some (.mp id)=>(match h.get id with
    |some (.mp K' _ es)=>if Ug K' then K (.f (.int .i64) (aQ es.length)) (kR id) 0 h nx else ah
    |_=>ah)
   |_=>ah
  |.mkf f caps=>match FL e caps with|some l=>K (.clo f l) 0 0 h nx|none=>ah
  |_=>ah
def ZI {R:Type} (e:iS) (g:Option (Nat×Bool)) (K:Bool->iS->Option R):Option R:=match g with
 |none=>K ai e
 |some (t,want)=>match e.get t with
  |some (.f .bool b)=>(match want with
   |true=>bcase b (K ai (e.set t (af (.f .bool ai)))) (K aj (e.set t (af (.f .bool aj))))
   |false=>bcase b (K aj (e.set t (af (.f .bool ai)))) (K ai (e.set t (af (.f .bool aj)))))
  |some .undef=>K aj e
  |_=>ah
def Em (e:iS) (d:Option Nat) (v:TV):iS:=match d with
 |none=>e
 |some d=>e.set d (af v)
structure TS where
 e:iS
 h:bk
 nx:Nat
def Lq {R:Type} (con:FuncId->Option cu) (b9:TypeId->Option Ty):List sI->TS->List FPm->(TS->List FPm->Option R)->Option R
 |[],s,fs,K=>K s fs.reverse
 |o::r,s,fs,K=>ZI s.e o.guard λrun e=>match run with
  |true=>dY con b9 o.op e s.h s.nx λv rd wr h nx=>if Lt h v then Lq con b9 r ⟨Em e o.dst v,h,nx⟩ (⟨rd,wr⟩::fs) K else ah
  |false=>Lq con b9 r ⟨Em e o.dst .undef,s.h,s.nx⟩ (⟨0,0⟩::fs) K
inductive Adj where
 |nil (k:Nat) (ty:TypeId) (T:Ty)
 |cel (k:Nat) (off:Nat) (ty:TypeId) (T:Ty)
 |mpt (k:Nat) (K V:Ty)
 |pk (k:Nat) (off:Nat) (T:Ty)
 |ren (k:Nat) (off:Nat)
mutual
def Ll (id sz n:Nat):TV->TV
 |.csl i s m=>if aC i id&&aC s sz&&aC m n then .row id else .csl i s m
 |.agg l=>.agg (Cr id sz n l)
 |.tup l=>.tup (Cr id sz n l)
 |.clo g l=>.clo g (Cr id sz n l)
 |.f T v=>.f T v
 |.fel T xs j h off=>.fel T xs j h off
 |.pel a b c d=>.pel a b c d
 |.ptr a b=>.ptr a b
 |.row a=>.row a
 |.rtl a j=>.rtl a j
 |.emp=>.emp
 |.nil=>.nil
 |.mp a=>.mp a
 |.undef=>.undef
 |.np=>.np
 |.anyb=>.anyb
def Cr (id sz n:Nat):List TV->List TV
 |[]=>[]
 |x::r=>Ll id sz n x::Cr id sz n r
end
def XP (id sz n:Nat):iz->iz
 |.cells ty l=>.cells ty (Cr id sz n l)
 |.rows ty p T xs=>.rows ty p T xs
 |.dead p s m=>.dead p s m
 |.mp K V es=>.mp K V es
def am7 (s:TS) (k off:Nat):Option (Nat×Nat×Nat):=match s.e.get k with
 |some (.csl id sz n)=>af (id,sz,n)
 |some (.agg l)=>(match l[off]? with|some (.csl id sz n)=>af (id,sz,n)|_=>ah)
 |some (.ptr a o)=>(match s.h.get a with
  |some (.cells _ l)=>(match l[o+off]? with|some (.csl id sz n)=>af (id,sz,n)|_=>ah)
  |_=>ah)
 |_=>ah
def pkS (s:TS) (T:Ty) (id sz n:Nat):Option TS:=match s.h.get id with
 |some (.cells ty l)=>if aC sz T.size then (match yW s.h T n l with
  |some (xs,m)=>if aN m id then ah else af ⟨PT.updI (λ_ v=>Ll id sz n v) 1 0 s.e,(PT.updI (λ_ b=>XP id sz n b) 1 0 (eK m s.h)).set id (af (.rows ty aj T xs)),s.nx⟩
  |none=>ah) else ah
 |_=>ah
def aee:TV->Bool
 |.nil=>ai
 |.emp=>ai
 |_=>aj
def alc:Option TV->Option (Nat×Nat)
 |some (.ptr id o)=>af (id,o)
 |some (.csl id _ _)=>af (id,0)
 |_=>ah
def Px (s:TS):Adj->Option TS
 |.nil k ty T=>match s.e.get k with
  |some v=>if aee v then af ⟨s.e.set k (af (.row s.nx)),s.h.set s.nx (af (.rows ty ai T [])),s.nx+1⟩ else af s
  |none=>ah
 |.cel k off ty T=>match alc (s.e.get k) with
  |some (id,o)=>(match s.h.get id with
   |some (.cells cty l)=>(match l[o+off]? with
    |some v=>if aee v then af ⟨s.e,(s.h.set s.nx (af (.rows ty ai T []))).set id (af (.cells cty (splice l (o+off) [.row s.nx]))),s.nx+1⟩ else af s
    |none=>ah)
   |_=>ah)
  |_=>ah
 |.mpt k K V=>match s.e.get k with
  |some (.mp id)=>(match s.h.get id with
   |some (.mp K' V' es)=>(match mpE K' V' es&&Ug K with
    |true=>af ⟨s.e,s.h.set id (af (.mp K V [])),s.nx⟩
    |false=>af s)
   |_=>ah)
  |_=>ah
 |.pk k off T=>match am7 s k off with
  |some (id,sz,n)=>pkS s T id sz n
  |none=>ah
 |.ren k off=>match s.e.get k with
  |some (.ptr b o)=>(match s.h.get b with
   |some (.cells cty l)=>(match l[o+off]? with
    |some (.row id)=>(match s.h.get id with
     |some (.rows ty p T xs)=>af ⟨s.e,((s.h.set id (af (.dead p T.size xs.length))).set s.nx (af (.rows ty p T xs))).set b (af (.cells cty (splice l (o+off) [.row s.nx]))),s.nx+1⟩
     |_=>ah)
    |_=>ah)
   |_=>ah)
  |some (.row id)=>(match s.h.get id with
   |some (.rows ty p T xs)=>af ⟨s.e.set k (af (.row s.nx)),(s.h.set id (af (.dead p T.size xs.length))).set s.nx (af (.rows ty p T xs)),s.nx+1⟩
   |_=>ah)
  |_=>ah
def YT (s:TS):List Adj->Option TS
 |[]=>af s
 |a::r=>match Px s a with|some s'=>YT s' r|none=>ah
structure Zy where
 keep:List Nat
 ks:List Nat
 t:Tm
 pre:List Adj
abbrev Zy.D (A:Zy):Type:=A.t.ty.den
mutual
def ur:TV->Bool
 |.f _ _=>ai
 |.fel _ _ _ _ _=>ai
 |.emp=>ai
 |.nil=>ai
 |.undef=>ai
 |.np=>ai
 |.anyb=>ai
 |.agg l=>qx l
 |.tup l=>qx l
 |.pel _ _ _ _=>aj
 |.ptr _ _=>aj
 |.csl _ _ _=>aj
 |.row _=>aj
 |.rtl _ _=>aj
 |.mp _=>aj
 |.clo _ _=>aj
def qx:List TV->Bool
 |[]=>ai
 |x::r=>ur x&&qx r
end
def CZ (am:Nat) (e:iS):List Nat->iS
 |[]=>PT.leaf
 |k::r=>match e.get k with|some v=>if ur v&& !(aN am k) then (CZ am e r).set k (af v) else CZ am e r|none=>CZ am e r
def nX (e:iS):List Nat->Option (List TV)
 |[]=>af []
 |k::r=>match e.get k with|some v=>(match nX e r with|some l=>af (v::l)|none=>ah)|none=>ah
def XR (e:iS):List Nat->List TV->iS
 |k::r,v::l=>(XR e r l).set k (af v)
 |_,_=>e
def HR (am:Nat) (e0 e:iS):List Nat->Bool
 |[]=>ai
 |k::r=>(match e0.get k with
  |some v=> !(ur v)||aN am k||(match e.get k with|some _=>ai|none=>aj)
  |none=>ai)&&HR am e0 e r
def LS (np:Nat) (A:Zy) (am:Nat) (I s:TS):Option A.D:=if eQ np A.t.bs.length&&HR am I.e s.e A.keep then (match YT s A.pre with
 |some s=>(match nX s.e A.ks with
  |some vs=>(match EA np A.t vs s.h with
   |some ⟨x,_,_,_⟩=>af x
   |none=>ah)
  |none=>ah)
 |none=>ah) else ah
def G5 (A:Zy) (am:Nat) (s:TS) (x:A.D):Option TS:=match C2 A.t x with
 |some (vs,h)=>if aC vs.length A.ks.length then af ⟨XR (CZ am s.e A.keep) A.ks vs,h,A.t.bs.length⟩ else ah
 |none=>ah
inductive TC where
 |skip
 |reg (ops:List sI) (prs:List (Nat×Nat))
 |seq (a b:TC)
 |jseq (A:Zy) (a b:TC)
 |cond (c:Nat) (a b:TC)
 |block (id:Nat) (b:TC)
 |jblock (A:Zy) (id:Nat) (b:TC)
 |loop (A:Zy) (b:TC)
 |exit (id:Nat)
 |ret
 |defer (f:FuncId) (caps:List Operand) (t:Nat)
 |adj (l:List Adj) (c:TC)
 |split (k off lo n:Nat) (c:TC)
 |unl (n:Nat) (b:TC)
 |bad
def Pt:List sI->Nat->Nat
 |[],acc=>acc
 |o::r,acc=>Pt r (match o.dst with|some d=>acc|||kR d|none=>acc)
def Lw:List Nat->Nat->Nat
 |[],acc=>acc
 |k::r,acc=>Lw r (acc|||kR k)
def oA:List Adj->Nat->Nat
 |[],acc=>acc
 |.nil k _ _::r,acc=>oA r (acc|||kR k)
 |.cel _ _ _ _::r,acc=>oA r acc
 |.mpt _ _ _::r,acc=>oA r acc
 |.pk _ _ _::r,acc=>oA r acc
 |.ren k _::r,acc=>oA r (acc|||kR k)
def TC.asg:TC->Nat->Nat
 |.reg ops _,acc=>Pt ops acc
 |.seq a b,acc=>b.asg (a.asg acc)
 |.jseq A a b,acc=>b.asg (a.asg (Lw A.ks acc))
 |.cond _ a b,acc=>b.asg (a.asg acc)
 |.block _ b,acc=>b.asg acc
 |.jblock A _ b,acc=>b.asg (Lw A.ks acc)
 |.loop A b,acc=>b.asg (Lw A.ks acc)
 |.defer _ _ t,acc=>acc|||kR t
 |.adj l c,acc=>c.asg (oA l acc)
 |.split _ _ _ _ c,acc=>c.asg acc
 |.unl _ b,acc=>b.asg acc
 |.skip,acc=>acc
 |.exit _,acc=>acc
 |.ret,acc=>acc
 |.bad,acc=>acc
inductive acy where
 |j (A:Zy)
 |a (l:List Adj)
 |s (k off lo n:Nat)
 |u (n:Nat)
def Ib (H:PT acy) (n:Nat) (c:TC):TC:=match H.get n with|some (.a l)=>.adj l c|some (.s k off lo m)=>.split k off lo m c|_=>c
def DJ (H:PT acy):SC->Nat->TC×Nat
 |.skip,n=>(Ib H n .skip,n+1)
 |.reg o p,n=>(Ib H n (.reg o p),n+1)
 |.seq a b,n=>match DJ H a (n+1) with
  |(a',k)=>(match DJ H b k with|(b',k')=>((match H.get n with|some (.j A)=>.jseq A a' b'|_=>.seq a' b'),k'))
 |.cond c a b,n=>match DJ H a (n+1) with
  |(a',k)=>(match DJ H b k with|(b',k')=>(Ib H n (.cond c a' b'),k'))
 |.block id b,n=>match DJ H b (n+1) with|(b',k)=>((match H.get n with|some (.j A)=>.jblock A id b'|_=>.block id b'),k)
 |.loop b,n=>match DJ H b (n+1) with|(b',k)=>((match H.get n with|some (.j A)=>.loop A b'|some (.u m)=>.unl m b'|_=>.bad),k)
 |.exit id,n=>(Ib H n (.exit id),n+1)
 |.ret,n=>(Ib H n .ret,n+1)
 |.defer f c t,n=>(.defer f c t,n+1)
 |.bad,n=>(.bad,n+1)
def aam (s:TS) (k off:Nat):Option (IntKind×Int):=match s.e.get k with
 |some (.f (.int kd) v)=>af (kd,v)
 |some (.ptr a o)=>(match s.h.get a with
  |some (.cells _ l)=>(match l[o+off]? with|some (.f (.int kd) v)=>af (kd,v)|_=>ah)
  |_=>ah)
 |_=>ah
def TZ (s:TS) (k off:Nat) (kd:IntKind) (v:Int):Option TS:=match s.e.get k with
 |some (.f (.int _) _)=>af ⟨s.e.set k (af (.f (.int kd) v)),s.h,s.nx⟩
 |some (.ptr a o)=>(match s.h.get a with
  |some (.cells ty l)=>af ⟨s.e,s.h.set a (af (.cells ty (splice l (o+off) [.f (.int kd) v]))),s.nx⟩
  |_=>ah)
 |_=>ah
def spl {R:Type} (v:Int) (f:Nat->Option R):Nat->Nat->Option R
 |_,0=>ah
 |i,m+1=>bcase (decide ((v:Int)=aQ i)) (f i) (spl v f (i+1) m)
def adm {R:Type} (f:TS->(Ex->TS->Option R)->Option R):Nat->TS->(Ex->TS->Option R)->Option R
 |0,_,_=>ah
 |m+1,s,K=>f s λex s'=>match ex with
  |.normal=>adm f m s' K
  |ex=>K ex s'
def pd {R:Type} (np:Nat) (con:FuncId->Option cu) (b9:TypeId->Option Ty) (inert:FuncId->Bool):TC->TS->(Ex->TS->Option R)->Option R
 |.skip,s,K=>K .normal s
 |.reg ops prs,s,K=>Lq con b9 ops s [] λs' fs=>if FK fs prs then K .normal s' else ah
 |.seq a b,s,K=>pd np con b9 inert a s λex s'=>match ex with|.normal=>pd np con b9 inert b s' K|ex=>K ex s'
 |.jseq A a b,s,K=>jn (pd np con b9 inert a s λex s'=>match ex with
   |.normal=>obind (LS np A (a.asg 0) s s') λx=>af (.inr x)
   |ex=>obind (K ex s') λr=>af (.inl r)) λx=>(match G5 A (a.asg 0) s x with|some s'=>pd np con b9 inert b s' K|none=>ah)
 |.cond c a b,s,K=>match s.e.get c with
  |some (.f .bool t)=>bcase t (pd np con b9 inert a s K) (pd np con b9 inert b s K)
  |some .anyb=>Fq (pd np con b9 inert a s K) (pd np con b9 inert b s K)
  |_=>ah
 |.block id b,s,K=>pd np con b9 inert b s λex s'=>match ex with
  |.exit i=>if aC i id then K .normal s' else K (.exit i) s'
  |ex=>K ex s'
 |.jblock A id b,s,K=>jn (pd np con b9 inert b s λex s'=>match ex with
   |.normal=>obind (LS np A (b.asg 0) s s') λx=>af (.inr x)
   |.exit i=>if aC i id then obind (LS np A (b.asg 0) s s') λx=>af (.inr x) else obind (K (.exit i) s') λr=>af (.inl r)
   |.ret=>obind (K .ret s') λr=>af (.inl r)) λx=>(match G5 A (b.asg 0) s x with|some s'=>K .normal s'|none=>ah)
 |.loop A b,s,K=>obind (LS np A (b.asg 0) s s) λx=>iter (λx=>match G5 A (b.asg 0) s x with
   |some s'=>pd np con b9 inert b s' λex s'=>(match ex with
    |.normal=>obind (LS np A (b.asg 0) s s') λy=>af (.inl y)
    |ex=>obind (K ex s') λr=>af (.inr r))
   |none=>ah) x
 |.exit id,s,K=>K (.exit id) s
 |.ret,s,K=>K .ret s
 |.defer f caps t,s,K=>match FL s.e caps with
  |some l=>if inert f then K .normal ⟨s.e.set t (af (.clo f l)),s.h,s.nx⟩ else ah
  |none=>ah
 |.adj l c,s,K=>match YT s l with|some s'=>pd np con b9 inert c s' K|none=>ah
 |.split k off lo n c,s,K=>match aam s k off with
  |some (kd,v)=>spl v (λi=>match TZ s k off kd (aQ i) with|some s'=>pd np con b9 inert c s' K|none=>ah) lo n
  |none=>ah
 |.unl n b,s,K=>adm (λs K=>pd np con b9 inert b s K) n s K
 |.bad,_,_=>ah
def KK:Nat->List TV->iS
 |_,[]=>PT.leaf
 |k,x::r=>(KK (k+1) r).set k (af x)
def rvT (s:TS):RV->Option TV
 |.tmp t=>s.e.get t
 |.cell a sz ag=>match s.e.get a with
  |some (.ptr id off)=>(match s.h.get id with|some (.cells _ l)=>TQ l off sz ag|_=>ah)
  |_=>ah
def T3 (s:TS):List RV->Option (List TV)
 |[]=>af []
 |x::r=>match rvT s x with|some v=>(match T3 s r with|some l=>af (v::l)|none=>ah)|none=>ah
structure FT where
 pre:Tm
 post:Tm
 hints:PT acy
def ZR (con:FuncId->Option cu) (b9:TypeId->Option Ty) (inert:FuncId->Bool) (F:Option SF) (D:FT) (x:D.pre.ty.den):Option D.post.ty.den:=
 match F with
 |some I=>(match C2 D.pre x with
  |some (args,h)=>if eQ args.length I.nt&&eQ D.pre.bs.length D.post.bs.length then
    pd D.pre.bs.length con b9 inert (DJ D.hints I.code 0).1 ⟨KK 0 args,h,D.pre.bs.length⟩ λex s=>(match ex with
    |.exit _=>ah
    |_=>(match T3 s I.res with
     |some l=>(match EA D.pre.bs.length D.post l s.h with
      |some ⟨y,_,_,_⟩=>(match C2 D.post y with|some _=>af y|none=>ah)
      |none=>ah)
     |none=>ah)) else ah
  |none=>ah)
 |none=>ah
abbrev aM:Ty:=(.int .i64)
abbrev kB:Ty:=(.st (.pr .str (.pr aM (.pr aM (.pr .bool aM)))))
abbrev rP:Ty:=(.st (.pr .str .bool))
abbrev mb:Ty:=(.st (.pr .str aM))
abbrev oR:Ty:=(.st (.pr aM (.pr aM aM)))
abbrev nD:Ty:=(.st (.pr (.sl kB) (.pr (.sl rP) (.pr (.sl mb) (.pr (.sl .str) (.pr (.sl .str) (.sl oR)))))))
abbrev kG:Ty:=(.sl (.sl aM))
abbrev eY:Ty:=(.st (.pr aM (.pr (.sl aM) (.pr kG aM))))
abbrev qR:Ty:=(.st (.pr aM (.pr aM (.pr aM (.pr aM (.pr aM aM))))))
abbrev ef:Ty:=(.st (.pr aM (.sl aM)))
abbrev pZ:Ty:=(.sl .bool)
abbrev ie:Ty:=(.st (.pr aM (.pr aM .bool)))
abbrev Hz:Ty:=(.st (.pr (.sl ef) (.pr aM (.pr pZ (.sl ie)))))
abbrev jt:Ty:=(.st (.pr aM (.pr aM (.pr aM (.pr aM (.pr aM (.pr (.sl aM) (.sl aM))))))))
abbrev G1:Ty:=(.st (.pr aM (.pr aM (.pr .str (.pr aM (.pr aM .str))))))
abbrev sZ:Ty:=(.st (.pr .str (.pr aM (.pr (.sl .str) (.sl .sm)))))
abbrev Nr:Ty:=(.st (.pr (.sl G1) (.sl sZ)))
abbrev w9:Ty:=(.st (.pr aM (.sl qR)))
abbrev uK:Ty:=(.st (.pr nD (.sl w9)))
abbrev vY:Ty:=(.st (.pr Hz (.pr (.sl aM) (.pr (.sl aM) (.sl eY)))))
abbrev iT:Ty:=(.st (.pr Hz (.pr (.sl aM) (.pr (.sl aM) (.sl aM)))))
abbrev D5:Ty:=(.sl (.int .u8))
abbrev yQ:Ty:=(.st (.pr D5 aM))
abbrev gj:Ty:=(.st (.pr aM aM))
abbrev ny:Ty:=(.st (.pr nD (.sl jt)))
abbrev SU:=((List UInt8)×Int×Int×Bool×Int)
abbrev gX:=(List SU)
abbrev gG:=(List ((List UInt8)×Bool))
abbrev fw:=((List UInt8)×Int)
abbrev ca:=(List (List UInt8))
abbrev dJ:=(gX×gG×(List fw)×ca×ca×List (Int×Int×Int))
abbrev rM:=(gX×gG×(List fw)×ca×ca×(List (Int×Int×Int))×ca×Int×Int)
abbrev gF:=(List (Int×List Int))
abbrev dw:=(Int×Int×Bool)
abbrev pa:=(gF×Int×(List Bool)×List dw)
abbrev t8:=(Int×(List Int)×(List (List Int))×Int)
abbrev jW:=(Int×Int×Int×Int×Int×Int)
abbrev gm:=(Int×Int×Int×Int×Int×(List Int)×List Int)
abbrev ac7:=(Int×Int×(List UInt8)×Int×Int×List UInt8)
abbrev sd:=(List ac7)
abbrev sa:=((List UInt8)×Int×ca×List Sx)
abbrev yR:=(Int×Int×Bool×Bool×Bool×Bool)
abbrev z_:=(dJ×List (Int×List jW))
abbrev vT:=(Int×Int×Int×Int×Int)
abbrev eO:=(pa×(List Int)×(List Int)×List Int)
abbrev fQ:=((List Int)×Int)
abbrev w7:=(pa×(List Int)×(List Int)×List t8)
abbrev Hw:=(Int×Int×(List UInt8)×(List UInt8)×Int×Int×List UInt8)
abbrev qS:=(sd×(List sa)×Int)
abbrev SX:=(Bool×List (List UInt8))
abbrev Ya23:=(Int×Int×t8×t8×Int×(List Int)×(List (List Int))×Int)
abbrev Ya24:=(t8×Int×Int×t8×Int×(List Int)×(List (List Int))×Int)
abbrev Ya25:=(t8×t8×Int×Int×Int×(List Int)×(List (List Int))×Int)
abbrev ac9:=((List Sx)×yR×fQ×Bool×List (List UInt8))
abbrev Ya27:=(Int×Int×t8×Int×(List Int)×(List (List Int))×Int)
abbrev Ya28:=(t8×Int×Int×Int×(List Int)×(List (List Int))×Int)
abbrev Ya29:=(Int×Int×Int×(List Int)×(List (List Int))×Int)
abbrev YW:=(Int×yR×fQ×Bool×List (List UInt8))
abbrev ac8:=(Sx×yR×fQ×Bool×List (List UInt8))
abbrev afp:=((Int×Int)×qS×(Bool×List Sx)×ca×List (List UInt8))
abbrev Me:=(Sx×rM×List jW)
abbrev DZ:=(w7×gm×Bool)
abbrev ac6:=((Sx×Int×Int×Int)×rM×List jW)
abbrev afo:=((Int×Int)×yR×fQ×Bool×List (List UInt8))
abbrev afn:=(fw×yR×fQ×Bool×List (List UInt8))
abbrev YV:=(yR×fQ×SX×List Sx)
abbrev afm:=(Xp×yR×fQ×Bool×List (List UInt8))
abbrev Ya42:=(t8×t8×t8×Int×Int)
abbrev ac5:=((List Sx)×rM×List jW)
abbrev aY {α:Type} (l:List α):Int:=aQ (al l)
abbrev cC (n:Int):Int:=bn .i64 (n+1)
abbrev aF {R α:Type} (x:α):Option (R⊕α):=af (bW x)
abbrev cK {R α:Type} (x:R):Option (R⊕α):=af (oS x)
abbrev bI {R:Type} (T:Ty) (l:List T.den) (j:Int) (k:T.den->Option R):Option R:=chk (fk j (al l)) λ_=>lt (aJ (T:=T) l j) k
abbrev kF {R:Type} (T:Ty) (l:List T.den) (j:Int) (k:T.den->Option R):Option R:=chk (fk j (al l)) λ_=>chk (fk j (al l)) λ_=>lt (aJ (T:=T) l j) k
abbrev v9 {R α:Type} (j:Int) (l:List α) (k:Option R):Option R:=chk (fk j (al l)) λ_=>k
abbrev bF {R:Type} (b:Bool) (k:Option R):Option R:=chk b λ_=>k
abbrev bd {R:Type} (a b:Int) (t f:Option R):Option R:=bcase (decide (a=b)) t f
abbrev iF {R:Type} (a b:Int) (t f:Option R):Option R:=bcase (!decide (a=b)) t f
abbrev bB {R:Type} (a b:Int) (t f:Option R):Option R:=bcase (fX a b) t f
abbrev jZ {R:Type} (a b:Int) (t f:Option R):Option R:=bcase (cY a b) t f
def ck {R:Type} (b:Bool) (k:Option R):Option R:=chk b λ_=>chk b λ_=>k
def ep (s:Sx):Sx:=nO (Sx.op s,Sx.line s,Sx.name s,Sx.arg s,Sx.index s,eh (Xp.op (Sx.expr s),Xp.n (Sx.expr s),Xp.name (Sx.expr s),Xp.l (Sx.expr s)),Sx.body s,Sx.els s)
def kx (x:Unit):Option ca:=
 (af ([[118,97,114],[118,111,108,97,116,105,108,101],[109,117,116,101,120],[114,119,108,111,99,107],[99,111,110,100],[102,117,116,117,114,101],[116,104,114,101,97,100],[105,102],[101,108,115,101],[119,104,105,108,101],[108,111,99,107],[114,101,97,100],[119,114,105,116,101],[116,114,97,110,115,97,99,116,105,111,110],[97,116,111,109,105,99],[119,97,105,116],[110,111,116,105,102,121],[110,111,116,105,102,121,97,108,108],[115,112,97,119,110],[106,111,105,110],[115,101,116],[103,101,116]]))
def jJ (x:List UInt8):Option (Bool):=
 (obind (kx ()) λJ=>(iter (σ:=Int) (λI=>(bB I (aY J) (bI (.str) J I λM=>(bcase (decide ((M:List UInt8)=x)) (aF ai) (cK (cC I)))) (aF aj))) 0))
def lq (x:Int):Option (Bool):=
 (jn (α:=Bool) (jZ 97 x (jZ x 122 (aF ai) (jZ 65 x (aF (cY x 90)) (aF aj))) (jZ 65 x (aF (cY x 90)) (aF aj))) λI=>(af I))
def rq (x:Int):Option (Bool):=
 (jn (α:=Bool) (jZ 48 x (aF (cY x 57)) (aF aj)) λI=>(af I))
def pq (x:Int):Option (Bool):=
 (jn (α:=Bool) (obind (lq x) λJ=>(bcase J (aF ai) (obind (rq x) λI=>(bcase I (aF ai) (aF (decide ((x:Int)=95))))))) λM=>(af M))
def fh (x:List UInt8):Option (Bool):=
 (jn (α:=Bool) (bB (aY x) 1 (aF ai) (bB 12 (aY x) (aF ai) (v9 0 x (obind (lq (Ay x 0)) λU=>(bcase (!U) (aF ai) (obind (jJ x) λM=>(aF M))))))) λY=>(bcase Y (af aj) (iter (σ:=Int) (λI=>(bB I (aY x) (v9 I x (obind (pq (Ay x I)) λJ=>(bcase (!J) (aF aj) (cK (cC I))))) (aF ai))) 0)))
def fY (x:Bool):Option (Int):=
 (bcase x (af 1) (af 0))
def uk (x:Int×Int):Option (Int×Bool):=
 (bd x.1 4 (af ((bn .i64 (0-x.2)),ai)) (bd x.1 5 (obind (fY (decide ((x.2:Int)=0))) λI=>(af (I,ai))) (af (0,aj))))
def sq (x:Int×Int×Int):Option (Int×Bool):=
 (bd x.1 6 (af ((bn .i64 (x.2.1+x.2.2)),ai)) (bd x.1 7 (af ((bn .i64 (x.2.1-x.2.2)),ai)) (bd x.1 8 (af ((bn .i64 (x.2.1*x.2.2)),ai)) (bd x.1 9 (bd x.2.2 0 (af (0,ai)) (bF (!decide ((x.2.2:Int)=0)) (af ((bn .i64 (Int.tdiv x.2.1 x.2.2)),ai)))) (bd x.1 10 (bd x.2.2 0 (af (0,ai)) (bF (!decide ((x.2.2:Int)=0)) (af ((Ag x.2.1 x.2.2),ai)))) (bd x.1 11 (obind (fY (decide ((x.2.1:Int)=x.2.2))) λy1=>(af (y1,ai))) (bd x.1 12 (obind (fY (!decide ((x.2.1:Int)=x.2.2))) λy2=>(af (y2,ai))) (bd x.1 13 (obind (fY (fX x.2.1 x.2.2)) λy3=>(af (y3,ai))) (bd x.1 14 (obind (fY (cY x.2.1 x.2.2)) λy4=>(af (y4,ai))) (bd x.1 15 (obind (fY (fX x.2.2 x.2.1)) λy5=>(af (y5,ai))) (bd x.1 16 (obind (fY (cY x.2.2 x.2.1)) λZ=>(af (Z,ai))) (bd x.1 17 (jn (α:=Int×Bool) (iF x.2.1 0 (obind (fY (!decide ((x.2.2:Int)=0))) λY=>(aF (Y,ai))) (obind (fY aj) λU=>(aF (U,ai)))) λx7=>(af x7)) (bd x.1 18 (jn (α:=Int×Bool) (iF x.2.1 0 (obind (fY ai) λJ=>(aF (J,ai))) (obind (fY (!decide ((x.2.2:Int)=0))) λI=>(aF (I,ai)))) λM=>(af M)) (af (0,aj)))))))))))))))
def rm (x:Int×Int):Option (Int):=
 (bB x.2 1 (af 0) (bF (!decide ((x.2:Int)=0)) (jn (α:=Int) (bB (Ag x.1 x.2) 0 (aF (bn .i64 ((Ag x.1 x.2)+x.2))) (aF (Ag x.1 x.2))) λI=>(af I))))
def mi (x:Int):Option (Int):=
 (jn (α:=Bool) (bd x 1 (aF ai) (aF (decide ((x:Int)=2)))) λM=>(bcase M (af 0) (jn (α:=Bool) (jZ 3 x (aF (cY x 5)) (aF aj)) λJ=>(bcase J (af 1) (jn (α:=Bool) (jZ 6 x (aF (cY x 18)) (aF aj)) λI=>(bcase I (af 2) (af (-1))))))))
def l8 (rr02_ShapedExpr:Xp->Option (Bool)) (x:Xp):Option (Bool):=
 (jn (α:=Bool×Xp) (bd (Xp.op x) 2 (aF (ai,eh ((Xp.op x),(Xp.n x),(Xp.name x),(Xp.l x)))) (aF ((decide (((Xp.op x):Int)=3)),eh ((Xp.op x),(Xp.n x),(Xp.name x),(Xp.l x))))) λI=>(jn (α:=Bool×Xp) (obind (mi (Xp.op I.2)) λy3=>(iF y3 (aQ (al (Xp.l I.2))) (aF (ai,eh ((Xp.op I.2),(Xp.n I.2),(Xp.name I.2),(Xp.l I.2)))) (bcase ((I.1==(!decide (((Xp.name I.2):List UInt8)=([])))) !=ai) (aF (ai,eh ((Xp.op I.2),(Xp.n I.2),(Xp.name I.2),(Xp.l I.2)))) (bcase I.1 (obind (fh (Xp.name I.2)) λZ=>(bcase (!Z) (aF (ai,eh ((Xp.op I.2),(Xp.n I.2),(Xp.name I.2),(Xp.l I.2)))) (bB (Xp.n I.2) 0 (aF (ai,eh ((Xp.op I.2),(Xp.n I.2),(Xp.name I.2),(Xp.l I.2)))) (iF (Xp.op I.2) 1 (aF ((!decide (((Xp.n I.2):Int)=0)),eh ((Xp.op I.2),(Xp.n I.2),(Xp.name I.2),(Xp.l I.2)))) (aF (aj,eh ((Xp.op I.2),(Xp.n I.2),(Xp.name I.2),(Xp.l I.2)))))))) (bB (Xp.n I.2) 0 (aF (ai,eh ((Xp.op I.2),(Xp.n I.2),(Xp.name I.2),(Xp.l I.2)))) (iF (Xp.op I.2) 1 (aF ((!decide (((Xp.n I.2):Int)=0)),eh ((Xp.op I.2),(Xp.n I.2),(Xp.name I.2),(Xp.l I.2)))) (aF (aj,eh ((Xp.op I.2),(Xp.n I.2),(Xp.name I.2),(Xp.l I.2)))))))))) λM=>(bcase M.1 (af aj) (iter (σ:=Int×Xp) (λJ=>(bB J.1 (aQ (al (Xp.l J.2))) (bI (.ex) (Xp.l J.2) J.1 λU=>(obind (rr02_ShapedExpr U) λY=>(bcase (!Y) (aF aj) (cK ((cC J.1),eh ((Xp.op J.2),(Xp.n J.2),(Xp.name J.2),(Xp.l J.2))))))) (aF ai))) (0,eh ((Xp.op M.2),(Xp.n M.2),(Xp.name M.2),(Xp.l M.2)))))))
def ib:Nat->Xp->Option (Bool)
 |0,_=>ah
 |n+1,x=>l8 (ib n) x
theorem sB (n:Nat) (x:Xp):ib (n+1) x=l8 (ib n) x:=rfl
def jf (x:Xp):Option (Bool):=ib fuel x
def po (x:Xp):Option (Bool):=
 (jn (α:=Bool) (bd (Xp.op x) 0 (bd (Xp.n x) 0 (bcase (decide (((Xp.name x):List UInt8)=([]))) (aF (decide (((aQ (al (Xp.l x))):Int)=0))) (aF aj)) (aF aj)) (aF aj)) λI=>(af I))
def kg (rr02_ShapedStmt:Sx->Option (Bool)) (rr02_ShapedStmts:(List Sx)->Option (Bool)) (x:Sx):Option (Bool):=
 (jn (α:=Bool×Sx) (bB (Sx.op x) 1 (aF (ai,ep x)) (aF ((fX 15 (Sx.op x)),ep x))) λx1=>(bcase x1.1 (af aj) (jn (α:=Bool×Sx) (bd (Sx.op x1.2) 2 (aF (ai,ep x1.2)) (bd (Sx.op x1.2) 3 (aF (ai,ep x1.2)) (bd (Sx.op x1.2) 7 (aF (ai,ep x1.2)) (aF ((decide (((Sx.op x1.2):Int)=8)),ep x1.2))))) λY=>(jn (α:=Bool×Sx) (bcase Y.1 (bcase (!decide (((Sx.name Y.2):List UInt8)=([]))) (aF (ai,ep Y.2)) (bcase (!Y.1) (obind (fh (Sx.name Y.2)) λy4=>(aF ((!y4),ep Y.2))) (aF (aj,ep Y.2)))) (bcase (!Y.1) (obind (fh (Sx.name Y.2)) λy5=>(aF ((!y5),ep Y.2))) (aF (aj,ep Y.2)))) λU=>(bcase U.1 (af aj) (jn (α:=Bool×Sx) (bd (Sx.op U.2) 15 (obind (fh (Sx.arg U.2)) λy7=>(bcase (!y7) (aF (ai,ep U.2)) (iF (Sx.op U.2) 15 (aF ((!decide (((Sx.arg U.2):List UInt8)=([]))),ep U.2)) (aF (aj,ep U.2))))) (iF (Sx.op U.2) 15 (aF ((!decide (((Sx.arg U.2):List UInt8)=([]))),ep U.2)) (aF (aj,ep U.2)))) λM=>(bcase M.1 (af aj) (jn (α:=Bool×Sx) (bB 1 (aQ (al (Sx.index M.2))) (aF (ai,ep M.2)) (iF (Sx.op M.2) 1 (bB 0 (aQ (al (Sx.index M.2))) (aF (ai,ep M.2)) (bd (aQ (al (Sx.index M.2))) 1 (bI (.ex) (Sx.index M.2) 0 λz9=>(obind (jf z9) λy10=>(aF ((!y10),ep M.2)))) (aF (aj,ep M.2)))) (bd (aQ (al (Sx.index M.2))) 1 (bI (.ex) (Sx.index M.2) 0 λz11=>(obind (jf z11) λy12=>(aF ((!y12),ep M.2)))) (aF (aj,ep M.2))))) λx8=>(bcase x8.1 (af aj) (jn (α:=Bool×Sx) (bd (Sx.op x8.2) 1 (aF (ai,ep x8.2)) (bd (Sx.op x8.2) 2 (aF (ai,ep x8.2)) (bd (Sx.op x8.2) 3 (aF (ai,ep x8.2)) (aF ((decide (((Sx.op x8.2):Int)=14)),ep x8.2))))) λI=>(jn (α:=Bool×Sx) (bcase I.1 (obind (jf (eh ((Xp.op (Sx.expr I.2)),(Xp.n (Sx.expr I.2)),(Xp.name (Sx.expr I.2)),(Xp.l (Sx.expr I.2))))) λy15=>(bcase (!y15) (aF (ai,ep I.2)) (bcase (!I.1) (obind (po (eh ((Xp.op (Sx.expr I.2)),(Xp.n (Sx.expr I.2)),(Xp.name (Sx.expr I.2)),(Xp.l (Sx.expr I.2))))) λy16=>(aF ((!y16),ep I.2))) (aF (aj,ep I.2))))) (bcase (!I.1) (obind (po (eh ((Xp.op (Sx.expr I.2)),(Xp.n (Sx.expr I.2)),(Xp.name (Sx.expr I.2)),(Xp.l (Sx.expr I.2))))) λy17=>(aF ((!y17),ep I.2))) (aF (aj,ep I.2)))) λZ=>(bcase Z.1 (af aj) (jn (α:=Bool×Sx) (jZ 2 (Sx.op Z.2) (aF ((cY (Sx.op Z.2) 8),ep Z.2)) (aF (aj,ep Z.2))) λJ=>(jn (α:=Bool×Sx) (bcase (!J.1) (bB 0 (aQ (al (Sx.body J.2))) (aF (ai,ep J.2)) (iF (Sx.op J.2) 2 (aF ((fX 0 (aQ (al (Sx.els J.2)))),ep J.2)) (aF (aj,ep J.2)))) (iF (Sx.op J.2) 2 (aF ((fX 0 (aQ (al (Sx.els J.2)))),ep J.2)) (aF (aj,ep J.2)))) λx19=>(bcase x19.1 (af aj) (jn (α:=Bool) (obind (rr02_ShapedStmts (Sx.body x19.2)) λy21=>(bcase y21 (obind (rr02_ShapedStmts (Sx.els x19.2)) λy22=>(aF y22)) (aF aj))) λx20=>(af x20)))))))))))))))))
def jB (rr02_ShapedStmt:Sx->Option (Bool)) (rr02_ShapedStmts:(List Sx)->Option (Bool)) (x:List Sx):Option (Bool):=
 (iter (σ:=Int) (λI=>(bB I (aY x) (v9 I x (obind (rr02_ShapedStmt (aJ (T:=.sm) x I)) λJ=>(bcase (!J) (aF aj) (cK (cC I))))) (aF ai))) 0)
mutual
def eH:Nat->Sx->Option (Bool)
 |0,_=>ah
 |n+1,x=>kg (eH n) (dF n) x
def dF:Nat->(List Sx)->Option (Bool)
 |0,_=>ah
 |n+1,x=>jB (eH n) (dF n) x
end
theorem zB (n:Nat) (x:Sx):eH (n+1) x=kg (eH n) (dF n) x:=rfl
theorem yM (n:Nat) (x:List Sx):dF (n+1) x=jB (eH n) (dF n) x:=rfl
def nM (x:List Sx):Option (Bool):=dF fuel x
def j_ (x:Int×Int×(List UInt8)×Int×Int×List UInt8):Option (Bool):=
 (jn (α:=Bool×Int×Int×(List UInt8)×Int×Int×List UInt8) (bB x.1 1 (aF (ai,x)) (bB 6 x.1 (aF (ai,x)) (obind (fh x.p2) λU=>(bcase (!U) (aF (ai,x)) (bB x.p3 0 (aF (ai,x)) (iF x.1 1 (aF ((!decide ((x.p3:Int)=0)),x)) (aF (aj,x)))))))) λI=>(bcase I.1 (af aj) (jn (α:=Bool×Int×Int×(List UInt8)×Int×Int×List UInt8) (bd I.2.1 5 (obind (fh I.q6) λM=>(bcase (!M) (aF (ai,I.2)) (iF I.2.1 5 (aF ((!decide ((I.q6:List UInt8)=([]))),I.2)) (aF (aj,I.2))))) (iF I.2.1 5 (aF ((!decide ((I.q6:List UInt8)=([]))),I.2)) (aF (aj,I.2)))) λJ=>(bcase J.1 (af aj) (jn (α:=Bool) (bB (-9223372036854775808) J.p5 (bd J.p5 0 (aF ai) (bd J.2.1 1 (aF ai) (aF (decide ((J.2.1:Int)=2))))) (aF aj)) λY=>(af Y))))))
def pJ (x:sd×List sa):Option (Bool):=
 (iter (σ:=Int×sd×List sa) (λM=>(bB M.1 (aY M.2.1) (bI G1 M.2.1 M.1 λz2=>(obind (j_ z2) λy3=>(bcase (!y3) (aF aj) (cK ((cC M.1),M.2))))) (obind (iter (σ:=Int×sd×List sa) (λJ=>(bB J.1 (aY J.2.2) (bI sZ J.2.2 J.1 λz5=>(iter (σ:=Int×(sd×List sa)×(List UInt8)×Int×ca×List Sx) (λI=>(bB I.1 (aY I.p4) (bI (.str) I.p4 I.1 λz7=>(obind (fh z7) λy8=>(bcase (!y8) (aF (bW aj)) (cK ((cC I.1),I.2))))) (obind (jn (α:=Bool×sd×List sa) (obind (fh I.p2) λY=>(bcase (!Y) (aF (ai,I.2.1)) (obind (nM I.q5) λU=>(aF ((!U),I.2.1))))) λZ=>(bcase Z.1 (aF aj) (cK ((cC J.1),Z.2)))) λr=>af (bW r)))) (0,J.2,z5))) (aF (fX 0 (aY J.2.2))))) (0,M.2)) λr=>af (bW r)))) (0,x))
def jb (x:ca×List UInt8):Option (Int):=
 (iter (σ:=Int) (λI=>(bB I (aY x.1) (bI (.str) x.1 I λJ=>(bcase (decide ((J:List UInt8)=x.2)) (aF I) (cK (cC I)))) (aF (-1)))) 0)
def ia (x:sd×List UInt8):Option (Int):=
 (iter (σ:=Int) (λI=>(bB I (aY x.1) (bI G1 x.1 I λJ=>(bcase (decide ((J.2.2.1:List UInt8)=x.2)) (aF I) (cK (cC I)))) (aF (-1)))) 0)
def gQ (x:(List sa)×List UInt8):Option (Int):=
 (iter (σ:=Int) (λI=>(bB I (aY x.1) (bI sZ x.1 I λJ=>(bcase (decide ((J.1:List UInt8)=x.2)) (aF I) (cK (cC I)))) (aF (-1)))) 0)
def pI (x:(sd×List sa)×Int×List UInt8):Option (Int):=
 (jn (α:=Bool×sd×List sa) (jZ 0 x.2.1 (bB x.2.1 (aY x.1.2) (bI sZ x.1.2 x.2.1 λz2=>(obind (jb (z2.2.2.1,x.2.2)) λy3=>(aF ((cY 0 y3),x.1)))) (aF (aj,x.1))) (aF (aj,x.1))) λI=>(bcase I.1 (af 8) (obind (ia (I.2.1,x.2.2)) λM=>(bB M 0 (obind (gQ (I.2.2,x.2.2)) λy5=>(jZ 0 y5 (af 7) (af 0))) (v9 M I.2.1 (lt ((aJ (T:=G1) I.2.1 M).1) λJ=>(bd J 1 (bI G1 I.2.1 M λZ=>(iF Z.2.2.2.1 0 (af 2) (af 1))) (bd J 2 (af 1) (jn (α:=Bool×sd×List sa) (bd J 3 (aF ((decide ((J:Int)=3)),I.2)) (bd J 4 (aF ((decide ((J:Int)=4)),I.2)) (bd J 5 (aF ((decide ((J:Int)=5)),I.2)) (aF ((decide ((J:Int)=6)),I.2))))) λU=>(bcase U.1 (bI G1 U.2.1 M λY=>(af Y.1)) (af 9)))))))))))
def gD (x:(sd×List sa)×Int×(List UInt8)×Int×Int):Option (Int):=
 (obind (pI (x.1,x.2.1,x.p2)) λI=>(bd I 0 (af 5) (jn (α:=Bool) (iF I x.p3 (aF (!decide ((I:Int)=x.q4))) (aF aj)) λJ=>(bcase J (af 6) (af 0)))))
def ux (rr04_Nodes:Xp->Option (Int×Int)) (x:Xp):Option (Int×Int):=
 (iter (σ:=(Int×Int×Int)×Xp) (λI=>(bB I.1.2.2 (aQ (al (Xp.l I.2))) (bI (.ex) (Xp.l I.2) I.1.2.2 λM=>(obind (rr04_Nodes M) λJ=>(cK (((bn .i64 (I.1.1+J.1)),(jL I.1.2.1 J.2),(cC I.1.2.2)),eh ((Xp.op I.2),(Xp.n I.2),(Xp.name I.2),(Xp.l I.2)))))) (aF (I.1.1,(cC I.1.2.1))))) ((1,0,0),eh ((Xp.op x),(Xp.n x),(Xp.name x),(Xp.l x))))
def ng:Nat->Xp->Option (Int×Int)
 |0,_=>ah
 |n+1,x=>ux (ng n) x
theorem ym (n:Nat) (x:Xp):ng (n+1) x=ux (ng n) x:=rfl
def BT (x:Xp):Option (Int×Int):=ng fuel x
def uw (rr04_names:((sd×List sa)×Int×Xp)->Option (Int)) (x:(sd×List sa)×Int×Xp):Option (Int):=
 (jn (α:=Int×(sd×List sa)×Xp) (bd (Xp.op x.2.2) 2 (obind (gD (x.1,x.2.1,(Xp.name x.2.2),8,1)) λy2=>(aF (y2,x.1,eh ((Xp.op x.2.2),(Xp.n x.2.2),(Xp.name x.2.2),(Xp.l x.2.2))))) (bd (Xp.op x.2.2) 3 (obind (gD (x.1,x.2.1,(Xp.name x.2.2),2,2)) λZ=>(aF (Z,x.1,eh ((Xp.op x.2.2),(Xp.n x.2.2),(Xp.name x.2.2),(Xp.l x.2.2))))) (aF (0,x.1,eh ((Xp.op x.2.2),(Xp.n x.2.2),(Xp.name x.2.2),(Xp.l x.2.2)))))) λM=>(iter (σ:=(Int×Int)×(sd×List sa)×Xp) (λI=>(jn (α:=Bool×(sd×List sa)×Xp) (bB I.1.2 (aQ (al (Xp.l I.2.2))) (aF ((decide ((I.1.1:Int)=0)),I.2.1,eh ((Xp.op I.2.2),(Xp.n I.2.2),(Xp.name I.2.2),(Xp.l I.2.2)))) (aF (aj,I.2.1,eh ((Xp.op I.2.2),(Xp.n I.2.2),(Xp.name I.2.2),(Xp.l I.2.2))))) λJ=>(bcase J.1 (bI (.ex) (Xp.l J.2.2) I.1.2 λU=>(obind (rr04_names (J.2.1,x.2.1,U)) λY=>(cK ((Y,(cC I.1.2)),J.2.1,eh ((Xp.op J.2.2),(Xp.n J.2.2),(Xp.name J.2.2),(Xp.l J.2.2)))))) (aF I.1.1)))) ((M.1,0),M.2.1,eh ((Xp.op M.2.2),(Xp.n M.2.2),(Xp.name M.2.2),(Xp.l M.2.2)))))
def ne:Nat->((sd×List sa)×Int×Xp)->Option (Int)
 |0,_=>ah
 |n+1,x=>uw (ne n) x
theorem yl (n:Nat) (x:(sd×List sa)×Int×Xp):ne (n+1) x=uw (ne n) x:=rfl
def BS (x:(sd×List sa)×Int×Xp):Option (Int):=ne fuel x
def mh (x:(sd×List sa)×Int×Xp):Option (Int):=
 (obind (jf (eh ((Xp.op x.2.2),(Xp.n x.2.2),(Xp.name x.2.2),(Xp.l x.2.2)))) λU=>(bcase (!U) (af 3) (obind (BT (eh ((Xp.op x.2.2),(Xp.n x.2.2),(Xp.name x.2.2),(Xp.l x.2.2)))) λJ=>(jn (α:=Bool×(sd×List sa)×Xp) (bB 24 J.1 (aF (ai,x.1,eh ((Xp.op x.2.2),(Xp.n x.2.2),(Xp.name x.2.2),(Xp.l x.2.2)))) (aF ((fX 6 J.2),x.1,eh ((Xp.op x.2.2),(Xp.n x.2.2),(Xp.name x.2.2),(Xp.l x.2.2))))) λI=>(bcase I.1 (af 2) (obind (BS (I.2.1,x.2.1,eh ((Xp.op I.2.2),(Xp.n I.2.2),(Xp.name I.2.2),(Xp.l I.2.2)))) λM=>(af M)))))))
def cZ (x:Bool):Option (Int):=
 (bcase x (af 7) (af 0))
def ja (x:Int×Int):Option (Int):=
 (iF x.1 0 (af x.1) (af x.2))
def dX (x:(Int×Int×List UInt8)×qS×(Bool×List Sx)×ca×List (List UInt8)):Option (Bool×qS×(Bool×List Sx)×ca×List (List UInt8)):=
 (iter (σ:=Int×qS×(Bool×List Sx)×ca×List (List UInt8)) (λI=>(bB I.1 (aY I.p2.2) (kF (.sm) I.p2.2 I.1 λJ=>(jn (α:=Bool×qS×(Bool×List Sx)×ca×List (List UInt8)) (bd (Sx.op J) x.1.1 (bcase (decide ((x.1.2.2:List UInt8)=([]))) (aF (ai,I.2)) (aF ((decide (((Sx.name J):List UInt8)=x.1.2.2)),I.2))) (bd (Sx.op J) x.1.2.1 (bcase (decide ((x.1.2.2:List UInt8)=([]))) (aF (ai,I.2)) (aF ((decide (((Sx.name J):List UInt8)=x.1.2.2)),I.2))) (aF (aj,I.2)))) λM=>(bcase M.1 (aF (ai,M.2)) (cK ((cC I.1),M.2))))) (aF (aj,I.2)))) (0,x.2))
def mg (x:Sx×qS×(Bool×List Sx)×ca×List (List UInt8)):Option (Int×qS×(Bool×List Sx)×ca×List (List UInt8)):=
 (obind (dX ((7,7,[]),x.2)) λy1=>(bF (aC (al x.q4) (al y1.q4)&&(aC (al x.p3) (al y1.p3)&&(((x.p2.1==y1.p2.1)&&ai)&&aC (al x.p2.2) (al y1.p2.2)&&ai))) (obind (dX ((8,8,[]),y1.2)) λy2=>(bF (aC (al y1.q4) (al y2.q4)&&(aC (al y1.p3) (al y2.p3)&&(((y1.p2.1==y2.p2.1)&&ai)&&aC (al y1.p2.2) (al y2.p2.2)&&ai))) (obind (dX ((3,3,[]),y2.2)) λy3=>(bF (aC (al y2.q4) (al y3.q4)&&(aC (al y2.p3) (al y3.p3)&&(((y2.p2.1==y3.p2.1)&&ai)&&aC (al y2.p2.2) (al y3.p2.2)&&ai))) (bd (Sx.op x.1) 1 (bd (aQ (al (Sx.index x.1))) 0 (obind (gD ((x.2.1.1,x.2.1.2.1),x.2.1.2.2,(Sx.name x.1),8,1)) λy4=>(obind (mh ((x.2.1.1,x.2.1.2.1),x.2.1.2.2,eh ((Xp.op (Sx.expr x.1)),(Xp.n (Sx.expr x.1)),(Xp.name (Sx.expr x.1)),(Xp.l (Sx.expr x.1))))) λy5=>(obind (ja (y4,y5)) λy6=>(af (y6,y3.2))))) (obind (gD ((x.2.1.1,x.2.1.2.1),x.2.1.2.2,(Sx.name x.1),2,2)) λy7=>(bI (.ex) (Sx.index x.1) 0 λz8=>(obind (mh ((x.2.1.1,x.2.1.2.1),x.2.1.2.2,z8)) λy9=>(obind (mh ((x.2.1.1,x.2.1.2.1),x.2.1.2.2,eh ((Xp.op (Sx.expr x.1)),(Xp.n (Sx.expr x.1)),(Xp.name (Sx.expr x.1)),(Xp.l (Sx.expr x.1))))) λy10=>(obind (ja (y9,y10)) λy11=>(obind (ja (y7,y11)) λy12=>(af (y12,y3.2))))))))) (jn (α:=Bool×qS×(Bool×List Sx)×Sx×(sd×List sa)×ca×List (List UInt8)) (bd (Sx.op x.1) 2 (aF ((decide (((Sx.op x.1):Int)=2)),y3.2.1,y3.p2,ep x.1,(x.2.1.1,x.2.1.2.1),y3.q3)) (aF ((decide (((Sx.op x.1):Int)=3)),y3.2.1,y3.p2,ep x.1,(x.2.1.1,x.2.1.2.1),y3.q3))) λM=>(bcase M.1 (obind (mh (M.p4,x.2.1.2.2,eh ((Xp.op (Sx.expr M.p3)),(Xp.n (Sx.expr M.p3)),(Xp.name (Sx.expr M.p3)),(Xp.l (Sx.expr M.p3))))) λy14=>(af (y14,M.2.1,M.p2,M.q5))) (bd (Sx.op x.1) 4 (jn (α:=Int×qS×(Bool×List Sx)×ca×List (List UInt8)) (obind (gD (M.p4,x.2.1.2.2,(Sx.name M.p3),3,3)) λy16=>(bcase y1.1 (obind (cZ ai) λy17=>(obind (ja (y16,y17)) λy18=>(aF (y18,M.2.1,M.p2,M.q5)))) (obind (dX ((4,4,(Sx.name M.p3)),M.2.1,M.p2,M.q5)) λy19=>(bF (aC (al M.q6) (al y19.q4)&&(aC (al M.p5) (al y19.p3)&&(((M.p2.1==y19.p2.1)&&ai)&&aC (al M.p2.2) (al y19.p2.2)&&ai))) (obind (cZ y19.1) λy20=>(obind (ja (y16,y20)) λy21=>(aF (y21,y19.2)))))))) λx15=>(af x15)) (jn (α:=Bool×qS×(Bool×List Sx)×Sx×(sd×List sa)×ca×List (List UInt8)) (bd (Sx.op x.1) 5 (aF ((decide (((Sx.op x.1):Int)=5)),M.2.1,M.p2,ep M.p3,M.q4)) (aF ((decide (((Sx.op x.1):Int)=6)),M.2.1,M.p2,ep M.p3,M.q4))) λJ=>(bcase J.1 (jn (α:=Int×qS×(Bool×List Sx)×ca×List (List UInt8)) (obind (gD (J.p4,x.2.1.2.2,(Sx.name J.p3),4,4)) λy24=>(bcase y1.1 (obind (cZ ai) λy25=>(obind (ja (y24,y25)) λy26=>(aF (y26,J.2.1,J.p2,J.q5)))) (obind (dX ((5,6,(Sx.name J.p3)),J.2.1,J.p2,J.q5)) λy27=>(bF (aC (al J.q6) (al y27.q4)&&(aC (al J.p5) (al y27.p3)&&(((J.p2.1==y27.p2.1)&&ai)&&aC (al J.p2.2) (al y27.p2.2)&&ai))) (obind (cZ y27.1) λy28=>(obind (ja (y24,y28)) λy29=>(aF (y29,y27.2)))))))) λx23=>(af x23)) (bd (Sx.op x.1) 7 (obind (cZ y1.1) λy30=>(af (y30,J.2.1,J.p2,J.q5))) (bd (Sx.op x.1) 8 (jn (α:=Int×qS×(Bool×List Sx)×ca×List (List UInt8)) (bcase y1.1 (obind (cZ ai) λy32=>(aF (y32,J.2.1,J.p2,J.q5))) (obind (cZ y2.1) λy33=>(aF (y33,J.2.1,J.p2,J.q5)))) λx31=>(af x31)) (jn (α:=Bool×qS×(Bool×List Sx)×Sx×(sd×List sa)×ca×List (List UInt8)) (bd (Sx.op x.1) 9 (aF ((decide (((Sx.op x.1):Int)=9)),J.2.1,J.p2,ep J.p3,J.q4)) (bd (Sx.op x.1) 10 (aF ((decide (((Sx.op x.1):Int)=10)),J.2.1,J.p2,ep J.p3,J.q4)) (aF ((decide (((Sx.op x.1):Int)=11)),J.2.1,J.p2,ep J.p3,J.q4)))) λI=>(bcase I.1 (obind (gD (I.p4,x.2.1.2.2,(Sx.name I.p3),5,5)) λy35=>(iF y35 0 (af (y35,I.2.1,I.p2,I.q5)) (obind (ia (I.p4.1,(Sx.name I.p3))) λy36=>(bI G1 I.p4.1 y36 λz37=>(obind (dX ((4,4,z37.2.2.2.2.2),I.2.1,I.p2,I.q5)) λy38=>(bF (aC (al I.q6) (al y38.q4)&&(aC (al I.p5) (al y38.p3)&&(((I.p2.1==y38.p2.1)&&ai)&&aC (al I.p2.2) (al y38.p2.2)&&ai))) (jn (α:=Int×qS×(Bool×List Sx)×ca×List (List UInt8)) (bcase y1.1 (obind (cZ ai) λy40=>(aF (y40,y38.2))) (bcase (!y38.1) (obind (cZ ai) λy41=>(aF (y41,y38.2))) (bd (Sx.op I.p3) 9 (obind (cZ y2.1) λy42=>(aF (y42,y38.2))) (obind (cZ aj) λy43=>(aF (y43,y38.2)))))) λx39=>(af x39)))))))) (bd (Sx.op x.1) 12 (obind (gD (I.p4,x.2.1.2.2,(Sx.name I.p3),7,7)) λy44=>(iF y44 0 (af (y44,I.2.1,I.p2,I.q5)) (obind (gQ (I.p4.2,(Sx.name I.p3))) λy45=>(jn (α:=Bool×qS×(Bool×List Sx)×Sx×ca×List (List UInt8)) (bcase y1.1 (aF (ai,I.2.1,I.p2,ep I.p3,I.q5)) (bcase y2.1 (aF (ai,I.2.1,I.p2,ep I.p3,I.q5)) (bcase y3.1 (aF (ai,I.2.1,I.p2,ep I.p3,I.q5)) (bd y45 x.2.1.2.2 (aF (ai,I.2.1,I.p2,ep I.p3,I.q5)) (aF ((decide ((y45:Int)=0)),I.2.1,I.p2,ep I.p3,I.q5)))))) λU=>(bcase U.1 (af (7,U.2.1,U.p2,U.q4)) (obind (jb (U.p4,(Sx.name U.p3))) λy47=>(jZ 0 y47 (af (8,U.2.1,U.p2,U.q4)) (bF (bc (al U.p4+al ([(Sx.name U.p3)])) 16) (af (0,U.2.1,U.p2,(U.p4++([(Sx.name U.p3)])),U.q5)))))))))) (bd (Sx.op x.1) 13 (jn (α:=Int×qS×(Bool×List Sx)×ca×List (List UInt8)) (obind (gD (I.p4,x.2.1.2.2,(Sx.name I.p3),7,7)) λy49=>(bcase y1.1 (obind (cZ ai) λy50=>(obind (ja (y49,y50)) λy51=>(aF (y51,I.2.1,I.p2,I.q5)))) (bcase y2.1 (obind (cZ ai) λy52=>(obind (ja (y49,y52)) λy53=>(aF (y53,I.2.1,I.p2,I.q5)))) (obind (gQ (I.p4.2,(Sx.name I.p3))) λy54=>(obind (cZ (decide ((y54:Int)=x.2.1.2.2))) λy55=>(obind (ja (y49,y55)) λy56=>(aF (y56,I.2.1,I.p2,I.q5)))))))) λx48=>(af x48)) (bd (Sx.op x.1) 14 (jn (α:=Int×qS×(Bool×List Sx)×Sx×(sd×List sa)×ca×List (List UInt8)) (obind (gD (I.p4,x.2.1.2.2,(Sx.name I.p3),6,6)) λy58=>(bcase y1.1 (obind (cZ ai) λy59=>(obind (ja (y58,y59)) λy60=>(aF (y60,I.2.1,I.p2,ep I.p3,I.q4)))) (obind (cZ y3.1) λy61=>(obind (ja (y58,y61)) λy62=>(aF (y62,I.2.1,I.p2,ep I.p3,I.q4)))))) λZ=>(jn (α:=Int×qS×(Bool×List Sx)×Sx×(sd×List sa)×ca×List (List UInt8)) (jn (α:=Bool×qS×(Bool×List Sx)×Sx×(sd×List sa)×ca×List (List UInt8)) (bd Z.1 0 (obind (jb (Z.q6,(Sx.name Z.p3))) λy65=>(aF ((cY 0 y65),Z.2.1,Z.p2,ep Z.p3,Z.q4))) (aF (aj,Z.2.1,Z.p2,ep Z.p3,Z.q4))) λx64=>(bcase x64.1 (aF (8,x64.2.1,x64.p2,ep x64.p3,x64.q4)) (aF (Z.1,x64.2.1,x64.p2,ep x64.p3,x64.q4)))) λY=>(bF (bc (al Y.q6+al ([(Sx.name Y.p3)])) 16) (obind (mh (Y.p4,x.2.1.2.2,eh ((Xp.op (Sx.expr Y.p3)),(Xp.n (Sx.expr Y.p3)),(Xp.name (Sx.expr Y.p3)),(Xp.l (Sx.expr Y.p3))))) λy66=>(obind (ja (Y.1,y66)) λy67=>(af (y67,Y.2.1,Y.p2,Y.p5,(Y.q6++([(Sx.name Y.p3)]))))))))) (obind (gD (I.p4,x.2.1.2.2,(Sx.name I.p3),8,8)) λy68=>(obind (gD (I.p4,x.2.1.2.2,(Sx.arg I.p3),6,6)) λy69=>(obind (cZ y1.1) λy70=>(obind (ja (y69,y70)) λy71=>(obind (ja (y68,y71)) λy72=>(af (y72,I.2.1,I.p2,I.q5))))))))))))))))))))))))))
def mm (rr04_walk_all:((List Sx)×qS×(Bool×List Sx)×ca×List (List UInt8))->Option afp) (x:(List Sx)×qS×(Bool×List Sx)×ca×List (List UInt8)):Option afp:=
 (iter (σ:=Int×qS×(Bool×List Sx)×ca×List (List UInt8)) (λU=>(bB U.1 (aY x.1) (bI (.sm) x.1 U.1 λZ=>(obind (mg (ep Z,U.2)) λY=>(bF (aC (al U.q4) (al U.q4)&&(aC (al U.p3) (al U.p3)&&(((U.p2.1==Y.p2.1)&&ai)&&aC (al U.p2.2) (al Y.p2.2)&&ai))) (jn (α:=Int×qS×Sx×(Bool×List Sx)×ca×List (List UInt8)) (bB 6 (bn .i64 ((aY Y.p2.2)+1)) (aF (2,Y.2.1,ep Z,Y.2.2)) (aF (Y.1,Y.2.1,ep Z,Y.2.2))) λI=>(iF I.1 0 (aF ((I.1,(Sx.line I.p2)),I.2.1,I.q3)) (bF (bc (al I.p3.2+al ([nO (0,0,[],[],([]:List Xp),eh (0,0,[],([]:List Xp)),([]:List Sx),([]:List Sx))])) 176) (ck (fk (aY I.p3.2) (al (I.p3.2++([nO (0,0,[],[],([]:List Xp),eh (0,0,[],([]:List Xp)),([]:List Sx),([]:List Sx))])))) (obind (rr04_walk_all ((Sx.body I.p2),I.2.1,(I.p3.1,(cq (I.p3.2++([nO (0,0,[],[],([]:List Xp),eh (0,0,[],([]:List Xp)),([]:List Sx),([]:List Sx))])) (aY I.p3.2) (ep I.p2))),I.q4)) λM=>(bF (aC (al I.q5) (al I.q5)&&(aC (al I.p4) (al I.p4)&&(((I.p3.1==I.p3.1)&&ai)&&aC (al (cq (I.p3.2++([nO (0,0,[],[],([]:List Xp),eh (0,0,[],([]:List Xp)),([]:List Sx),([]:List Sx))])) (aY I.p3.2) (ep I.p2))) (al (cq (I.p3.2++([nO (0,0,[],[],([]:List Xp),eh (0,0,[],([]:List Xp)),([]:List Sx),([]:List Sx))])) (aY I.p3.2) (ep I.p2)))&&ai))) (jn (α:=(Int×Int)×qS×(Bool×List Sx)×ca×List (List UInt8)) (bd M.1.1 0 (obind (rr04_walk_all ((Sx.els I.p2),M.2)) λy7=>(bF (aC (al M.q4) (al M.q4)&&(aC (al M.p3) (al M.p3)&&(((M.p2.1==M.p2.1)&&ai)&&aC (al M.p2.2) (al M.p2.2)&&ai))) (aF y7))) (aF M)) λJ=>(bF (cY 0 (bn .i64 ((aY J.p2.2)-1))&&fX (bn .i64 ((aY J.p2.2)-1)) (al J.p2.2)) (iF J.1.1 0 (aF (J.1,J.2.1,(aj,(dA (aS (bn .i64 ((aY J.p2.2)-1))) J.p2.2)),J.q3)) (cK ((cC U.1),J.2.1,(aj,(dA (aS (bn .i64 ((aY J.p2.2)-1))) J.p2.2)),J.q3)))))))))))))) (aF ((0,0),U.2)))) (0,x.2))
def iH:Nat->((List Sx)×qS×(Bool×List Sx)×ca×List (List UInt8))->Option afp
 |0,_=>ah
 |n+1,x=>mm (iH n) x
theorem B5 (n:Nat) (x:(List Sx)×qS×(Bool×List Sx)×ca×List (List UInt8)):iH (n+1) x=mm (iH n) x:=rfl
def vM (x:(List Sx)×qS×(Bool×List Sx)×ca×List (List UInt8)):Option afp:=iH fuel x
def uy (rr04_Count:(List Sx)->Option (Int)) (x:List Sx):Option (Int):=
 (iter (σ:=Int×Int) (λI=>(bB I.2 (aY x) (v9 I.2 x (lt (Sx.body (aJ (T:=.sm) x I.2)) λM=>(obind (rr04_Count M) λY=>(v9 I.2 x (lt (Sx.els (aJ (T:=.sm) x I.2)) λJ=>(obind (rr04_Count J) λU=>(cK ((bn .i64 ((bn .i64 (I.1+Y))+U)),(cC I.2))))))))) (aF I.1))) ((aY x),0))
def nh:Nat->(List Sx)->Option (Int)
 |0,_=>ah
 |n+1,x=>uy (nh n) x
theorem yn (n:Nat) (x:List Sx):nh (n+1) x=uy (nh n) x:=rfl
def BU (x:List Sx):Option (Int):=nh fuel x
def rn (x:List ac7):Option (Int×Int):=
 (iter (σ:=Int×Int×Int×Int×Int) (λI=>(bB I.q4 (aY x) (jn (α:=Int×Int×Int×Int) (bI G1 x I.q4 λJ=>(bF (cY 0 I.q4&&cY I.q4 (al x)) (obind (ia ((dA (aS I.q4) x),J.p2)) λy4=>(jZ 0 y4 (cK (bW (4,J.2.1))) (bB 4 J.p3 (cK (bW (2,J.2.1))) (jn (α:=(Int×Int×Int×Int)×Int×Int×(List UInt8)×Int×Int×List UInt8) (jn (α:=Bool×Int×Int×(List UInt8)×Int×Int×List UInt8) (bd J.1 1 (aF ((decide ((J.1:Int)=1)),J)) (aF ((decide ((J.1:Int)=2)),J))) λY=>(bcase Y.1 (aF (((bn .i64 (I.1+(jL Y.p4 1))),I.2.1,I.p2,I.p3),Y.2)) (jn (α:=Bool×Int×Int×(List UInt8)×Int×Int×List UInt8) (bd J.1 3 (aF ((decide ((J.1:Int)=3)),Y.2)) (aF ((decide ((J.1:Int)=4)),Y.2))) λZ=>(bcase Z.1 (aF ((I.1,(cC I.2.1),I.p2,I.p3),Z.2)) (bd J.1 5 (aF ((I.1,I.2.1,(cC I.p2),I.p3),Z.2)) (aF ((I.1,I.2.1,I.p2,(cC I.p3)),Z.2))))))) λM=>(jn (α:=Bool×Int×Int×(List UInt8)×Int×Int×List UInt8) (bB 12 M.1.1 (aF (ai,M.2)) (bB 4 M.1.2.1 (aF (ai,M.2)) (bB 2 M.1.p2 (aF (ai,M.2)) (aF ((fX 2 M.1.q3),M.2))))) λU=>(bcase U.1 (cK (bW (2,U.p2))) (bd U.2.1 5 (bF (cY 0 I.q4&&cY I.q4 (al x)) (obind (ia ((dA (aS I.q4) x),U.q6)) λy9=>(bB y9 0 (cK (bW (5,U.p2))) (bI G1 x y9 λz10=>(iF z10.1 3 (cK (bW (6,U.p2))) (aF M.1)))))) (aF M.1)))))))))) λx2=>(cK (x2.1,x2.2.1,x2.p2,x2.q3,(cC I.q4)))) (aF (0,0)))) (0,0,0,0,0))
def nL (x:sd×List sa):Option (Int×Int):=
 (iter (σ:=Int×sd×List sa) (λJ=>(bB J.1 (aY J.2.2) (bI sZ J.2.2 J.1 λY=>(jn (α:=Bool×(sd×List sa)×(List UInt8)×Int×ca×List Sx) (obind (ia (J.2.1,Y.1)) λy4=>(jZ 0 y4 (aF (ai,J.2,Y)) (bF (cY 0 J.1&&cY J.1 (al J.2.2)) (obind (gQ ((dA (aS J.1) J.2.2),Y.1)) λy5=>(aF ((cY 0 y5),J.2,Y)))))) λx3=>(bcase x3.1 (aF (4,x3.p3)) (cK ((cC J.1),x3.2.1))))) (obind (iter (σ:=Int×sd×List sa) (λU=>(bB U.1 (aY U.2.2) (bI sZ U.2.2 U.1 λz7=>(bB 4 (aY z7.p2) (aF (2,z7.2.1)) (iter (σ:=Int×(sd×List sa)×(List UInt8)×Int×ca×List Sx) (λI=>(bB I.1 (aY I.p4) (bI (.str) I.p4 I.1 λZ=>(jn (α:=Bool×(sd×List sa)×(List UInt8)×Int×ca×List Sx) (obind (ia (I.2.1.1,Z)) λy11=>(jZ 0 y11 (aF (ai,I.2)) (obind (gQ (I.2.1.2,Z)) λy12=>(jZ 0 y12 (aF (ai,I.2)) (bF (cY 0 I.1&&cY I.1 (al I.p4)) (obind (jb ((dA (aS I.1) I.p4),Z)) λy13=>(aF ((cY 0 y13),I.2)))))))) λM=>(bcase M.1 (aF (bW (4,M.p3))) (cK ((cC I.1),M.2))))) (aF (oS ((cC U.1),I.2.1))))) (0,U.2,z7)))) (aF (0,0)))) (0,J.2)) λr=>af (bW r)))) (0,x))
def fo (x:sd×List sa):Option (Int×Int):=
 (obind (pJ x) λy1=>(bcase (!y1) (af (3,0)) (obind (rn x.1) λY=>(iF Y.1 0 (af Y) (bB 4 (aY x.2) (af (2,0)) (obind (nL x) λU=>(iF U.1 0 (af U) (iter (σ:=(Int×Int)×sd×List sa) (λJ=>(bB J.1.2 (aY J.2.2) (bI sZ J.2.2 J.1.2 λz5=>(obind (BU z5.2.2.2) λy6=>(cK (((bn .i64 (J.1.1+y6)),(cC J.1.2)),J.2)))) (obind (bB 60 J.1.1 (af (2,0)) (iter (σ:=Int×(sd×List sa)×qS×(Bool×List Sx)×ca×List (List UInt8)) (λI=>(bB I.1 (aY I.2.1.2) (bI sZ I.2.1.2 I.1 λZ=>(obind (vM (Z.2.2.2,(I.p2.1,I.p2.2.1,I.1),I.q3)) λM=>(bF (aC (al I.q5) (al I.q5)&&(aC (al I.p4) (al I.p4)&&(((I.p3.1==I.p3.1)&&ai)&&aC (al I.p3.2) (al I.p3.2)&&ai))) (iF M.1.1 0 (aF M.1) (cK ((cC I.1),I.2.1,M.2)))))) (aF (0,0)))) (0,J.2,(J.2.1,J.2.2,0),(ai,([]:List Sx)),([]:List (List UInt8)),([]:List (List UInt8))))) λr=>af (bW r)))) ((0,0),x)))))))))
def xD (rr06_sites:((Int×Int×List Sx)×List (Int×Int×Int))->Option (Int×List (Int×Int×Int))) (x:(Int×Int×List Sx)×List (Int×Int×Int)):Option (Int×List (Int×Int×Int)):=
 (iter (σ:=(Int×Int)×List (Int×Int×Int)) (λI=>(bB I.1.2 (aY x.1.2.2) (v9 I.1.2 x.1.2.2 (lt (Sx.line (aJ (T:=.sm) x.1.2.2 I.1.2)) λJ=>(bF (bc (al I.2+al ([(x.1.1,I.1.1,J)])) 24) (v9 I.1.2 x.1.2.2 (lt (Sx.body (aJ (T:=.sm) x.1.2.2 I.1.2)) λZ=>(obind (rr06_sites ((x.1.1,(cC I.1.1),Z),(I.2++([(x.1.1,I.1.1,J)])))) λM=>(bF (aC (al (I.2++([(x.1.1,I.1.1,J)]))) (al (I.2++([(x.1.1,I.1.1,J)])))&&ai) (v9 I.1.2 x.1.2.2 (lt (Sx.els (aJ (T:=.sm) x.1.2.2 I.1.2)) λY=>(obind (rr06_sites ((x.1.1,M.1,Y),M.2)) λU=>(bF (aC (al M.2) (al M.2)&&ai) (cK ((U.1,(cC I.1.2)),U.2))))))))))))) (aF (I.1.1,I.2)))) ((x.1.2.1,0),x.2))
def py:Nat->((Int×Int×List Sx)×List (Int×Int×Int))->Option (Int×List (Int×Int×Int))
 |0,_=>ah
 |n+1,x=>xD (py n) x
theorem Hi (n:Nat) (x:(Int×Int×List Sx)×List (Int×Int×Int)):py (n+1) x=xD (py n) x:=rfl
def IF (x:(Int×Int×List Sx)×List (Int×Int×Int)):Option (Int×List (Int×Int×Int)):=py fuel x
def km (x:gG×List UInt8):Option (Int):=
 (iter (σ:=Int) (λI=>(bB I (aY x.1) (bI rP x.1 I λJ=>(bcase (decide ((J.1:List UInt8)=x.2)) (aF I) (cK (cC I)))) (aF (-1)))) 0)
def lm (x:dJ×List UInt8):Option (Int):=
 (iter (σ:=Int×gX×gG×(List fw)×ca×ca×List (Int×Int×Int)) (λI=>(bB I.1 (aY I.2.1) (bI kB I.2.1 I.1 λJ=>(bcase (decide ((J.1:List UInt8)=x.2)) (aF I.1) (cK ((cC I.1),I.2)))) (aF (-1)))) (0,x.1))
def uj (x:sd×List sa):Option dJ:=
 (obind (fo x) λy1=>(iF y1.1 0 (af (([]:List SU),([]:List ((List UInt8)×Bool)),([]:List fw),([]:List (List UInt8)),([]:List (List UInt8)),([]:List (Int×Int×Int)))) (iter (σ:=Int×(sd×List sa)×gX×gG×(List fw)×List (List UInt8)) (λU=>(bB U.1 (aY U.2.1.1) (bI G1 U.2.1.1 U.1 λY=>(jn (α:=(sd×List sa)×gX×gG×(List fw)×List (List UInt8)) (jn (α:=Bool×(sd×List sa)×ac7×gX×gG×(List fw)×List (List UInt8)) (bd Y.1 1 (aF ((decide ((Y.1:Int)=1)),U.2.1,Y,U.2.2)) (aF ((decide ((Y.1:Int)=2)),U.2.1,Y,U.2.2))) λx5=>(bcase x5.1 (iter (σ:=Int×(sd×List sa)×ac7×gX×gG×(List fw)×List (List UInt8)) (λJ=>(bB J.1 (jL J.p2.p3 1) (bF (bc (al J.p3+al ([(J.p2.p2,J.1,J.p2.p3,(decide ((J.p2.1:Int)=2)),J.p2.p4)])) 48) (cK ((cC J.1),J.2.1,J.p2,(J.p3++([(J.p2.p2,J.1,J.p2.p3,(decide ((J.p2.1:Int)=2)),J.p2.p4)])),J.q4))) (aF (bW (J.2.1,J.q3))))) (0,x5.2)) (jn (α:=Bool×(sd×List sa)×ac7×gX×gG×(List fw)×List (List UInt8)) (bd Y.1 3 (aF ((decide ((Y.1:Int)=3)),x5.2)) (aF ((decide ((Y.1:Int)=4)),x5.2))) λI=>(bcase I.1 (bF (bc (al I.p4+al ([(I.p2.p2,(decide ((I.p2.1:Int)=4)))])) 24) (aF (I.2.1,I.p3,(I.p4++([(I.p2.p2,(decide ((I.p2.1:Int)=4)))])),I.q5))) (bd Y.1 5 (obind (km (I.p4,I.p2.q5)) λy8=>(bF (bc (al I.p5+al ([(I.p2.p2,y8)])) 24) (aF (I.2.1,I.p3,I.p4,(I.p5++([(I.p2.p2,y8)])),I.q6)))) (bF (bc (al I.q6+al ([I.p2.p2])) 16) (aF (I.2.1,I.p3,I.p4,I.p5,(I.q6++([I.p2.p2])))))))))) λx4=>(cK ((cC U.1),x4)))) (obind (iter (σ:=Int×(sd×List sa)×gX×gG×(List fw)×ca×ca×List (Int×Int×Int)) (λM=>(bB M.1 (aY M.2.1.2) (bI sZ M.2.1.2 M.1 λZ=>(bF (bc (al M.p6+al ([Z.1])) 16) (bI sZ M.2.1.2 M.1 λz11=>(obind (IF ((M.1,0,z11.2.2.2),M.q7)) λy12=>(bF (aC (al M.q7) (al M.q7)&&ai) (cK ((cC M.1),M.2.1,M.p2,M.p3,M.p4,M.p5,(M.p6++([Z.1])),y12.2))))))) (aF M.2.2))) (0,U.2.1,U.p2,U.p3,U.p4,U.q5,([]:List (List UInt8)),([]:List (Int×Int×Int)))) λr=>af (bW r)))) (0,x,([]:List SU),([]:List ((List UInt8)×Bool)),([]:List fw),([]:List (List UInt8))))))
def pm (x:gX×gG×(List fw)×ca×ca×List (Int×Int×Int)):Option (ca×Bool):=
 (iter (σ:=Int×dJ×List (List UInt8)) (λJ=>(bB J.1 (aY J.2.1.1) (jn (α:=Int×dJ×List (List UInt8)) (bI kB J.2.1.1 J.1 λU=>(bF (bc (al J.2.2+al ([U.1])) 16) (bd U.p2 0 (iF U.2.1 0 (cK (bW (([]:List (List UInt8)),aj))) (aF ((cC J.1),J.2.1,(J.2.2++([U.1]))))) (jn (α:=Bool×dJ×ca×(List UInt8)×Int×Int×Bool×Int) (bB U.p2 1 (aF (ai,J.2.1,(J.2.2++([U.1])),U)) (bB 4 U.p2 (aF (ai,J.2.1,(J.2.2++([U.1])),U)) (aF ((fX (bn .i64 ((aY J.2.1.1)-J.1)) U.p2),J.2.1,(J.2.2++([U.1])),U)))) λx4=>(bcase x4.1 (cK (bW (([]:List (List UInt8)),aj))) (iter (σ:=Int×dJ×ca×(List UInt8)×Int×Int×Bool×Int) (λM=>(bB M.1 M.p5 (bI kB M.2.1.1 (bn .i64 (J.1+M.1)) λZ=>(jn (α:=Bool×dJ×ca×(List UInt8)×Int×Int×Bool×Int) (iF Z.2.1 M.1 (aF (ai,M.2)) (bcase (!decide ((Z.1:List UInt8)=M.p3)) (aF (ai,M.2)) (iF Z.p2 M.p5 (aF (ai,M.2)) (iF Z.q4 M.q7 (aF (ai,M.2)) (aF (Z.p3,M.2)))))) λx7=>(bcase x7.1 (aF (oS (bW (([]:List (List UInt8)),aj)))) (cK ((cC M.1),x7.2))))) (aF (bW ((bn .i64 (J.1+M.p5)),M.2.1,M.p2))))) (0,x4.2))))))) λx2=>(cK x2)) (obind (iter (σ:=Int×dJ×List (List UInt8)) (λY=>(bB Y.1 (aY Y.2.1.2.1) (bI rP Y.2.1.2.1 Y.1 λz9=>(bF (bc (al Y.2.2+al ([z9.1])) 16) (cK ((cC Y.1),Y.2.1,(Y.2.2++([z9.1])))))) (obind (iter (σ:=Int×dJ×List (List UInt8)) (λI=>(bB I.1 (aY I.2.1.p2) (bI mb I.2.1.p2 I.1 λz11=>(bF (bc (al I.2.2+al ([z11.1])) 16) (cK ((cC I.1),I.2.1,(I.2.2++([z11.1])))))) (obind (bF (bc (al I.2.2+al I.2.1.p3) 16) (bF (bc (al (I.2.2++I.2.1.p3)+al I.2.1.p4) 16) (af (((I.2.2++I.2.1.p3)++I.2.1.p4),ai)))) λr=>af (bW r)))) (0,Y.2)) λr=>af (bW r)))) (0,J.2)) λr=>af (bW r)))) (0,x,([]:List (List UInt8))))
def h_ (x:gX×gG×(List fw)×ca×ca×List (Int×Int×Int)):Option (Bool):=
 (jn (α:=Bool×gX×gG×(List fw)×ca×ca×List (Int×Int×Int)) (bB 12 (aY x.1) (aF (ai,x)) (bB 4 (aY x.2.1) (aF (ai,x)) (bB 2 (aY x.p2) (aF (ai,x)) (bB 2 (aY x.p3) (aF (ai,x)) (bB (aY x.p4) 1 (aF (ai,x)) (bB 4 (aY x.p4) (aF (ai,x)) (aF ((fX 60 (aY x.q5)),x)))))))) λx1=>(bcase x1.1 (af aj) (obind (pm x1.2) λy2=>(bcase (!y2.2) (af aj) (iter (σ:=Int×gX×gG×(List fw)×ca×ca×List (Int×Int×Int)) (λY=>(bB Y.1 (aY y2.1) (jn (α:=Bool×gX×gG×(List fw)×ca×ca×List (Int×Int×Int)) (bI (.str) y2.1 Y.1 λz5=>(obind (fh z5) λy6=>(bcase (!y6) (aF (ai,Y.2)) (bF (cY 0 Y.1&&cY Y.1 (al y2.1)) (bI (.str) y2.1 Y.1 λz7=>(obind (jb ((dA (aS Y.1) y2.1),z7)) λy8=>(aF ((cY 0 y8),Y.2)))))))) λx4=>(bcase x4.1 (aF aj) (cK ((cC Y.1),x4.2)))) (obind (iter (σ:=Int×gX×gG×(List fw)×ca×ca×List (Int×Int×Int)) (λM=>(bB M.1 (aY M.p3) (bI mb M.p3 M.1 λz10=>(jn (α:=Bool×gX×gG×(List fw)×ca×ca×List (Int×Int×Int)) (bB z10.2 0 (aF (ai,M.2)) (jZ (aY M.p2) z10.2 (aF (ai,M.2)) (bI rP M.p2 z10.2 λz12=>(aF (z12.2,M.2))))) λx11=>(bcase x11.1 (aF aj) (cK ((cC M.1),x11.2))))) (obind (iter (σ:=Int×gX×gG×(List fw)×ca×ca×List (Int×Int×Int)) (λI=>(bB I.1 (aY I.q6) (jn (α:=gX×gG×(List fw)×ca×ca×List (Int×Int×Int)) (bI oR I.q6 I.1 λZ=>(jn (α:=Bool×dJ×Int×Int×Int) (bB Z.1 0 (aF (ai,I.2,Z)) (aF ((cY (aY I.p5) Z.1),I.2,Z))) λU=>(bcase U.1 (cK (bW aj)) (jn (α:=Bool×dJ×Int×Int×Int) (bd I.1 0 (aF (ai,U.2)) (bI oR U.2.1.q5 (bn .i64 (I.1-1)) λz18=>(aF ((!decide ((z18.1:Int)=U.p2)),U.2)))) λJ=>(bcase J.1 (jn (α:=Bool×gX×gG×(List fw)×ca×ca×List (Int×Int×Int)) (iF J.p3 0 (aF (ai,J.2.1)) (bB 0 I.1 (bI oR J.2.1.q5 (bn .i64 (I.1-1)) λz20=>(aF ((fX J.p2 z20.1),J.2.1))) (aF (aj,J.2.1)))) λx19=>(bcase x19.1 (cK (bW aj)) (aF x19.2))) (bI oR J.2.1.q5 (bn .i64 (I.1-1)) λz21=>(iF J.p3 (cC z21.2.1) (cK (bW aj)) (aF J.2.1)))))))) λx14=>(cK ((cC I.1),x14))) (aF ai))) (0,M.2)) λr=>af (bW r)))) (0,Y.2)) λr=>af (bW r)))) (0,x1.2))))))
def jI (x:Int×Int×Int×Int×Int×Int):Option (List Int):=
 (jn (α:=Bool×Int×Int×Int×Int×Int×Int) (bd x.1 1 (aF ((decide ((x.1:Int)=1)),x)) (bd x.1 6 (aF ((decide ((x.1:Int)=6)),x)) (bd x.1 10 (aF ((decide ((x.1:Int)=10)),x)) (aF ((decide ((x.1:Int)=27)),x))))) λM=>(bcase M.1 (af ([M.p2])) (jn (α:=Bool×Int×Int×Int×Int×Int×Int) (bd x.1 2 (aF ((decide ((x.1:Int)=2)),M.2)) (aF ((decide ((x.1:Int)=3)),M.2))) λI=>(bcase I.1 (af ([I.p2,I.p3])) (bd x.1 4 (af ([I.p2,I.p3,I.p4])) (bd x.1 7 (af ([I.p2,I.p4])) (jn (α:=Bool×Int×Int×Int×Int×Int×Int) (bd x.1 8 (aF ((decide ((x.1:Int)=8)),I.2)) (aF ((decide ((x.1:Int)=26)),I.2))) λJ=>(bcase J.1 (af ([J.p3])) (bd x.1 9 (af ([J.p3,J.p4])) (af ([]:List Int)))))))))))
def pH (x:Int):Option (Bool):=
 (jn (α:=Bool) (jZ 1 x (aF (cY x 5)) (aF aj)) λI=>(af I))
def pn (x:(List jW)×Int):Option (Bool):=
 (iter (σ:=Int×Int) (λI=>(jZ I.2 (aY x.1) (jn (α:=Int) (jn (α:=Bool) (bB I.1 0 (aF ai) (aF (cY (aY x.1) I.1))) λZ=>(bcase Z (cK (bW aj)) (bI qR x.1 I.1 λU=>(obind (pH U.1) λY=>(bcase (!Y) (cK (bW ai)) (bI qR x.1 I.1 λM=>(bd M.1 5 (bI qR x.1 I.1 λJ=>(aF J.2.1)) (aF (cC I.1))))))))) λx2=>(cK (x2,(cC I.2)))) (aF aj))) (x.2,0))
def jq (x:Int×Int):Option (Bool):=
 (jn (α:=Bool) (jZ 0 x.1 (aF (fX x.1 x.2)) (aF aj)) λI=>(af I))
def m6 (x:dJ×Int×Int):Option (Bool):=
 (jn (α:=Bool) (obind (jq (x.2.1,(aY x.1.1))) λU=>(bcase U (bI kB x.1.1 x.2.1 λM=>(bd M.2.1 0 (bI kB x.1.1 x.2.1 λJ=>(iF J.2.2.1 0 (bI kB x.1.1 x.2.1 λI=>(aF (decide ((I.2.2.1:Int)=x.2.2)))) (aF aj))) (aF aj))) (aF aj))) λY=>(af Y))
def lB (x:dJ×Int×Int×Int×Int×Int×Int):Option (Bool):=
 (bd x.2.1 6 (jn (α:=Bool) (obind (jq (x.p3,(aY x.1.1))) λy2=>(bcase y2 (bI kB x.1.1 x.p3 λz3=>(aF (decide ((z3.2.2.1:Int)=0)))) (aF aj))) λx1=>(af x1)) (bd x.2.1 8 (jn (α:=Bool) (obind (jq (x.p2,(aY x.1.1))) λy5=>(bcase y5 (bI kB x.1.1 x.p2 λz6=>(aF (decide ((z6.2.2.1:Int)=0)))) (aF aj))) λx4=>(af x4)) (bd x.2.1 7 (obind (m6 (x.1,x.p3,x.p5)) λy7=>(af y7)) (bd x.2.1 9 (obind (m6 (x.1,x.p2,x.p5)) λy8=>(af y8)) (jn (α:=Bool×dJ×Int×Int×Int×Int×Int×Int) (bd x.2.1 11 (aF ((decide ((x.2.1:Int)=11)),x)) (aF ((decide ((x.2.1:Int)=12)),x))) λU=>(bcase U.1 (jn (α:=Bool) (obind (jq (U.p3,(aY U.2.1.2.1))) λy11=>(bcase y11 (bI rP U.2.1.2.1 U.p3 λZ=>(aF (!Z.2))) (aF aj))) λx10=>(af x10)) (jn (α:=Bool×dJ×Int×Int×Int×Int×Int×Int) (bd x.2.1 13 (aF ((decide ((x.2.1:Int)=13)),U.2)) (bd x.2.1 14 (aF ((decide ((x.2.1:Int)=14)),U.2)) (bd x.2.1 15 (aF ((decide ((x.2.1:Int)=15)),U.2)) (aF ((decide ((x.2.1:Int)=16)),U.2))))) λJ=>(bcase J.1 (jn (α:=Bool) (obind (jq (J.p3,(aY J.2.1.2.1))) λy15=>(bcase y15 (bI rP J.2.1.2.1 J.p3 λY=>(aF Y.2)) (aF aj))) λx14=>(af x14)) (jn (α:=Bool×dJ×Int×Int×Int×Int×Int×Int) (bd x.2.1 21 (aF ((decide ((x.2.1:Int)=21)),J.2)) (bd x.2.1 22 (aF ((decide ((x.2.1:Int)=22)),J.2)) (aF ((decide ((x.2.1:Int)=23)),J.2)))) λM=>(bcase M.1 (obind (jq (M.p3,(aY M.2.1.p2))) λy18=>(af y18)) (jn (α:=Bool×dJ×Int×Int×Int×Int×Int×Int) (bd x.2.1 24 (aF ((decide ((x.2.1:Int)=24)),M.2)) (aF ((decide ((x.2.1:Int)=25)),M.2))) λI=>(bcase I.1 (obind (jq (I.p3,(aY I.2.1.p4))) λy20=>(af y20)) (bd x.2.1 26 (obind (jq (I.p3,(aY I.2.1.p3))) λy21=>(af y21)) (bd x.2.1 27 (obind (jq (I.p4,(aY I.2.1.p3))) λy22=>(af y22)) (bd x.2.1 3 (jn (α:=Bool) (bd I.p6 4 (aF ai) (aF (decide ((I.p6:Int)=5)))) λx23=>(af x23)) (bd x.2.1 4 (jn (α:=Bool) (jZ 6 I.p6 (aF (cY I.p6 18)) (aF aj)) λx24=>(af x24)) (af ai)))))))))))))))))
def iu (x:dJ×Int×Int×List jW):Option (Bool):=
 (jn (α:=Bool×dJ×Int×List jW) (bB x.p2 0 (aF (ai,x.1,x.2.2)) (bB 32 x.p2 (aF (ai,x.1,x.2.2)) (aF ((decide (((aY x.q3):Int)=0)),x.1,x.2.2)))) λx1=>(bcase x1.1 (af aj) (iter (σ:=Int×dJ×Int×List jW) (λJ=>(bB J.1 (aY x.q3) (bI qR J.q3 J.1 λY=>(jn (α:=Bool×dJ×(Int×List jW)×Int×Int×Int×Int×Int×Int) (bB Y.1 1 (aF (ai,J.2.1,J.2.2,Y)) (bB 28 Y.1 (aF (ai,J.2.1,J.2.2,Y)) (bcase (((decide ((Y.1:Int)=28))==(decide ((J.1:Int)=(bn .i64 ((aY x.q3)-1))))) !=ai) (aF (ai,J.2.1,J.2.2,Y)) (obind (lB (J.2.1,Y)) λy5=>(bcase (!y5) (aF (ai,J.2.1,J.2.2,Y)) (obind (pn (J.q3,J.1)) λy6=>(aF ((!y6),J.2.1,J.2.2,Y)))))))) λI=>(bcase I.1 (aF aj) (jn (α:=Bool×dJ×(Int×List jW)×Int×Int×Int×Int×Int×Int) (bd I.p3 28 (iF I.q8 (-1) (aF (ai,I.2)) (iF I.p3 28 (obind (jq (I.q8,(aY I.2.1.q5))) λy8=>(bcase (!y8) (aF (ai,I.2)) (bI oR I.2.1.q5 I.q8 λz9=>(aF ((!decide ((z9.1:Int)=x.2.1)),I.2))))) (aF (aj,I.2)))) (iF I.p3 28 (obind (jq (I.q8,(aY I.2.1.q5))) λy10=>(bcase (!y10) (aF (ai,I.2)) (bI oR I.2.1.q5 I.q8 λz11=>(aF ((!decide ((z11.1:Int)=x.2.1)),I.2))))) (aF (aj,I.2)))) λU=>(bcase U.1 (aF aj) (jn (α:=Bool×dJ×(Int×List jW)×Int×Int×Int×Int×Int×Int) (bd U.p3 5 (obind (jq (U.p4,(aY x.q3))) λy13=>(bcase (!y13) (aF (ai,U.2)) (bd U.p3 10 (obind (jq (U.p5,(aY x.q3))) λy14=>(aF ((!y14),U.2))) (aF (aj,U.2))))) (bd U.p3 10 (obind (jq (U.p5,(aY x.q3))) λy15=>(aF ((!y15),U.2))) (aF (aj,U.2)))) λZ=>(bcase Z.1 (aF aj) (obind (jI Z.q3) λy16=>(iter (σ:=Int×dJ×Int×List jW) (λM=>(bB M.1 (aY y16) (bI aM y16 M.1 λz18=>(obind (jq (z18,M.p2)) λy19=>(bcase (!y19) (aF (bW aj)) (cK ((cC M.1),M.2))))) (aF (oS ((cC J.1),M.2))))) (0,Z.2.1,Z.p2)))))))))) (aF ai))) (0,x1.2))))
def jH (x:dJ×List (Int×List jW)):Option (Bool):=
 (jn (α:=Bool×dJ×List (Int×List jW)) (obind (h_ x.1) λY=>(bcase (!Y) (aF (ai,x)) (aF ((!decide (((aY x.2):Int)=(aY x.1.p4))),x)))) λJ=>(bcase J.1 (af aj) (iter (σ:=Int×dJ×List (Int×List jW)) (λI=>(bB I.1 (aY I.2.2) (bI w9 I.2.2 I.1 λM=>(obind (iu (I.2.1,I.1,M)) λU=>(bcase (!U) (aF aj) (cK ((cC I.1),I.2))))) (aF ai))) (0,J.2))))
def cA (x:jW×rM×List jW):Option (rM×List jW):=
 (bF (bc (al x.2.2+al ([(x.1.1,x.1.2.1,x.1.p2,x.1.p3,x.1.p4,x.2.1.p7)])) 48) (af (x.2.1,(x.2.2++([(x.1.1,x.1.2.1,x.1.p2,x.1.p3,x.1.p4,x.2.1.p7)])))))
def qz (rr06_gen_value:((Xp×Int)×rM×List jW)->Option (rM×List jW)) (x:(Xp×Int)×rM×List jW):Option (rM×List jW):=
 (jn (α:=rM×List jW) (bd (Xp.op x.1.1) 1 (obind (cA ((1,x.1.2,0,0,(Xp.n x.1.1),0),x.2)) λy2=>(bF (aC (al x.2.2) (al x.2.2)&&ai) (aF y2))) (bd (Xp.op x.1.1) 2 (obind (jb (x.2.1.p6,(Xp.name x.1.1))) λy3=>(jZ 0 y3 (obind (cA ((2,x.1.2,y3,0,0,0),x.2)) λy4=>(bF (aC (al x.2.2) (al x.2.2)&&ai) (aF y4))) (obind (lm ((x.2.1.1,x.2.1.2.1,x.2.1.p2,x.2.1.p3,x.2.1.p4,x.2.1.p5),(Xp.name x.1.1))) λy5=>(obind (cA ((6,x.1.2,y5,0,0,0),x.2)) λy6=>(bF (aC (al x.2.2) (al x.2.2)&&ai) (aF y6)))))) (bd (Xp.op x.1.1) 3 (bI (.ex) (Xp.l x.1.1) 0 λz7=>(obind (rr06_gen_value ((z7,x.1.2),x.2)) λI=>(bF (aC (al x.2.2) (al x.2.2)&&ai) (obind (lm ((I.1.1,I.1.2.1,I.1.p2,I.1.p3,I.1.p4,I.1.p5),(Xp.name x.1.1))) λy9=>(bI kB I.1.1 y9 λz10=>(obind (cA ((7,x.1.2,y9,x.1.2,z10.2.2.1,0),I)) λy11=>(bF (aC (al I.2) (al I.2)&&ai) (aF y11)))))))) (bd (aQ (al (Xp.l x.1.1))) 1 (bI (.ex) (Xp.l x.1.1) 0 λz12=>(obind (rr06_gen_value ((z12,x.1.2),x.2)) λU=>(bF (aC (al x.2.2) (al x.2.2)&&ai) (obind (cA ((3,x.1.2,x.1.2,0,(Xp.op x.1.1),0),U)) λy14=>(bF (aC (al U.2) (al U.2)&&ai) (aF y14)))))) (bI (.ex) (Xp.l x.1.1) 0 λZ=>(obind (rr06_gen_value ((Z,x.1.2),x.2)) λM=>(bF (aC (al x.2.2) (al x.2.2)&&ai) (bI (.ex) (Xp.l x.1.1) 1 λY=>(obind (rr06_gen_value ((Y,(cC x.1.2)),M)) λJ=>(bF (aC (al M.2) (al M.2)&&ai) (obind (cA ((4,x.1.2,x.1.2,(cC x.1.2),(Xp.op x.1.1),0),J)) λy19=>(bF (aC (al J.2) (al J.2)&&ai) (aF y19))))))))))))) λx1=>(af x1))
def iM:Nat->((Xp×Int)×rM×List jW)->Option (rM×List jW)
 |0,_=>ah
 |n+1,x=>qz (iM n) x
theorem AK (n:Nat) (x:(Xp×Int)×rM×List jW):iM (n+1) x=qz (iM n) x:=rfl
def iL (x:(Xp×Int)×rM×List jW):Option (rM×List jW):=iM fuel x
def lV (x:Sx×rM×List jW):Option (rM×List jW):=
 (bB 0 (aQ (al (Sx.index x.1))) (bI (.ex) (Sx.index x.1) 0 λz1=>(obind (iL ((z1,(aY x.2.1.p6)),x.2)) λM=>(bF (aC (al x.2.2) (al x.2.2)&&ai) (obind (iL ((eh ((Xp.op (Sx.expr x.1)),(Xp.n (Sx.expr x.1)),(Xp.name (Sx.expr x.1)),(Xp.l (Sx.expr x.1))),(bn .i64 ((aY x.2.1.p6)+1))),M)) λJ=>(bF (aC (al M.2) (al M.2)&&ai) (obind (lm ((J.1.1,J.1.2.1,J.1.p2,J.1.p3,J.1.p4,J.1.p5),(Sx.name x.1))) λy4=>(bI kB J.1.1 y4 λz5=>(obind (cA ((9,y4,(bn .i64 ((aY x.2.1.p6)+1)),(aY x.2.1.p6),z5.2.2.1,0),J)) λy6=>(bF (aC (al J.2) (al J.2)&&ai) (af y6)))))))))) (obind (iL ((eh ((Xp.op (Sx.expr x.1)),(Xp.n (Sx.expr x.1)),(Xp.name (Sx.expr x.1)),(Xp.l (Sx.expr x.1))),(aY x.2.1.p6)),x.2)) λI=>(bF (aC (al x.2.2) (al x.2.2)&&ai) (obind (jb (I.1.p6,(Sx.name x.1))) λZ=>(jZ 0 Z (obind (cA ((2,Z,(aY x.2.1.p6),0,0,0),I)) λy9=>(bF (aC (al I.2) (al I.2)&&ai) (af y9))) (obind (lm ((I.1.1,I.1.2.1,I.1.p2,I.1.p3,I.1.p4,I.1.p5),(Sx.name x.1))) λY=>(obind (cA ((8,Y,(aY x.2.1.p6),0,0,0),I)) λU=>(bF (aC (al I.2) (al I.2)&&ai) (af U)))))))))
def jv (x:(List UInt8)×rM×List jW):Option (Int×rM×List jW):=
 (iter (σ:=Int×rM×List jW) (λI=>(bB I.1 (aY I.2.1.p2) (bI mb I.2.1.p2 I.1 λJ=>(bcase (decide ((J.1:List UInt8)=x.1)) (aF I) (cK ((cC I.1),I.2)))) (aF ((-1),I.2)))) (0,x.2))
def qA (rr06_gen_stmts:ac5->Option (rM×List jW)) (rr06_gen_stmt:Me->Option (rM×List jW)) (rr06_gen_branches:Me->Option (rM×List jW)) (rr06_gen_around:ac6->Option (rM×List jW)) (x:(List Sx)×rM×List jW):Option (rM×List jW):=
 (iter (σ:=Int×rM×List jW) (λI=>(bB I.1 (aY x.1) (bI (.sm) x.1 I.1 λJ=>(obind (rr06_gen_stmt (J,I.2)) λM=>(bF (aC (al I.2.2) (al I.2.2)&&ai) (cK ((cC I.1),M))))) (aF I.2))) (0,x.2))
def rY (rr06_gen_stmts:ac5->Option (rM×List jW)) (rr06_gen_stmt:Me->Option (rM×List jW)) (rr06_gen_branches:Me->Option (rM×List jW)) (rr06_gen_around:ac6->Option (rM×List jW)) (x:Sx×rM×List jW):Option (rM×List jW):=
 (jn (α:=rM×List jW) (bd (Sx.op x.1) 1 (obind (lV (ep x.1,(x.2.1.1,x.2.1.2.1,x.2.1.p2,x.2.1.p3,x.2.1.p4,x.2.1.p5,x.2.1.p6,x.2.1.q8,(cC x.2.1.q8)),x.2.2)) λy2=>(bF (aC (al x.2.2) (al x.2.2)&&ai) (aF y2))) (jn (α:=Bool×rM×Sx×List jW) (bd (Sx.op x.1) 2 (aF ((decide (((Sx.op x.1):Int)=2)),(x.2.1.1,x.2.1.2.1,x.2.1.p2,x.2.1.p3,x.2.1.p4,x.2.1.p5,x.2.1.p6,x.2.1.q8,(cC x.2.1.q8)),ep x.1,x.2.2)) (aF ((decide (((Sx.op x.1):Int)=3)),(x.2.1.1,x.2.1.2.1,x.2.1.p2,x.2.1.p3,x.2.1.p4,x.2.1.p5,x.2.1.p6,x.2.1.q8,(cC x.2.1.q8)),ep x.1,x.2.2))) λI=>(bcase I.1 (obind (rr06_gen_branches (ep I.p2,I.2.1,I.q3)) λy4=>(bF (aC (al I.q3) (al I.q3)&&ai) (aF y4))) (bd (Sx.op x.1) 4 (obind (km (I.2.1.2.1,(Sx.name I.p2))) λy5=>(obind (rr06_gen_around ((ep I.p2,11,12,y5),I.2.1,I.q3)) λy6=>(bF (aC (al I.q3) (al I.q3)&&ai) (aF y6)))) (bd (Sx.op x.1) 5 (obind (km (I.2.1.2.1,(Sx.name I.p2))) λy7=>(obind (rr06_gen_around ((ep I.p2,13,14,y7),I.2.1,I.q3)) λy8=>(bF (aC (al I.q3) (al I.q3)&&ai) (aF y8)))) (bd (Sx.op x.1) 6 (obind (km (I.2.1.2.1,(Sx.name I.p2))) λy9=>(obind (rr06_gen_around ((ep I.p2,15,16,y9),I.2.1,I.q3)) λy10=>(bF (aC (al I.q3) (al I.q3)&&ai) (aF y10)))) (bd (Sx.op x.1) 7 (obind (rr06_gen_around ((ep I.p2,17,18,0),I.2.1,I.q3)) λy11=>(bF (aC (al I.q3) (al I.q3)&&ai) (aF y11))) (bd (Sx.op x.1) 8 (obind (rr06_gen_around ((ep I.p2,19,20,0),I.2.1,I.q3)) λy12=>(bF (aC (al I.q3) (al I.q3)&&ai) (aF y12))) (bd (Sx.op x.1) 9 (obind (jv ((Sx.name I.p2),I.2.1,I.q3)) λU=>(bF (aC (al I.q3) (al U.2.2)&&ai) (obind (cA ((21,U.1,0,0,0,0),U.2)) λy14=>(bF (aC (al U.2.2) (al U.2.2)&&ai) (aF y14))))) (bd (Sx.op x.1) 10 (obind (jv ((Sx.name I.p2),I.2.1,I.q3)) λM=>(bF (aC (al I.q3) (al M.2.2)&&ai) (obind (cA ((22,M.1,0,0,0,0),M.2)) λy16=>(bF (aC (al M.2.2) (al M.2.2)&&ai) (aF y16))))) (bd (Sx.op x.1) 11 (obind (jv ((Sx.name I.p2),I.2.1,I.q3)) λJ=>(bF (aC (al I.q3) (al J.2.2)&&ai) (obind (cA ((23,J.1,0,0,0,0),J.2)) λy18=>(bF (aC (al J.2.2) (al J.2.2)&&ai) (aF y18))))) (bd (Sx.op x.1) 12 (obind (jb (I.2.1.p4,(Sx.name I.p2))) λy19=>(obind (cA ((24,y19,0,0,0,0),I.2.1,I.q3)) λy20=>(bF (aC (al I.q3) (al I.q3)&&ai) (aF y20)))) (bd (Sx.op x.1) 13 (obind (jb (I.2.1.p4,(Sx.name I.p2))) λy21=>(obind (cA ((25,y21,0,0,0,0),I.2.1,I.q3)) λy22=>(bF (aC (al I.q3) (al I.q3)&&ai) (aF y22)))) (bd (Sx.op x.1) 14 (obind (iL ((eh ((Xp.op (Sx.expr I.p2)),(Xp.n (Sx.expr I.p2)),(Xp.name (Sx.expr I.p2)),(Xp.l (Sx.expr I.p2))),(aY x.2.1.p6)),I.2.1,I.q3)) λY=>(bF (aC (al I.q3) (al I.q3)&&ai) (obind (jb (Y.1.p3,(Sx.name I.p2))) λy24=>(obind (cA ((26,y24,(aY x.2.1.p6),0,0,0),Y)) λy25=>(bF (aC (al Y.2) (al Y.2)&&ai) (aF y25)))))) (bd (Sx.op x.1) 15 (obind (jb (I.2.1.p6,(Sx.name I.p2))) λy26=>(obind (jb (I.2.1.p3,(Sx.arg I.p2))) λy27=>(obind (cA ((27,y26,y27,0,0,0),I.2.1,I.q3)) λZ=>(bF (aC (al I.q3) (al I.q3)&&ai) (aF Z))))) (aF (I.2.1,I.q3))))))))))))))))) λx1=>(af x1))
def my (rr06_gen_stmts:ac5->Option (rM×List jW)) (rr06_gen_stmt:Me->Option (rM×List jW)) (rr06_gen_branches:Me->Option (rM×List jW)) (rr06_gen_around:ac6->Option (rM×List jW)) (x:Sx×rM×List jW):Option (rM×List jW):=
 (obind (iL ((eh ((Xp.op (Sx.expr x.1)),(Xp.n (Sx.expr x.1)),(Xp.name (Sx.expr x.1)),(Xp.l (Sx.expr x.1))),(aY x.2.1.p6)),x.2)) λJ=>(bF (aC (al x.2.2) (al x.2.2)&&ai) (obind (cA ((10,(aY J.1.p6),0,0,0,0),J)) λZ=>(bF (aC (al J.2) (al J.2)&&ai) (obind (rr06_gen_stmts ((Sx.body x.1),Z)) λI=>(bF (aC (al Z.2) (al Z.2)&&ai) (bd (Sx.op x.1) 3 (obind (cA ((5,(aY x.2.2),0,0,0,0),(I.1.1,I.1.2.1,I.1.p2,I.1.p3,I.1.p4,I.1.p5,I.1.p6,x.2.1.p7,I.1.q8),I.2)) λU=>(bF (aC (al I.2) (al I.2)&&ai) (ck (fk (aY J.2) (al U.2)) (af (U.1,(cq U.2 (aY J.2) ((aJ (T:=qR) U.2 (aY J.2)).1,((aJ (T:=qR) U.2 (aY J.2)).2).1,(aY U.2),(((aJ (T:=qR) U.2 (aY J.2)).2).2).2))))))) (bd (aQ (al (Sx.els x.1))) 0 (ck (fk (aY J.2) (al I.2)) (af ((I.1.1,I.1.2.1,I.1.p2,I.1.p3,I.1.p4,I.1.p5,I.1.p6,x.2.1.p7,I.1.q8),(cq I.2 (aY J.2) ((aJ (T:=qR) I.2 (aY J.2)).1,((aJ (T:=qR) I.2 (aY J.2)).2).1,(aY I.2),(((aJ (T:=qR) I.2 (aY J.2)).2).2).2))))) (obind (cA ((5,0,0,0,0,0),(I.1.1,I.1.2.1,I.1.p2,I.1.p3,I.1.p4,I.1.p5,I.1.p6,x.2.1.p7,I.1.q8),I.2)) λM=>(bF (aC (al I.2) (al I.2)&&ai) (ck (fk (aY J.2) (al M.2)) (obind (rr06_gen_stmts ((Sx.els x.1),M.1,(cq M.2 (aY J.2) ((aJ (T:=qR) M.2 (aY J.2)).1,((aJ (T:=qR) M.2 (aY J.2)).2).1,(aY M.2),(((aJ (T:=qR) M.2 (aY J.2)).2).2).2)))) λY=>(bF (aC (al (cq M.2 (aY J.2) ((aJ (T:=qR) M.2 (aY J.2)).1,((aJ (T:=qR) M.2 (aY J.2)).2).1,(aY M.2),(((aJ (T:=qR) M.2 (aY J.2)).2).2).2))) (al (cq M.2 (aY J.2) ((aJ (T:=qR) M.2 (aY J.2)).1,((aJ (T:=qR) M.2 (aY J.2)).2).1,(aY M.2),(((aJ (T:=qR) M.2 (aY J.2)).2).2).2)))&&ai) (ck (fk (aY I.2) (al Y.2)) (af (Y.1,(cq Y.2 (aY I.2) ((aJ (T:=qR) Y.2 (aY I.2)).1,(aY Y.2),((aJ (T:=qR) Y.2 (aY I.2)).2).2))))))))))))))))))
def o7 (rr06_gen_stmts:ac5->Option (rM×List jW)) (rr06_gen_stmt:Me->Option (rM×List jW)) (rr06_gen_branches:Me->Option (rM×List jW)) (rr06_gen_around:ac6->Option (rM×List jW)) (x:(Sx×Int×Int×Int)×rM×List jW):Option (rM×List jW):=
 (obind (cA ((x.1.2.1,x.1.q3,0,0,0,0),x.2)) λJ=>(bF (aC (al x.2.2) (al x.2.2)&&ai) (obind (rr06_gen_stmts ((Sx.body x.1.1),J)) λI=>(bF (aC (al J.2) (al J.2)&&ai) (obind (cA ((x.1.p2,x.1.q3,0,0,0,0),(I.1.1,I.1.2.1,I.1.p2,I.1.p3,I.1.p4,I.1.p5,I.1.p6,x.2.1.p7,I.1.q8),I.2)) λM=>(bF (aC (al I.2) (al I.2)&&ai) (af M)))))))
mutual
def dM:Nat->ac5->Option (rM×List jW)
 |0,_=>ah
 |n+1,x=>qA (dM n) (eT n) (c7 n) (dG n) x
def eT:Nat->Me->Option (rM×List jW)
 |0,_=>ah
 |n+1,x=>rY (dM n) (eT n) (c7 n) (dG n) x
def c7:Nat->Me->Option (rM×List jW)
 |0,_=>ah
 |n+1,x=>my (dM n) (eT n) (c7 n) (dG n) x
def dG:Nat->ac6->Option (rM×List jW)
 |0,_=>ah
 |n+1,x=>o7 (dM n) (eT n) (c7 n) (dG n) x
end
def ui (x:(List Sx)×rM×List jW):Option (rM×List jW):=dM fuel x
def qp (x:sd×List sa):Option (z_×Int×Int):=
 (obind (fo x) λy1=>(iF y1.1 0 (af (((([]:List SU),([]:List ((List UInt8)×Bool)),([]:List fw),([]:List (List UInt8)),([]:List (List UInt8)),([]:List (Int×Int×Int))),([]:List (Int×List jW))),y1)) (obind (uj x) λy2=>(iter (σ:=(Int×Int)×(sd×List sa)×dJ×List (Int×List jW)) (λJ=>(bB J.1.2 (aY J.2.1.2) (bI sZ J.2.1.2 J.1.2 λz4=>(bI sZ J.2.1.2 J.1.2 λz5=>(obind (ui (z5.2.2.2,(J.p2.1,J.p2.2.1,J.p2.p2,J.p2.p3,J.p2.p4,J.p2.q5,z4.2.2.1,0,J.1.1),([]:List jW))) λU=>(bF (aC (al ([]:List jW)) (al ([]:List jW))&&ai) (obind (cA ((28,0,0,0,0,0),(U.1.1,U.1.2.1,U.1.p2,U.1.p3,U.1.p4,U.1.p5,U.1.p6,(-1),U.1.q8),U.2)) λy7=>(bF (aC (al U.2) (al U.2)&&ai) (iter (σ:=Int×(sd×List sa)×dJ×rM×Int×(List (Int×List jW))×List jW) (λM=>(bB M.1 (aY M.q6) (kF qR M.q6 M.1 λz9=>(obind (jI z9) λY=>(iter (σ:=Int×(sd×List sa)×dJ×rM×Int×(List (Int×List jW))×List jW) (λI=>(bB I.1 (aY Y) (bI aM Y I.1 λZ=>(cK ((cC I.1),I.2.1,I.p2,I.p3,(jL I.p4 (cC Z)),I.q5))) (aF (oS ((cC M.1),I.2))))) (0,M.2)))) (obind (bF (bc (al M.p5+al ([(M.p4,M.q6)])) 32) (cK ((U.1.q8,(cC J.1.2)),M.2.1,M.p2,(M.p5++([(M.p4,M.q6)]))))) λr=>af (bW r)))) (0,J.2.1,J.p2,y7.1,(aY y7.1.p6),J.q3,y7.2)))))))) (aF (J.2.2,0,0)))) ((0,0),x,y2,([]:List (Int×List jW)))))))
def qn (x:(List Int)×Int):Option (Bool):=
 (iter (σ:=Int) (λI=>(bB I (aY x.1) (bI aM x.1 I λJ=>(bd J x.2 (aF ai) (cK (cC I)))) (aF aj))) 0)
def wz (x:(List Int)×Int):Option (List Int):=
 (iter (σ:=Int) (λI=>(jn (α:=Bool) (bB I (aY x.1) (bI aM x.1 I λM=>(aF (fX M x.2))) (aF aj)) λY=>(bcase Y (cK (cC I)) (obind (jn (α:=Bool) (bB I (aY x.1) (bI aM x.1 I λJ=>(aF (decide ((J:Int)=x.2)))) (aF aj)) λU=>(bcase U (af x.1) (bF (cY 0 I&&cY I (al x.1)) (bF (bc (al ([]:List Int)+al (dA (aS I) x.1)) 8) (bF (bc (al (([]:List Int)++(dA (aS I) x.1))+al ([x.2])) 8) (bF (cY 0 I&&cY I (al x.1)) (bF (bc (al ((([]:List Int)++(dA (aS I) x.1))++([x.2]))+al (List.drop (aS I) x.1)) 8) (af (((([]:List Int)++(dA (aS I) x.1))++([x.2]))++(List.drop (aS I) x.1)))))))))) λr=>af (bW r))))) 0)
def rk (x:(List Int)×List Int):Option (List Int):=
 (iter (σ:=(List Int)×Int) (λJ=>(bB J.2 (aY x.1) (bI aM x.1 J.2 λU=>(obind (wz (J.1,U)) λZ=>(cK (Z,(cC J.2))))) (obind (iter (σ:=(List Int)×Int) (λI=>(bB I.2 (aY x.2) (bI aM x.2 I.2 λM=>(obind (wz (I.1,M)) λY=>(cK (Y,(cC I.2))))) (aF I.1))) (J.1,0)) λr=>af (bW r)))) (([]:List Int),0))
def mf (x:Int):Option (Int):=
 (jn (α:=Bool) (bB x 1 (aF ai) (aF (fX 100 x))) λI=>(bcase I (af 0) (af x)))
def cg (x:Int×(List Int)×(List (List Int))×Int):Option ((Int×Int)×(List Int)×List (List Int)):=
 (bF (bc (al ([]:List Int)+al x.2.1) 8) (iter (σ:=Int×t8×(Int×Int)×(Int×Int)×(List Int)×List (List Int)) (λI=>(bB I.1 (aY I.2.1.p2) (bI (.sl aM) I.2.1.p2 I.1 λJ=>(bF (bc (al ([]:List Int)+al J) 8) (bF (bc (al I.q5+al ([(([]:List Int)++J)])) 24) (cK ((cC I.1),I.2.1,I.p2,I.p3,I.p4,(I.q5++([(([]:List Int)++J)]))))))) (aF I.q3))) (0,x,(0,0),(x.1,x.q3),(([]:List Int)++x.2.1),([]:List (List Int)))))
def wy (x:(jW×Int×Int)×(List Int)×List (List Int)):Option (((Int×Int)×Bool)×(List Int)×List (List Int)):=
 (obind (jI x.1.1) λy1=>(iter (σ:=Int×(List Int)×(List (List Int))×jW×(Int×Int)×Int×Int) (λI=>(bB I.1 (aY y1) (jn (α:=Bool×(List Int)×(List (List Int))×jW×(Int×Int)×Int×Int) (bI aM y1 I.1 λz4=>(bB z4 0 (aF (ai,I.2)) (bI aM y1 I.1 λz5=>(aF ((cY (aY I.2.1) z5),I.2))))) λx3=>(bcase x3.1 ah (cK ((cC I.1),x3.2)))) (obind (jn (α:=(Int×Bool×List Int)×(List Int)×(List (List Int))×jW×(Int×Int)×Int×Int) (bd I.p3.1 5 (cK (((I.p3.2.1,I.p4.2),ai),I.2.1,I.p2)) (bd I.p3.1 1 (aF ((I.p3.p4,ai,([]:List Int)),I.2)) (bd I.p3.1 2 (kF aM I.2.1 I.p3.p2 λz7=>(kF (.sl aM) I.p2 I.p3.p2 λz8=>(aF ((z7,ai,z8),I.2)))) (bd I.p3.1 3 (obind (mf I.p3.p4) λy9=>(kF aM I.2.1 I.p3.p2 λz10=>(obind (uk (y9,z10)) λU=>(kF (.sl aM) I.p2 I.p3.p2 λz12=>(aF ((U.1,U.2,z12),I.2)))))) (obind (mf I.p3.p4) λy13=>(kF aM I.2.1 I.p3.p2 λz14=>(kF aM I.2.1 I.p3.p3 λz15=>(obind (sq (y13,z14,z15)) λM=>(kF (.sl aM) I.p2 I.p3.p2 λZ=>(kF (.sl aM) I.p2 I.p3.p3 λY=>(obind (rk (Z,Y)) λy19=>(aF ((M.1,M.2,y19),I.2))))))))))))) λJ=>(bF (bc (al ([]:List Int)+al J.1.2.2) 8) (ck (fk J.p3.2.1 (al J.2.1)) (ck (fk J.p3.2.1 (al J.p2)) (af ((((cC J.p4.1),J.p4.2),J.1.2.1),(cq J.2.1 J.p3.2.1 J.1.1),(cq J.p2 J.p3.2.1 (([]:List Int)++J.1.2.2)))))))) λr=>af (bW r)))) (0,x.2.1,x.2.2,x.1.1,x.1.2,0,0)))
def mZ (x:(Int×List jW)×Int×(List Int)×(List (List Int))×Int):Option (t8×Bool):=
 (jn (α:=Bool×(Int×List jW)×t8×Int×Int) (iF (aY x.p2) x.1.1 (aF (ai,x.1,x.2,0,0)) (aF ((!decide (((aY x.p3):Int)=x.1.1)),x.1,x.2,0,0))) λU=>(bcase U.1 (af ((0,([]:List Int),([]:List (List Int)),0),aj)) (obind (cg U.p2) λZ=>(iter (σ:=Int×(Int×List jW)×(Int×Int)×(Int×Int)×(List Int)×List (List Int)) (λJ=>(jZ J.1 (aY J.2.1.2) (jn (α:=Bool×(Int×List jW)×(Int×Int)×(Int×Int)×(List Int)×List (List Int)) (bB J.p2.1 0 (aF (ai,J.2)) (aF ((cY (aY J.2.1.2) J.p2.1),J.2))) λI=>(bcase I.1 (aF ((0,([]:List Int),([]:List (List Int)),0),aj)) (bI qR I.2.1.2 I.p2.1 λY=>(obind (pH Y.1) λy6=>(bcase (!y6) (aF ((I.p2.1,I.p4,I.q5,I.p2.2),ai)) (bd J.1 (aY I.2.1.2) (aF ((0,([]:List Int),([]:List (List Int)),0),aj)) (obind (wy ((Y,I.p2),I.q4)) λM=>(bF (aC (al I.q5) (al M.2.2)&&(aC (al I.p4) (al M.2.1)&&ai)) (bcase (!M.1.2) (aF ((0,([]:List Int),([]:List (List Int)),0),aj)) (cK ((cC J.1),I.2.1,M.1.1,I.p3,M.2))))))))))) (aF ((0,([]:List Int),([]:List (List Int)),0),aj)))) (0,U.2.1,Z.1,U.q3,Z.2)))))
def ri (x:gX×gG×(List fw)×ca×ca×List (Int×Int×Int)):Option pa:=
 (iter (σ:=Int×dJ×Int×Int×List (Int×List Int)) (λM=>(bB M.1 (aY M.2.1.2.1) (bF (bc (al M.q4+al ([((-1),([]:List Int))])) 32) (cK ((cC M.1),M.2.1,M.p2,M.p3,(M.q4++([((-1),([]:List Int))]))))) (obind (iter (σ:=Int×dJ×Int×Int×gF×List Bool) (λJ=>(bB J.1 (aY J.2.1.p3) (bF (bc (al J.q5+al ([aj])) 1) (cK ((cC J.1),J.2.1,J.p2,J.p3,J.p4,(J.q5++([aj]))))) (obind (iter (σ:=Int×dJ×Int×Int×gF×(List Bool)×List dw) (λI=>(bB I.1 (aY I.2.1.p4) (jn (α:=dJ×Int×Int×dw×gF×(List Bool)×List dw) (bd I.1 0 (aF (I.2.1,I.p2,I.p3,(1,0,aj),I.q4)) (aF (I.2.1,I.p2,I.p3,(0,0,aj),I.q4))) λU=>(bF (bc (al U.q6+al ([U.p3])) 24) (cK ((cC I.1),U.1,U.2.1,U.p2,U.p4,U.p5,(U.q6++([U.p3])))))) (aF (I.p4,I.p3,I.q5)))) (0,J.2.1,J.p2,J.p3,J.p4,J.q5,([]:List dw))) λr=>af (bW r)))) (0,M.2.1,M.p2,M.p3,M.q4,([]:List Bool))) λr=>af (bW r)))) (0,x,0,(-1),([]:List (Int×List Int))))
def rj (x:dJ×gF×Int×(List Bool)×List dw):Option (Bool):=
 (iter (σ:=Int×dJ×gF×Int×(List Bool)×List dw) (λI=>(bB I.1 (aY I.2.1.p2) (jn (α:=Bool×dJ×gF×Int×(List Bool)×List dw) (bI mb I.2.1.p2 I.1 λU=>(bB U.2 0 (aF (ai,I.2)) (bI mb I.2.1.p2 I.1 λM=>(aF ((cY (aY I.2.1.2.1) M.2),I.2))))) λJ=>(bcase J.1 (aF aj) (cK ((cC I.1),J.2)))) (obind (jn (α:=Bool) (bd (aY I.p2) (aY I.2.1.2.1) (bd (aY I.p4) (aY I.2.1.p3) (aF (decide (((aY I.q5):Int)=(aY I.2.1.p4)))) (aF aj)) (aF aj)) λY=>(af Y)) λr=>af (bW r)))) (0,x))
def qm (x:Int×Int):Option (Bool):=
 (jn (α:=Bool) (jZ 0 x.1 (aF (fX x.1 x.2)) (aF aj)) λI=>(af I))
def uh (x:dJ×Int×Int):Option (Bool):=
 (jn (α:=Bool×gX×gG×(List fw)×ca×ca×List (Int×Int×Int)) (bd x.2.1 1 (aF ((decide ((x.2.1:Int)=1)),x.1)) (bd x.2.1 2 (aF ((decide ((x.2.1:Int)=2)),x.1)) (bd x.2.1 5 (aF ((decide ((x.2.1:Int)=5)),x.1)) (bd x.2.1 12 (aF ((decide ((x.2.1:Int)=12)),x.1)) (bd x.2.1 13 (aF ((decide ((x.2.1:Int)=13)),x.1)) (bd x.2.1 14 (aF ((decide ((x.2.1:Int)=14)),x.1)) (aF ((decide ((x.2.1:Int)=15)),x.1)))))))) λx1=>(bcase x1.1 (af (decide ((x.2.2:Int)=(-1)))) (jn (α:=Bool×gX×gG×(List fw)×ca×ca×List (Int×Int×Int)) (bd x.2.1 3 (aF ((decide ((x.2.1:Int)=3)),x1.2)) (aF ((decide ((x.2.1:Int)=4)),x1.2))) λZ=>(bcase Z.1 (obind (qm (x.2.2,(aY Z.2.1))) λy3=>(af y3)) (jn (α:=Bool×gX×gG×(List fw)×ca×ca×List (Int×Int×Int)) (bd x.2.1 6 (aF ((decide ((x.2.1:Int)=6)),Z.2)) (aF ((decide ((x.2.1:Int)=7)),Z.2))) λU=>(bcase U.1 (jn (α:=Bool) (obind (qm (x.2.2,(aY U.p2))) λy6=>(bcase y6 (bI rP U.p2 x.2.2 λz7=>(aF (!z7.2))) (aF aj))) λx5=>(af x5)) (jn (α:=Bool×gX×gG×(List fw)×ca×ca×List (Int×Int×Int)) (bd x.2.1 8 (aF ((decide ((x.2.1:Int)=8)),U.2)) (bd x.2.1 9 (aF ((decide ((x.2.1:Int)=9)),U.2)) (bd x.2.1 10 (aF ((decide ((x.2.1:Int)=10)),U.2)) (aF ((decide ((x.2.1:Int)=11)),U.2))))) λM=>(bcase M.1 (jn (α:=Bool) (obind (qm (x.2.2,(aY M.p2))) λy10=>(bcase y10 (bI rP M.p2 x.2.2 λz11=>(aF z11.2)) (aF aj))) λx9=>(af x9)) (jn (α:=Bool×gX×gG×(List fw)×ca×ca×List (Int×Int×Int)) (bd x.2.1 16 (aF ((decide ((x.2.1:Int)=16)),M.2)) (bd x.2.1 17 (aF ((decide ((x.2.1:Int)=17)),M.2)) (bd x.2.1 18 (aF ((decide ((x.2.1:Int)=18)),M.2)) (aF ((decide ((x.2.1:Int)=19)),M.2))))) λJ=>(bcase J.1 (obind (qm (x.2.2,(aY J.p3))) λy13=>(af y13)) (jn (α:=Bool×gX×gG×(List fw)×ca×ca×List (Int×Int×Int)) (bd x.2.1 20 (aF ((decide ((x.2.1:Int)=20)),J.2)) (aF ((decide ((x.2.1:Int)=21)),J.2))) λI=>(bcase I.1 (obind (qm (x.2.2,(aY I.p5))) λy15=>(af y15)) (jn (α:=Bool×gX×gG×(List fw)×ca×ca×List (Int×Int×Int)) (bd x.2.1 22 (aF ((decide ((x.2.1:Int)=22)),I.2)) (aF ((decide ((x.2.1:Int)=23)),I.2))) λY=>(bcase Y.1 (obind (qm (x.2.2,(aY Y.p4))) λy17=>(af y17)) (af aj)))))))))))))))
def kl (x:dJ×pa×Int×Int×Int):Option (Bool):=
 (jn (α:=Bool×dJ×gF×Int×(List Bool)×List dw) (obind (rj (x.1,x.2.1)) λy2=>(bcase (!y2) (aF (ai,x.1,x.2.1)) (obind (qm (x.p2,(aY x.1.p4))) λy3=>(bcase (!y3) (aF (ai,x.1,x.2.1)) (obind (uh (x.1,x.q3)) λy4=>(aF ((!y4),x.1,x.2.1))))))) λM=>(bcase M.1 (af aj) (bI ie M.q5 x.p2 λU=>(bd x.p3 1 (af (decide ((U.1:Int)=1))) (bd x.p3 17 (jn (α:=Bool) (bd U.1 4 (bd U.2.1 x.q4 (bI mb M.2.1.p2 x.q4 λz7=>(bI ef M.p2 z7.2 λz8=>(aF (decide ((z8.1:Int)=(-1)))))) (aF aj)) (aF aj)) λx6=>(af x6)) (iF U.1 2 (af aj) (bd x.p3 6 (bI ef M.p2 x.q4 λz9=>(af (decide ((z9.1:Int)=(-1))))) (bd x.p3 10 (jn (α:=Bool) (bI ef M.p2 x.q4 λz11=>(bd z11.1 (-1) (bI ef M.p2 x.q4 λz12=>(aF (decide (((aY z12.2):Int)=0)))) (aF aj))) λx10=>(af x10)) (bd x.p3 8 (jn (α:=Bool) (bI ef M.p2 x.q4 λz14=>(bd z14.1 (-1) (bI ef M.p2 x.q4 λz15=>(obind (qn (z15.2,x.p2)) λy16=>(aF (!y16)))) (aF aj))) λx13=>(af x13)) (jn (α:=Bool×dJ×pa×Int×Int×Bool) (bd x.p3 7 (aF ((decide ((x.p3:Int)=7)),M.2.1,M.2.2,U)) (aF ((decide ((x.p3:Int)=11)),M.2.1,M.2.2,U))) λI=>(bcase I.1 (bI ef I.p2.1 x.q4 λz18=>(af (decide ((z18.1:Int)=x.p2)))) (bd x.p3 9 (bI ef I.p2.1 x.q4 λz19=>(obind (qn (z19.2,x.p2)) λy20=>(af y20))) (bd x.p3 12 (af (decide ((I.p2.2.1:Int)=(-1)))) (bd x.p3 13 (af (decide ((I.p2.2.1:Int)=x.p2))) (bd x.p3 14 (af (!I.q5)) (bd x.p3 15 (af I.q5) (jn (α:=Bool×dJ×gF×Int×(List Bool)×List dw) (bd x.p3 16 (aF ((decide ((x.p3:Int)=16)),I.2.1,I.p2)) (bd x.p3 18 (aF ((decide ((x.p3:Int)=18)),I.2.1,I.p2)) (aF ((decide ((x.p3:Int)=19)),I.2.1,I.p2)))) λJ=>(bcase J.1 (bI mb J.2.1.p2 x.q4 λz22=>(bI ef J.p2 z22.2 λz23=>(af (decide ((z23.1:Int)=x.p2))))) (bd x.p3 20 (jn (α:=Bool) (iF x.q4 x.p2 (bI ie J.q5 x.q4 λz25=>(aF (decide ((z25.1:Int)=0)))) (aF aj)) λx24=>(af x24)) (bd x.p3 21 (jn (α:=Bool) (iF x.q4 x.p2 (bI ie J.q5 x.q4 λz27=>(aF (decide ((z27.1:Int)=5)))) (aF aj)) λx26=>(af x26)) (bd x.p3 22 (bI (.bool) J.p4 x.q4 λZ=>(af (!Z))) (bd x.p3 23 (bI (.bool) J.p4 x.q4 λY=>(af Y)) (af ai)))))))))))))))))))))))
def nK (x:pa×Int):Option (List Int):=
 (iter (σ:=Int×pa×List Int) (λI=>(bB I.1 (aY I.2.1.q3) (jn (α:=pa×List Int) (jn (α:=Bool×pa×List Int) (bI ie I.2.1.q3 I.1 λU=>(bd U.1 3 (bI ie I.2.1.q3 I.1 λM=>(aF ((decide ((M.2.1:Int)=x.2)),I.2))) (aF (aj,I.2)))) λJ=>(bcase J.1 (bF (bc (al J.2.2+al ([I.1])) 8) (aF (J.2.1,(J.2.2++([I.1]))))) (aF J.2))) λY=>(cK ((cC I.1),Y))) (aF I.2.2))) (0,x.1,([]:List Int)))
def ql (x:(List Int)×Int):Option (List Int):=
 (iter (σ:=Int×List Int) (λI=>(bB I.1 (aY x.1) (jn (α:=List Int) (bI aM x.1 I.1 λM=>(iF M x.2 (bI aM x.1 I.1 λJ=>(bF (bc (al I.2+al ([J])) 8) (aF (I.2++([J]))))) (aF I.2))) λU=>(cK ((cC I.1),U))) (aF I.2))) (0,([]:List Int)))
def ir (x:gF×Int×(List Bool)×List dw):Option (Int×gF×(List Bool)×List dw):=
 (bF (bc (al ([]:List Bool)+al x.p2) 1) (bF (bc (al ([]:List dw)+al x.q3) 24) (iter (σ:=Int×pa×Int×Int×gF×(List Bool)×List dw) (λI=>(bB I.1 (aY I.2.1.1) (bI ef I.2.1.1 I.1 λM=>(bI ef I.2.1.1 I.1 λJ=>(bF (bc (al ([]:List Int)+al J.2) 8) (bF (bc (al I.p4+al ([(M.1,(([]:List Int)++J.2))])) 32) (cK ((cC I.1),I.2.1,I.p2,I.p3,(I.p4++([(M.1,(([]:List Int)++J.2))])),I.q5)))))) (aF I.q3))) (0,x,0,x.2.1,([]:List (Int×List Int)),(([]:List Bool)++x.p2),(([]:List dw)++x.q3)))))
def me (x:(Int×Int)×gF×(List Bool)×List dw):Option ((List Int)×gF×(List Bool)×List dw):=
 (iter (σ:=Int×gF×(List Bool)×(List dw)×Int×List Int) (λI=>(bB I.1 (aY I.p3) (jn (α:=gF×(List Bool)×(List dw)×Int×List Int) (jn (α:=Bool×gF×(List Bool)×(List dw)×Int×List Int) (kF ie I.p3 I.1 λU=>(bd U.1 3 (kF ie I.p3 I.1 λM=>(aF ((decide ((M.2.1:Int)=x.1.2)),I.2))) (aF (aj,I.2)))) λJ=>(bcase J.1 (bF (bc (al J.q5+al ([I.1])) 8) (aF (J.2.1,J.p2,J.p3,J.p4,(J.q5++([I.1]))))) (aF J.2))) λY=>(cK ((cC I.1),Y))) (aF (I.q5,I.2.1,I.p2,I.p3)))) (0,x.2.1,x.p2,x.q3,x.1.1,([]:List Int)))
def jG (x:(Int×Int)×gF×(List Bool)×List dw):Option (List Int):=obind (me x) λy=>same y.2 x.2 (af y.1)
def pl (x:dJ×pa×Int×Int×Int×Int):Option (pa×Int×Bool):=
 (obind (kl (x.1,x.2.1,x.p2,x.p3,x.p4)) λy1=>(bcase (!y1) (af ((([]:List (Int×List Int)),0,([]:List Bool),([]:List dw)),0,aj)) (obind (ir x.2.1) λU=>(jn (α:=Int×Int×Int×gF×(List Bool)×List dw) (bd x.p3 1 (ck (fk x.p2 (al U.q3)) (aF (0,U.1,0,U.2.1,U.p2,(cq U.q3 x.p2 (2,(aJ (T:=ie) U.q3 x.p2).2))))) (bd x.p3 2 (ck (fk x.p2 (al U.q3)) (aF (0,U.1,0,U.2.1,U.p2,(cq U.q3 x.p2 (5,(aJ (T:=ie) U.q3 x.p2).2))))) (jn (α:=Bool×dJ×Int×Int×gF×(List Bool)×List dw) (bd x.p3 6 (aF ((decide ((x.p3:Int)=6)),x.1,U.1,0,U.2)) (aF ((decide ((x.p3:Int)=10)),x.1,U.1,0,U.2))) λY=>(bcase Y.1 (ck (fk x.p4 (al Y.p4)) (aF (0,Y.p2,Y.p3,(cq Y.p4 x.p4 (x.p2,(aJ (T:=ef) Y.p4 x.p4).2)),Y.q5))) (jn (α:=Bool×dJ×Int×Int×gF×(List Bool)×List dw) (bd x.p3 7 (aF ((decide ((x.p3:Int)=7)),Y.2)) (aF ((decide ((x.p3:Int)=11)),Y.2))) λI=>(bcase I.1 (ck (fk x.p4 (al I.p4)) (aF (0,I.p2,I.p3,(cq I.p4 x.p4 ((-1),(aJ (T:=ef) I.p4 x.p4).2)),I.q5))) (bd x.p3 8 (kF ef I.p4 x.p4 λz6=>(obind (rk (z6.2,[x.p2])) λy7=>(ck (fk x.p4 (al I.p4)) (aF (0,I.p2,I.p3,(cq I.p4 x.p4 ((aJ (T:=ef) I.p4 x.p4).1,y7)),I.q5))))) (bd x.p3 9 (kF ef I.p4 x.p4 λz8=>(obind (ql (z8.2,x.p2)) λy9=>(ck (fk x.p4 (al I.p4)) (aF (0,I.p2,I.p3,(cq I.p4 x.p4 ((aJ (T:=ef) I.p4 x.p4).1,y9)),I.q5))))) (bd x.p3 12 (aF (0,x.p2,I.q3)) (bd x.p3 13 (aF (0,(-1),I.q3)) (bd x.p3 14 (ck (fk x.p2 (al I.q6)) (aF (0,I.p2,I.p3,I.p4,I.p5,(cq I.q6 x.p2 ((aJ (T:=ie) I.q6 x.p2).1,((aJ (T:=ie) I.q6 x.p2).2).1,ai))))) (bd x.p3 15 (ck (fk x.p2 (al I.q6)) (aF (0,I.p2,I.p3,I.p4,I.p5,(cq I.q6 x.p2 ((aJ (T:=ie) I.q6 x.p2).1,((aJ (T:=ie) I.q6 x.p2).2).1,aj))))) (bd x.p3 16 (bI mb I.2.1.p2 x.p4 λz10=>(ck (fk z10.2 (al I.p4)) (ck (fk x.p2 (al I.q6)) (ck (fk x.p2 (al (cq I.q6 x.p2 (3,(aJ (T:=ie) I.q6 x.p2).2)))) (aF (0,I.p2,I.p3,(cq I.p4 z10.2 ((-1),(aJ (T:=ef) I.p4 z10.2).2)),I.p5,(cq (cq I.q6 x.p2 (3,(aJ (T:=ie) I.q6 x.p2).2)) x.p2 ((aJ (T:=ie) (cq I.q6 x.p2 (3,(aJ (T:=ie) I.q6 x.p2).2)) x.p2).1,x.p4,((aJ (T:=ie) (cq I.q6 x.p2 (3,(aJ (T:=ie) I.q6 x.p2).2)) x.p2).2).2)))))))) (bd x.p3 17 (bI mb I.2.1.p2 x.p4 λz11=>(ck (fk z11.2 (al I.p4)) (ck (fk x.p2 (al I.q6)) (ck (fk x.p2 (al (cq I.q6 x.p2 (2,(aJ (T:=ie) I.q6 x.p2).2)))) (aF (0,I.p2,I.p3,(cq I.p4 z11.2 (x.p2,(aJ (T:=ef) I.p4 z11.2).2)),I.p5,(cq (cq I.q6 x.p2 (2,(aJ (T:=ie) I.q6 x.p2).2)) x.p2 ((aJ (T:=ie) (cq I.q6 x.p2 (2,(aJ (T:=ie) I.q6 x.p2).2)) x.p2).1,0,((aJ (T:=ie) (cq I.q6 x.p2 (2,(aJ (T:=ie) I.q6 x.p2).2)) x.p2).2).2)))))))) (bd x.p3 18 (obind (jG ((I.p2,x.p4),I.q4)) λy12=>(bB 0 (aY y12) (bI aM y12 0 λz13=>(jn (α:=Int×Int×Int×gF×(List Bool)×List dw) (obind (qn (y12,x.q5)) λy15=>(bcase y15 (aF (x.q5,I.2.2)) (aF (z13,I.2.2)))) λM=>(ck (fk M.1 (al M.q5)) (aF (M.1,M.2.1,M.p2,M.p3,M.p4,(cq M.q5 M.1 (4,(aJ (T:=ie) M.q5 M.1).2))))))) (aF ((-1),I.2.2)))) (bd x.p3 19 (obind (jG ((I.p2,x.p4),I.q4)) λy16=>(iter (σ:=Int×Int×Int×gF×(List Bool)×List dw) (λJ=>(bB J.1 (aY y16) (bI aM y16 J.1 λZ=>(ck (fk Z (al J.q5)) (cK ((cC J.1),J.2.1,J.p2,J.p3,J.p4,(cq J.q5 Z (4,(aJ (T:=ie) J.q5 Z).2)))))) (aF (bW ((aY y16),J.2))))) (0,I.2.2))) (bd x.p3 20 (ck (fk x.p4 (al I.q6)) (aF (0,I.p2,I.p3,I.p4,I.p5,(cq I.q6 x.p4 (1,(aJ (T:=ie) I.q6 x.p4).2))))) (bd x.p3 22 (ck (fk x.p4 (al I.p5)) (aF (0,I.p2,I.p3,I.p4,(cq I.p5 x.p4 ai),I.q6))) (aF (0,I.2.2)))))))))))))))))))) λx3=>(af ((x3.p3,x3.2.1,x3.q4),x3.1,ai))))))
def ug (x:dJ×List (Int×List jW)):Option w7:=
 (obind (jH x) λy1=>(bcase (!y1) (af ((([]:List (Int×List Int)),0,([]:List Bool),([]:List dw)),([]:List Int),([]:List Int),([]:List t8))) (obind (ri x.1) λy2=>(iter (σ:=Int×z_×Int×pa×List Int) (λM=>(bB M.1 (aY M.2.1.1.1) (bI kB M.2.1.1.1 M.1 λZ=>(bF (bc (al M.q4+al ([Z.2.2.2.2])) 8) (cK ((cC M.1),M.2.1,M.p2,M.p3,(M.q4++([Z.2.2.2.2])))))) (obind (iter (σ:=Int×z_×Int×pa×(List Int)×List Int) (λJ=>(bB J.1 (aY J.2.1.1.p3) (bF (bc (al J.q5+al ([0])) 8) (cK ((cC J.1),J.2.1,J.p2,J.p3,J.p4,(J.q5++([0]))))) (obind (iter (σ:=Int×z_×Int×pa×(List Int)×(List Int)×List t8) (λI=>(bB I.1 (aY I.2.1.2) (v9 I.1 I.2.1.2 (lt ((aJ (T:=w9) I.2.1.2 I.1).1) λY=>(bF (cY 0 Y&&cY Y Y&&bc (aS Y) 8) (v9 I.1 I.2.1.2 (lt ((aJ (T:=w9) I.2.1.2 I.1).1) λU=>(bF (cY 0 U&&cY U U&&bc (aS U) 24) (bF (bc (al I.q6+al ([(0,(aG (aS Y) (0:Int)),(aG (aS U) ([]:List Int)),0)])) 64) (cK ((cC I.1),I.2.1,I.p2,I.p3,I.p4,I.p5,(I.q6++([(0,(aG (aS Y) (0:Int)),(aG (aS U) ([]:List Int)),0)]))))))))))) (aF I.q3))) (0,J.2.1,J.p2,J.p3,J.p4,J.q5,([]:List t8))) λr=>af (bW r)))) (0,M.2.1,M.p2,M.p3,M.q4,([]:List Int))) λr=>af (bW r)))) (0,x,0,y2,([]:List Int))))))
def ww (x:z_×pa×(List Int)×(List Int)×List t8):Option (Bool):=
 (jn (α:=Bool×z_×pa×(List Int)×(List Int)×List t8) (obind (jH x.1) λy2=>(bcase (!y2) (aF (ai,x)) (obind (rj (x.1.1,x.2.1)) λy3=>(bcase (!y3) (aF (ai,x)) (iF (aY x.p2) (aY x.1.1.1) (aF (ai,x)) (iF (aY x.p3) (aY x.1.1.p3) (aF (ai,x)) (aF ((!decide (((aY x.q4):Int)=(aY x.1.2))),x)))))))) λU=>(bcase U.1 (af aj) (iter (σ:=Int×z_×pa×(List Int)×(List Int)×List t8) (λI=>(bB I.1 (aY I.2.1.2) (bI eY I.q5 I.1 λJ=>(jn (α:=Bool×z_×pa×(List Int)×(List Int)×List t8) (bB J.1 0 (aF (ai,I.2)) (bI w9 I.2.1.2 I.1 λz7=>(jZ (aY z7.2) J.1 (aF (ai,I.2)) (bI w9 I.2.1.2 I.1 λZ=>(iF (aY J.2.1) Z.1 (aF (ai,I.2)) (bI w9 I.2.1.2 I.1 λY=>(aF ((!decide (((aY J.p2):Int)=Y.1)),I.2)))))))) λM=>(bcase M.1 (aF aj) (cK ((cC I.1),M.2))))) (aF ai))) (0,U.2))))
def wu (x:Int):Option (Int):=
 (jn (α:=Bool×List Int) (bB x 6 (aF (ai,[3,3,4,4,5,6,7,8,9,10,11,12,13,14,15,16,18,19,20,21,22,23,2])) (aF ((fX 28 x),[3,3,4,4,5,6,7,8,9,10,11,12,13,14,15,16,18,19,20,21,22,23,2]))) λI=>(bcase I.1 (af 0) (kF aM I.2 (bn .i64 (x-6)) λJ=>(af J))))
def sk (x:jW×Int×(List Int)×(List (List Int))×Int):Option (Int):=
 (jn (α:=Bool×jW×Int×(List Int)×(List (List Int))×Int) (bd x.1.1 6 (aF ((decide ((x.1.1:Int)=6)),x)) (aF ((decide ((x.1.1:Int)=27)),x))) λI=>(bcase I.1 (af I.2.1.p2) (bd x.1.1 7 (bI aM I.p3 I.2.1.p3 λU=>(obind (rm (U,I.2.1.p4)) λZ=>(af (bn .i64 (I.2.1.p2+Z))))) (bd x.1.1 9 (bI aM I.p3 I.2.1.p3 λM=>(obind (rm (M,I.2.1.p4)) λY=>(af (bn .i64 (I.2.1.2.1+Y))))) (jn (α:=Bool×Int×Int×Int×Int×Int×Int) (bd x.1.1 10 (aF ((decide ((x.1.1:Int)=10)),I.2.1)) (bd x.1.1 17 (aF ((decide ((x.1.1:Int)=17)),I.2.1)) (bd x.1.1 18 (aF ((decide ((x.1.1:Int)=18)),I.2.1)) (bd x.1.1 19 (aF ((decide ((x.1.1:Int)=19)),I.2.1)) (bd x.1.1 20 (aF ((decide ((x.1.1:Int)=20)),I.2.1)) (aF ((decide ((x.1.1:Int)=28)),I.2.1))))))) λJ=>(bcase J.1 (af (-1)) (af J.p2)))))))
def nJ (x:z_×w7×Int):Option (gm×Bool):=
 (jn (α:=Bool×z_×w7×Int×Int×Int×Int×Int) (obind (ww (x.1,x.2.1)) λy2=>(bcase (!y2) (aF (ai,x.1,x.2.1,0,0,0,0,0)) (bB x.2.2 0 (aF (ai,x.1,x.2.1,0,0,0,0,0)) (aF ((cY (aY x.1.2) x.2.2),x.1,x.2.1,0,0,0,0,0))))) λZ=>(bcase Z.1 (af ((0,0,0,0,0,([]:List Int),([]:List Int)),aj)) (bI eY Z.p2.q3 x.2.2 λz3=>(bI w9 Z.2.1.2 x.2.2 λz4=>(bI qR z4.2 z3.1 λM=>(bI ie Z.p2.1.q3 x.2.2 λz6=>(bd z6.1 1 (af ((x.2.2,1,(-1),0,(-1),([]:List Int),([]:List Int)),ai)) (bd z6.1 4 (bI ie Z.p2.1.q3 x.2.2 λz7=>(af ((x.2.2,17,z7.2.1,0,M.q5,([]:List Int),([]:List Int)),ai))) (bd z6.1 2 (obind (wu M.1) λy8=>(obind (sk (M,z3)) λy9=>(bd y8 0 (af ((0,0,0,0,0,([]:List Int),([]:List Int)),aj)) (jn (α:=vT×t8×jW×vT×List Int) (bd M.1 10 (bI (.sl aM) z3.p2 M.2.1 λz11=>(bF (bc (al (z11:List Int)) 8) (aF (Z.q3,z3,M,(x.2.2,y8,y9,0,M.q5),z11)))) (jn (α:=Bool×vT×t8×jW×Int×Int×Int×Int×Int) (bd M.1 7 (aF ((decide ((M.1:Int)=7)),Z.q3,z3,M,x.2.2,y8,y9,0,M.q5)) (aF ((decide ((M.1:Int)=9)),Z.q3,z3,M,x.2.2,y8,y9,0,M.q5))) λI=>(bcase I.1 (bI (.sl aM) I.p2.p2 I.p3.p3 λz13=>(bF (bc (al (z13:List Int)) 8) (aF (I.2.1,I.p2,I.p3,I.q4,z13)))) (aF (I.2.1,I.p2,I.p3,I.q4,([]:List Int)))))) λY=>(jn (α:=vT×vT×(List Int)×List Int) (jn (α:=Bool×vT×t8×jW×vT×List Int) (bd Y.p2.1 8 (aF (ai,Y)) (bd Y.p2.1 9 (aF (ai,Y)) (aF ((decide ((Y.p2.1:Int)=26)),Y)))) λJ=>(bcase J.1 (bI (.sl aM) J.p2.p2 J.p3.p2 λz16=>(bF (bc (al (z16:List Int)) 8) (aF (J.2.1,J.p4,J.q5,z16)))) (aF (J.2.1,J.p4,J.q5,([]:List Int))))) λU=>(af ((U.2.1.1,U.2.1.2.1,U.2.1.p2,U.2.1.p3,U.2.1.q4,U.2.2),ai))))))) (af ((0,0,0,0,0,([]:List Int),([]:List Int)),aj)))))))))))
def mM (x:gX×gG×(List fw)×ca×ca×List (Int×Int×Int)):Option eO:=
 (obind (ri x) λM=>(bF (cY 0 (aY x.p3)&&cY (aY x.p3) (aY x.p3)&&bc (aS (aY x.p3)) 8) (bF (cY 0 (aY x.p4)&&cY (aY x.p4) (aY x.p4)&&bc (aS (aY x.p4)) 8) (iter (σ:=Int×dJ×Int×pa×(List Int)×(List Int)×List Int) (λI=>(bB I.1 (aY I.2.1.1) (bI kB I.2.1.1 I.1 λJ=>(bF (bc (al I.p4+al ([J.2.2.2.2])) 8) (cK ((cC I.1),I.2.1,I.p2,I.p3,(I.p4++([J.2.2.2.2])),I.q5)))) (aF I.q3))) (0,x,0,M,([]:List Int),(aG (aS (aY x.p3)) (0:Int)),(aG (aS (aY x.p4)) (0:Int)))))))
def wq (x:dJ×pa×(List Int)×(List Int)×List Int):Option (Bool):=
 (jn (α:=Bool) (obind (rj (x.1,x.2.1)) λI=>(bcase I (bd (aY x.p2) (aY x.1.1) (bd (aY x.p3) (aY x.1.p3) (aF (decide (((aY x.q4):Int)=(aY x.1.p4)))) (aF aj)) (aF aj)) (aF aj))) λJ=>(af J))
def CP (x:Int×Int):Option (Bool):=
 (jn (α:=Bool) (jZ 0 x.1 (aF (fX x.1 x.2)) (aF aj)) λI=>(af I))
def nI (x:(List Int)×Int):Option (Bool):=
 (iter (σ:=Int) (λI=>(bB I (aY x.1) (jn (α:=Bool) (bI aM x.1 I λY=>(bB Y 1 (aF ai) (bI aM x.1 I λU=>(jZ x.2 U (aF ai) (bB 0 I (bI aM x.1 I λM=>(bI aM x.1 (bn .i64 (I-1)) λJ=>(aF (cY M J)))) (aF aj)))))) λZ=>(bcase Z (aF aj) (cK (cC I)))) (aF ai))) 0)
def ue (x:eO×Int×Int×Int×Int×Int×(List Int)×List Int):Option (Bool):=
 (bd x.p2 3 (bI aM x.1.2.1 x.p3 λU=>(af (decide ((x.p4:Int)=U)))) (bd x.p2 23 (bI aM x.1.p2 x.p3 λM=>(af (decide ((x.p4:Int)=M)))) (bd x.p2 5 (jn (α:=Bool) (bd x.p4 0 (aF ai) (aF (decide ((x.p4:Int)=1)))) λx3=>(af x3)) (jn (α:=Bool×eO×Int×Int×Int×Int×Int×(List Int)×List Int) (bd x.p2 4 (aF ((decide ((x.p2:Int)=4)),x)) (aF ((decide ((x.p2:Int)=22)),x))) λI=>(bcase I.1 (af ai) (bd x.p2 18 (obind (nK (I.2.1.1,I.p4)) λJ=>(bd (aY J) 0 (af (decide ((I.p5:Int)=(-1)))) (jn (α:=Bool) (jZ 0 I.p5 (bB I.p5 (aY I.2.1.1.q3) (obind (qn (J,I.p5)) λZ=>(aF Z)) (aF aj)) (aF aj)) λx6=>(af x6)))) (bd x.p2 19 (obind (nK (I.2.1.1,I.p4)) λY=>(af (decide ((I.p5:Int)=(aY Y))))) (af (decide ((I.p5:Int)=0))))))))))
def rh (x:dJ×eO×Int×Int×Int×Int×Int×(List Int)×List Int):Option (eO×Bool):=
 (jn (α:=Bool×dJ×eO×gm×Int) (obind (wq (x.1,x.2.1)) λy2=>(bcase (!y2) (aF (ai,x.1,x.2.1,x.2.2,0)) (obind (CP (x.p2,(aY x.1.p4))) λy3=>(bcase (!y3) (aF (ai,x.1,x.2.1,x.2.2,0)) (bB x.p3 1 (aF (ai,x.1,x.2.1,x.2.2,0)) (bB 23 x.p3 (aF (ai,x.1,x.2.1,x.2.2,0)) (obind (kl (x.1,x.2.1.1,x.p2,x.p3,x.p4)) λy4=>(aF ((!y4),x.1,x.2.1,x.2.2,0))))))))) λx1=>(bcase x1.1 (af (((([]:List (Int×List Int)),0,([]:List Bool),([]:List dw)),([]:List Int),([]:List Int),([]:List Int)),aj)) (jn (α:=dJ×eO×gm×Int) (jn (α:=Bool×dJ×eO×gm×Int) (bd x1.p3.2.1 1 (aF (ai,x1.2)) (aF ((decide ((x1.p3.2.1:Int)=2)),x1.2))) λx6=>(bcase x6.1 (iF x6.p3.p4 (-1) (cK (((([]:List (Int×List Int)),0,([]:List Bool),([]:List dw)),([]:List Int),([]:List Int),([]:List Int)),aj)) (aF x6.2)) (jn (α:=Bool×dJ×eO×gm×Int) (obind (CP (x6.p3.p4,(aY x6.2.1.q5))) λy8=>(bcase (!y8) (aF (ai,x6.2)) (bI oR x6.2.1.q5 x6.p3.p4 λz9=>(aF ((!decide ((z9.1:Int)=x6.p3.1)),x6.2))))) λx7=>(bcase x7.1 (cK (((([]:List (Int×List Int)),0,([]:List Bool),([]:List dw)),([]:List Int),([]:List Int),([]:List Int)),aj)) (aF x7.2))))) λx5=>(jn (α:=Bool×dJ×eO×gm×Int) (bd x5.p2.2.1 3 (aF (ai,x5)) (aF ((decide ((x5.p2.2.1:Int)=4)),x5))) λZ=>(jn (α:=Bool×dJ×eO×gm×Int) (bB 0 (aY Z.p3.p5) (iF Z.p3.2.1 5 (bcase Z.1 (bI kB Z.2.1.1 Z.p3.p2 λz12=>(aF ((!(!decide ((z12.2.2.1:Int)=0))),Z.2))) (aF (ai,Z.2))) (aF (aj,Z.2))) (aF (aj,Z.2))) λx11=>(bcase x11.1 (af (((([]:List (Int×List Int)),0,([]:List Bool),([]:List dw)),([]:List Int),([]:List Int),([]:List Int)),aj)) (jn (α:=Bool×dJ×eO×gm×Int) (bB 0 (aY x11.p3.q6) (iF x11.p3.2.1 4 (aF ((!decide ((x11.p3.2.1:Int)=22)),x11.2)) (aF (aj,x11.2))) (aF (aj,x11.2))) λU=>(bcase U.1 (af (((([]:List (Int×List Int)),0,([]:List Bool),([]:List dw)),([]:List Int),([]:List Int),([]:List Int)),aj)) (jn (α:=Bool×dJ×eO×gm×Int) (bI aM U.p2.q3 U.p3.1 λz15=>(obind (nI (U.p3.p5,z15)) λy16=>(bcase (!y16) (aF (ai,U.2)) (bI aM U.p2.q3 U.p3.1 λz17=>(obind (nI (U.p3.q6,z17)) λy18=>(bcase (!y18) (aF (ai,U.2)) (obind (ue (U.p2,U.p3)) λy19=>(aF ((!y19),U.2))))))))) λI=>(bcase I.1 (af (((([]:List (Int×List Int)),0,([]:List Bool),([]:List dw)),([]:List Int),([]:List Int),([]:List Int)),aj)) (bF (bc (al ([]:List Int)+al I.p2.2.1) 8) (bF (bc (al ([]:List Int)+al I.p2.p2) 8) (bF (bc (al ([]:List Int)+al I.p2.q3) 8) (jn (α:=Int×dJ×eO×gm×Int×Int×(List Int)×(List Int)×List Int) (bd I.p3.2.1 18 (aF (I.p3.p3,I.2.1,I.p2,I.p3,I.q4,0,(([]:List Int)++I.p2.2.1),(([]:List Int)++I.p2.p2),(([]:List Int)++I.p2.q3))) (aF ((-1),I.2.1,I.p2,I.p3,I.q4,0,(([]:List Int)++I.p2.2.1),(([]:List Int)++I.p2.p2),(([]:List Int)++I.p2.q3)))) λJ=>(obind (pl (J.2.1,J.p2.1,J.p3.1,J.p3.2.1,J.p3.p2,J.1)) λy21=>(jn (α:=gm×Int×pa×(List Int)×(List Int)×List Int) (bd J.p3.2.1 4 (ck (fk J.p3.p2 (al J.p6)) (aF (J.p3,J.p4,y21.1,(cq J.p6 J.p3.p2 J.p3.p3),J.q7))) (aF (J.p3,J.p4,y21.1,J.q6))) λM=>(jn (α:=gm×Int×pa×(List Int)×(List Int)×List Int) (bd M.1.2.1 22 (ck (fk M.1.p2 (al M.p4)) (aF (M.1,M.2.1,M.p2,M.p3,(cq M.p4 M.1.p2 M.1.p3),M.q5))) (aF M)) λY=>(kF aM Y.q5 Y.1.1 λz24=>(ck (fk Y.1.1 (al Y.q5)) (af ((Y.p2,Y.p3,Y.p4,(cq Y.q5 Y.1.1 (cC z24))),ai)))))))))))))))))))))
def rf (x:(List gm)×Int×Int×List Int):Option (Bool):=
 (iter (σ:=Int) (λJ=>(bB J (aY x.q3) (iter (σ:=Int×Bool×Int) (λI=>(bB I.2.2 x.2.1 (jn (α:=Int×Bool) (bI jt x.1 I.2.2 λz4=>(iF z4.1 x.p2 (aF (I.1,I.2.1)) (jn (α:=Bool) (bcase I.2.1 (aF ai) (bI aM x.q3 J λZ=>(bd I.1 Z (bI jt x.1 I.2.2 λY=>(bd Y.2.1 3 (aF ai) (bI jt x.1 I.2.2 λU=>(aF (decide ((U.2.1:Int)=23)))))) (aF aj)))) λx5=>(aF ((cC I.1),x5))))) λM=>(cK (M.1,M.2,(cC I.2.2)))) (obind (bcase (!I.2.1) (aF aj) (cK (cC J))) λr=>af (bW r)))) (0,aj,0)) (aF ai))) 0)
def uf (x:dJ×List gm):Option (Int×Int):=
 (bB 400 (aY x.2) (af (0,2)) (obind (h_ x.1) λy1=>(bcase (!y1) (af (0,1)) (obind (mM x.1) λy2=>(iter (σ:=Int×(dJ×List gm)×pa×(List Int)×(List Int)×List Int) (λI=>(bB I.1 (aY I.2.1.2) (bI jt I.2.1.2 I.1 λJ=>(obind (rh (I.2.1.1,I.2.2,J)) λM=>(jn (α:=Bool×(dJ×List gm)×eO×pa×(List Int)×(List Int)×List Int) (bcase (!M.2) (aF (ai,I.2.1,I.2.2,M.1)) (obind (rf (I.2.1.2,I.1,J.1,J.p5)) λZ=>(bcase (!Z) (aF (ai,I.2.1,I.2.2,M.1)) (obind (rf (I.2.1.2,I.1,J.1,J.q6)) λY=>(aF ((!Y),I.2.1,I.2.2,M.1)))))) λU=>(bcase U.1 (aF (I.1,12)) (cK ((cC I.1),U.2.1,U.q3)))))) (aF (0,0)))) (0,x,y2))))))
def KG {Z W V:Type} (i:Int) (t1:Z->(List Int)->(List (List Int))->W) (t2:W->V) (t3:V->t8->List t8) (x6:Int) (I:z_×pa×(Int×Int)×Int×vT×gm×(Int×Int)×(List Int)×(List Int)×Z×(List Int)×List (List Int)):Option DZ:=
 (jn (α:=pa×(Int×Int)×Int×vT×gm×t8×(List Int)×(List Int)×V) (jn (α:=Bool×z_×pa×(Int×Int)×Int×vT×gm×t8×(List Int)×(List Int)×W) (iF I.p5.2.1 16 (aF ((!decide ((I.p5.2.1:Int)=2)),I.1,I.2.1,I.p2,I.p3,I.p4,I.p5,(x6,I.p10,I.q11,(cC I.p6.2)),I.p7,I.p8,(t1 I.p9 I.p10 I.q11))) (aF (aj,I.1,I.2.1,I.p2,I.p3,I.p4,I.p5,(x6,I.p10,I.q11,(cC I.p6.2)),I.p7,I.p8,(t1 I.p9 I.p10 I.q11)))) λJ=>(bcase J.1 (bI w9 J.2.1.2 J.p3.1 λU=>(obind (mZ (U,J.p7)) λY=>(aF (J.p2,J.p3,J.p4,J.p5,J.p6,Y.1,J.p8,J.p9,(t2 J.q10))))) (aF (J.p2,J.p3,J.p4,J.p5,J.p6,J.p7,J.p8,J.p9,(t2 J.q10))))) λM=>(bd M.2.1.1 i (af ((M.1,M.p6,M.p7,(t3 M.q8 M.p5)),M.p4,ai)) ah))
def SG {Z:Type} (i:Int) (cp:(pa×(List Int)×(List Int)×List t8)->Option (Int×gF×(List Bool)×(List dw)×(List Int)×(List Int)×Z×(List Int)×List (List Int))) (Y ev:Z->Int) (k:Int->(z_×pa×(Int×Int)×Int×vT×gm×(Int×Int)×(List Int)×(List Int)×Z×(List Int)×List (List Int))->Option DZ) (x:z_×w7×Int×Int):Option DZ:=
 (obind (nJ (x.1,x.2.1,x.p2)) λM=>(bcase (!M.2) (af (((([]:List (Int×List Int)),0,([]:List Bool),([]:List dw)),([]:List Int),([]:List Int),([]:List t8)),(0,0,0,0,0,([]:List Int),([]:List Int)),aj)) (obind (pl (x.1.1,x.2.1.1,x.p2,M.1.2.1,M.1.p2,x.q3)) λy2=>(bcase (!y2.2.2) (af (((([]:List (Int×List Int)),0,([]:List Bool),([]:List dw)),([]:List Int),([]:List Int),([]:List t8)),(0,0,0,0,0,([]:List Int),([]:List Int)),aj)) (obind (cp x.2.1) λU=>(bd x.p2 i (bI w9 x.1.2 i λz4=>(bI qR z4.2 (Y U.p6) λz5=>(jn (α:=Int×z_×pa×(Int×Int)×Int×vT×gm×(Int×Int)×jW×(List Int)×(List Int)×Z×(List Int)×List (List Int)) (jn (α:=Bool×z_×pa×(Int×Int)×Int×vT×gm×(Int×Int)×jW×(List Int)×(List Int)×Z×(List Int)×List (List Int)) (bd M.1.2.1 1 (aF ((decide ((M.1.2.1:Int)=1)),x.1,y2.1,(i,x.q3),0,(0,0,0,0,0),(M.1.1,M.1.2.1,M.1.p2,y2.2.1,M.1.q4),((Y U.p6),(ev U.p6)),z5,U.q4)) (bd M.1.2.1 16 (aF ((decide ((M.1.2.1:Int)=16)),x.1,y2.1,(i,x.q3),0,(0,0,0,0,0),(M.1.1,M.1.2.1,M.1.p2,y2.2.1,M.1.q4),((Y U.p6),(ev U.p6)),z5,U.q4)) (aF ((decide ((M.1.2.1:Int)=2)),x.1,y2.1,(i,x.q3),0,(0,0,0,0,0),(M.1.1,M.1.2.1,M.1.p2,y2.2.1,M.1.q4),((Y U.p6),(ev U.p6)),z5,U.q4)))) λI=>(bcase I.1 (aF (I.p7.1,I.2)) (bd M.1.2.1 3 (kF aM I.p9 I.p6.p2 λz8=>(aF ((bn .i64 ((Y U.p6)+1)),I.2.1,I.p2,I.p3,I.p4,I.p5,(I.p6.1,I.p6.2.1,I.p6.p2,z8,I.p6.q4),I.q7))) (bd M.1.2.1 23 (kF aM I.p10 I.p6.p2 λz9=>(aF ((bn .i64 ((Y U.p6)+1)),I.2.1,I.p2,I.p3,I.p4,I.p5,(I.p6.1,I.p6.2.1,I.p6.p2,z9,I.p6.q4),I.q7))) (bd M.1.2.1 4 (kF aM I.p12 I.p8.p2 λz10=>(ck (fk I.p6.p2 (al I.p9)) (aF ((bn .i64 ((Y U.p6)+1)),I.2.1,I.p2,I.p3,I.p4,I.p5,(I.p6.1,I.p6.2.1,I.p6.p2,z10,I.p6.q4),I.p7,I.p8,(cq I.p9 I.p6.p2 z10),I.q10)))) (bd M.1.2.1 22 (kF aM I.p12 I.p8.p2 λz11=>(ck (fk I.p6.p2 (al I.p10)) (aF ((bn .i64 ((Y U.p6)+1)),I.2.1,I.p2,I.p3,I.p4,I.p5,(I.p6.1,I.p6.2.1,I.p6.p2,z11,I.p6.q4),I.p7,I.p8,I.p9,(cq I.p10 I.p6.p2 z11),I.q11)))) (bd M.1.2.1 5 (kF aM I.p12 I.p8.2.1 λz12=>(bd z12 0 (aF (I.p8.p2,I.2.1,I.p2,I.p3,I.p4,I.p5,(I.p6.1,I.p6.2.1,I.p6.p2,0,I.p6.q4),I.q7)) (aF ((bn .i64 ((Y U.p6)+1)),I.2.1,I.p2,I.p3,I.p4,I.p5,(I.p6.1,I.p6.2.1,I.p6.p2,1,I.p6.q4),I.q7)))) (aF ((bn .i64 ((Y U.p6)+1)),I.2))))))))) λx6=>(jn (α:=z_×pa×(Int×Int)×Int×vT×gm×(Int×Int)×(List Int)×(List Int)×Z×(List Int)×List (List Int)) (jn (α:=Bool×z_×pa×(Int×Int)×Int×vT×gm×(Int×Int)×jW×(List Int)×(List Int)×Z×(List Int)×List (List Int)) (bd x6.p6.2.1 3 (aF (ai,x6.2)) (aF ((decide ((x6.p6.2.1:Int)=23)),x6.2))) λJ=>(bcase J.1 (ck (fk J.p8.2.1 (al J.p12)) (ck (fk J.p8.2.1 (al J.q13)) (aF (J.2.1,J.p2,J.p3,J.p4,J.p5,J.p6,J.p7,J.p9,J.p10,J.p11,(cq J.p12 J.p8.2.1 J.p6.p3),(cq J.q13 J.p8.2.1 ([J.p7.2])))))) (aF (J.2.1,J.p2,J.p3,J.p4,J.p5,J.p6,J.p7,J.q9)))) λx13=>(k x6.1 x13))))) ah))))))
def mY (x:pa×(List Int)×(List Int)×List t8):Option (Int×gF×(List Bool)×(List dw)×(List Int)×(List Int)×(Int×Int)×(List Int)×List (List Int)):=
 (obind (ir x.1) λI=>(bF (bc (al ([]:List Int)+al x.2.1) 8) (bF (bc (al ([]:List Int)+al x.p2) 8) (bB 0 (aY x.q3) (bI eY x.q3 0 λM=>(obind (cg M) λU=>(bB 1 (aY x.q3) (bI eY x.q3 1 λJ=>(obind (cg J) λY=>ah)) (af (I.1,I.2.1,I.p2,I.q3,(([]:List Int)++x.2.1),(([]:List Int)++x.p2),U))))) ah))))
def gd (x:z_×w7×Int×Int):Option DZ:=
 SG 0 mY (λz=>z.1) (λz=>z.2) (KG 0 (λz R T=>(z.1,R,T,z.2)) (λw=>((w.1,w.2.1,w.2.2.1,w.2.2.2))) (λv t=>[t])) x
def mX (x:pa×(List Int)×(List Int)×List t8):Option (Int×gF×(List Bool)×(List dw)×(List Int)×(List Int)×Ya29×(List Int)×List (List Int)):=
 (obind (ir x.1) λJ=>(bF (bc (al ([]:List Int)+al x.2.1) 8) (bF (bc (al ([]:List Int)+al x.p2) 8) (bB 0 (aY x.q3) (bI eY x.q3 0 λZ=>(obind (cg Z) λM=>(bB 1 (aY x.q3) (bI eY x.q3 1 λY=>(obind (cg Y) λI=>(bB 2 (aY x.q3) (bI eY x.q3 2 λU=>(obind (cg U) λy7=>ah)) (af (J.1,J.2.1,J.p2,J.q3,(([]:List Int)++x.2.1),(([]:List Int)++x.p2),(M.1.1,M.1.2,I.1.1,I.2.1,I.2.2,I.1.2),M.2))))) ah))) ah))))
def gC (x:z_×w7×Int×Int):Option DZ:=
 SG 0 mX (λz=>z.1) (λz=>z.2.1) (KG 0 (λz R T=>(z.1,R,T,z.2.1,z.2.2)) (λw=>((w.1,w.2.1,w.2.2.1,w.2.2.2.1),w.2.2.2.2)) (λv t=>[t,v.2])) x
def mW (x:pa×(List Int)×(List Int)×List t8):Option (Int×gF×(List Bool)×(List dw)×(List Int)×(List Int)×(t8×Int×Int)×(List Int)×List (List Int)):=
 (obind (ir x.1) λJ=>(bF (bc (al ([]:List Int)+al x.2.1) 8) (bF (bc (al ([]:List Int)+al x.p2) 8) (bB 0 (aY x.q3) (bI eY x.q3 0 λZ=>(obind (cg Z) λI=>(bB 1 (aY x.q3) (bI eY x.q3 1 λY=>(obind (cg Y) λM=>(bB 2 (aY x.q3) (bI eY x.q3 2 λU=>(obind (cg U) λy7=>ah)) (af (J.1,J.2.1,J.p2,J.q3,(([]:List Int)++x.2.1),(([]:List Int)++x.p2),((I.1.1,I.2.1,I.2.2,I.1.2),M.1),M.2))))) ah))) ah))))
def f_ (x:z_×w7×Int×Int):Option DZ:=
 SG 1 mW (λz=>z.2.1) (λz=>z.2.2) (KG 1 (λz R T=>(z.1,z.2.1,R,T,z.2.2)) (λw=>(w.1,(w.2.1,w.2.2.1,w.2.2.2.1,w.2.2.2.2))) (λv t=>[v.1,t])) x
def mV (x:pa×(List Int)×(List Int)×List t8):Option (Int×gF×(List Bool)×(List dw)×(List Int)×(List Int)×Ya27×(List Int)×List (List Int)):=
 (obind (ir x.1) λM=>(bF (bc (al ([]:List Int)+al x.2.1) 8) (bF (bc (al ([]:List Int)+al x.p2) 8) (bB 0 (aY x.q3) (bI eY x.q3 0 λz2=>(obind (cg z2) λU=>(bB 1 (aY x.q3) (bI eY x.q3 1 λz4=>(obind (cg z4) λJ=>(bB 2 (aY x.q3) (bI eY x.q3 2 λZ=>(obind (cg Z) λI=>(bB 3 (aY x.q3) (bI eY x.q3 3 λY=>(obind (cg Y) λy9=>ah)) (af (M.1,M.2.1,M.p2,M.q3,(([]:List Int)++x.2.1),(([]:List Int)++x.p2),(U.1.1,U.1.2,(J.1.1,J.2.1,J.2.2,J.1.2),I.1.1,I.2.1,I.2.2,I.1.2),U.2))))) ah))) ah))) ah))))
def ju (x:z_×w7×Int×Int):Option DZ:=
 SG 0 mV (λz=>z.1) (λz=>z.2.1) (KG 0 (λz R T=>(z.1,R,T,z.2.1,z.p2,z.q3)) (λw=>((w.1,w.2.1,w.2.2.1,w.2.2.2.1),w.2.2.2.2.1,w.2.2.2.2.2)) (λv t=>[t,v.2.1,v.2.2])) x
def mU (x:pa×(List Int)×(List Int)×List t8):Option (Int×gF×(List Bool)×(List dw)×(List Int)×(List Int)×Ya28×(List Int)×List (List Int)):=
 (obind (ir x.1) λM=>(bF (bc (al ([]:List Int)+al x.2.1) 8) (bF (bc (al ([]:List Int)+al x.p2) 8) (bB 0 (aY x.q3) (bI eY x.q3 0 λz2=>(obind (cg z2) λJ=>(bB 1 (aY x.q3) (bI eY x.q3 1 λz4=>(obind (cg z4) λU=>(bB 2 (aY x.q3) (bI eY x.q3 2 λZ=>(obind (cg Z) λI=>(bB 3 (aY x.q3) (bI eY x.q3 3 λY=>(obind (cg Y) λy9=>ah)) (af (M.1,M.2.1,M.p2,M.q3,(([]:List Int)++x.2.1),(([]:List Int)++x.p2),((J.1.1,J.2.1,J.2.2,J.1.2),U.1.1,U.1.2,I.1.1,I.2.1,I.2.2,I.1.2),U.2))))) ah))) ah))) ah))))
def iK (x:z_×w7×Int×Int):Option DZ:=
 SG 1 mU (λz=>z.2.1) (λz=>z.p2) (KG 1 (λz R T=>(z.1,z.2.1,R,T,z.p2,z.q3)) (λw=>(w.1,(w.2.1,w.2.2.1,w.2.2.2.1,w.2.2.2.2.1),w.2.2.2.2.2)) (λv t=>[v.1,t,v.2.2])) x
def mT (x:pa×(List Int)×(List Int)×List t8):Option (Int×gF×(List Bool)×(List dw)×(List Int)×(List Int)×(t8×t8×Int×Int)×(List Int)×List (List Int)):=
 (obind (ir x.1) λM=>(bF (bc (al ([]:List Int)+al x.2.1) 8) (bF (bc (al ([]:List Int)+al x.p2) 8) (bB 0 (aY x.q3) (bI eY x.q3 0 λz2=>(obind (cg z2) λJ=>(bB 1 (aY x.q3) (bI eY x.q3 1 λz4=>(obind (cg z4) λI=>(bB 2 (aY x.q3) (bI eY x.q3 2 λZ=>(obind (cg Z) λU=>(bB 3 (aY x.q3) (bI eY x.q3 3 λY=>(obind (cg Y) λy9=>ah)) (af (M.1,M.2.1,M.p2,M.q3,(([]:List Int)++x.2.1),(([]:List Int)++x.p2),((J.1.1,J.2.1,J.2.2,J.1.2),(I.1.1,I.2.1,I.2.2,I.1.2),U.1),U.2))))) ah))) ah))) ah))))
def hZ (x:z_×w7×Int×Int):Option DZ:=
 SG 2 mT (λz=>z.p2) (λz=>z.q3) (KG 2 (λz R T=>(z.1,z.2.1,z.p2,R,T,z.q3)) (λw=>(w.1,w.2.1,(w.2.2.1,w.2.2.2.1,w.2.2.2.2.1,w.2.2.2.2.2))) (λv t=>[v.1,v.2.1,t])) x
def mS (x:pa×(List Int)×(List Int)×List t8):Option (Int×gF×(List Bool)×(List dw)×(List Int)×(List Int)×Ya23×(List Int)×List (List Int)):=
 (obind (ir x.1) λU=>(bF (bc (al ([]:List Int)+al x.2.1) 8) (bF (bc (al ([]:List Int)+al x.p2) 8) (bB 0 (aY x.q3) (bI eY x.q3 0 λz2=>(obind (cg z2) λZ=>(bB 1 (aY x.q3) (bI eY x.q3 1 λz4=>(obind (cg z4) λM=>(bB 2 (aY x.q3) (bI eY x.q3 2 λz6=>(obind (cg z6) λJ=>(bB 3 (aY x.q3) (bI eY x.q3 3 λz8=>(obind (cg z8) λI=>(bB 4 (aY x.q3) (bI eY x.q3 4 λY=>(obind (cg Y) λy11=>ah)) (af (U.1,U.2.1,U.p2,U.q3,(([]:List Int)++x.2.1),(([]:List Int)++x.p2),(Z.1.1,Z.1.2,(M.1.1,M.2.1,M.2.2,M.1.2),(J.1.1,J.2.1,J.2.2,J.1.2),I.1.1,I.2.1,I.2.2,I.1.2),Z.2))))) ah))) ah))) ah))) ah))))
def mO (x:z_×w7×Int×Int):Option DZ:=
 SG 0 mS (λz=>z.1) (λz=>z.2.1) (KG 0 (λz R T=>(z.1,R,T,z.2.1,z.p2,z.p3,z.q4)) (λw=>((w.1,w.2.1,w.2.2.1,w.2.2.2.1),w.2.2.2.2.1,w.2.2.2.2.2.1,w.2.2.2.2.2.2)) (λv t=>[t,v.2.1,v.2.2.1,v.2.2.2])) x
def mR (x:pa×(List Int)×(List Int)×List t8):Option (Int×gF×(List Bool)×(List dw)×(List Int)×(List Int)×Ya24×(List Int)×List (List Int)):=
 (obind (ir x.1) λU=>(bF (bc (al ([]:List Int)+al x.2.1) 8) (bF (bc (al ([]:List Int)+al x.p2) 8) (bB 0 (aY x.q3) (bI eY x.q3 0 λz2=>(obind (cg z2) λM=>(bB 1 (aY x.q3) (bI eY x.q3 1 λz4=>(obind (cg z4) λZ=>(bB 2 (aY x.q3) (bI eY x.q3 2 λz6=>(obind (cg z6) λJ=>(bB 3 (aY x.q3) (bI eY x.q3 3 λz8=>(obind (cg z8) λI=>(bB 4 (aY x.q3) (bI eY x.q3 4 λY=>(obind (cg Y) λy11=>ah)) (af (U.1,U.2.1,U.p2,U.q3,(([]:List Int)++x.2.1),(([]:List Int)++x.p2),((M.1.1,M.2.1,M.2.2,M.1.2),Z.1.1,Z.1.2,(J.1.1,J.2.1,J.2.2,J.1.2),I.1.1,I.2.1,I.2.2,I.1.2),Z.2))))) ah))) ah))) ah))) ah))))
def mN (x:z_×w7×Int×Int):Option DZ:=
 SG 1 mR (λz=>z.2.1) (λz=>z.p2) (KG 1 (λz R T=>(z.1,z.2.1,R,T,z.p2,z.p3,z.q4)) (λw=>(w.1,(w.2.1,w.2.2.1,w.2.2.2.1,w.2.2.2.2.1),w.2.2.2.2.2.1,w.2.2.2.2.2.2)) (λv t=>[v.1,t,v.2.2.1,v.2.2.2])) x
def mQ (x:pa×(List Int)×(List Int)×List t8):Option (Int×gF×(List Bool)×(List dw)×(List Int)×(List Int)×Ya25×(List Int)×List (List Int)):=
 (obind (ir x.1) λU=>(bF (bc (al ([]:List Int)+al x.2.1) 8) (bF (bc (al ([]:List Int)+al x.p2) 8) (bB 0 (aY x.q3) (bI eY x.q3 0 λz2=>(obind (cg z2) λM=>(bB 1 (aY x.q3) (bI eY x.q3 1 λz4=>(obind (cg z4) λJ=>(bB 2 (aY x.q3) (bI eY x.q3 2 λz6=>(obind (cg z6) λZ=>(bB 3 (aY x.q3) (bI eY x.q3 3 λz8=>(obind (cg z8) λI=>(bB 4 (aY x.q3) (bI eY x.q3 4 λY=>(obind (cg Y) λy11=>ah)) (af (U.1,U.2.1,U.p2,U.q3,(([]:List Int)++x.2.1),(([]:List Int)++x.p2),((M.1.1,M.2.1,M.2.2,M.1.2),(J.1.1,J.2.1,J.2.2,J.1.2),Z.1.1,Z.1.2,I.1.1,I.2.1,I.2.2,I.1.2),Z.2))))) ah))) ah))) ah))) ah))))
def ll (x:z_×w7×Int×Int):Option DZ:=
 SG 2 mQ (λz=>z.p2) (λz=>z.p3) (KG 2 (λz R T=>(z.1,z.2.1,z.p2,R,T,z.p3,z.q4)) (λw=>(w.1,w.2.1,(w.2.2.1,w.2.2.2.1,w.2.2.2.2.1,w.2.2.2.2.2.1),w.2.2.2.2.2.2)) (λv t=>[v.1,v.2.1,t,v.2.2.2])) x
def mP (x:pa×(List Int)×(List Int)×List t8):Option (Int×gF×(List Bool)×(List dw)×(List Int)×(List Int)×Ya42×(List Int)×List (List Int)):=
 (obind (ir x.1) λU=>(bF (bc (al ([]:List Int)+al x.2.1) 8) (bF (bc (al ([]:List Int)+al x.p2) 8) (bB 0 (aY x.q3) (bI eY x.q3 0 λz2=>(obind (cg z2) λM=>(bB 1 (aY x.q3) (bI eY x.q3 1 λz4=>(obind (cg z4) λJ=>(bB 2 (aY x.q3) (bI eY x.q3 2 λz6=>(obind (cg z6) λI=>(bB 3 (aY x.q3) (bI eY x.q3 3 λz8=>(obind (cg z8) λZ=>(bB 4 (aY x.q3) (bI eY x.q3 4 λY=>(obind (cg Y) λy11=>ah)) (af (U.1,U.2.1,U.p2,U.q3,(([]:List Int)++x.2.1),(([]:List Int)++x.p2),((M.1.1,M.2.1,M.2.2,M.1.2),(J.1.1,J.2.1,J.2.2,J.1.2),(I.1.1,I.2.1,I.2.2,I.1.2),Z.1),Z.2))))) ah))) ah))) ah))) ah))))
def ki (x:z_×w7×Int×Int):Option DZ:=
 SG 3 mP (λz=>z.p3) (λz=>z.q4) (KG 3 (λz R T=>(z.1,z.2.1,z.p2,z.p3,R,T,z.q4)) (λw=>(w.1,w.2.1,w.2.2.1,(w.2.2.2.1,w.2.2.2.2.1,w.2.2.2.2.2.1,w.2.2.2.2.2.2))) (λv t=>[v.1,v.2.1,v.2.2.1,t])) x
def Al (x:z_×w7×Int×Int):Option DZ:=orE (mO x) (orE (mN x) (orE (ll x) (orE (ki x) (orE (ju x) (orE (iK x) (orE (hZ x) (orE (gC x) (orE (f_ x) (gd x)))))))))
def wv (x:z_×w7×List (Int×Int)):Option ((List gm)×pa×(List Int)×(List Int)×List t8):=
 (iter (σ:=Int×(List gm)×z_×w7×Int) (λJ=>(jn (α:=Bool×(List gm)×z_×w7×Int) (bB J.1 (aY x.2.2) (aF ((fX (aY J.2.1) 400),J.2)) (aF (aj,J.2))) λI=>(bcase I.1 (jn (α:=(List gm)×z_×w7×Int) (bI gj x.2.2 J.1 λU=>(obind (Al (I.p2,I.p3,U)) λM=>(bcase M.2.2 (bF (bc (al I.2.1+al ([M.2.1])) 88) (aF ((I.2.1++([M.2.1])),I.p2,M.1,I.q4))) (aF I.2)))) λY=>(cK ((cC J.1),Y))) (aF (I.2.1,I.p3))))) (0,([]:List gm),x.1,x.2.1,0))
def ze (x:z_×List (Int×Int)):Option ((dJ×List gm)×pa×(List Int)×(List Int)×List t8):=
 (obind (jH x.1) λM=>(bcase (!M) (af (((([]:List SU),([]:List ((List UInt8)×Bool)),([]:List fw),([]:List (List UInt8)),([]:List (List UInt8)),([]:List (Int×Int×Int))),([]:List gm)),(([]:List (Int×List Int)),0,([]:List Bool),([]:List dw)),([]:List Int),([]:List Int),([]:List t8))) (obind (ug x.1) λJ=>(obind (wv (x.1,J,x.2)) λI=>(af ((x.1.1,I.1),I.2))))))
def bx (x:Int×(List Int)×Int):Option (Int×(List Int)×Int):=
 (jn (α:=Bool×(List Int)×Int) (jZ (aY x.2.1) x.2.2 (aF (ai,x.2)) (aF ((fX x.1 1),x.2))) λI=>(bcase I.1 (af (0,I.2)) (lt (cC I.2.2) λM=>(bI (.int .u8) I.2.1 (bn .i64 (M-1)) λJ=>(bF (!decide ((x.1:Int)=0)) (af ((Ag (bn .i64 J) x.1),I.2.1,(cC I.2.2))))))))
def rx (x:Int):Option (Xp):=
 (af (eh (1,x,[],([]:List Xp))))
def pt (x:List UInt8):Option (Xp):=
 (af (eh (2,0,x,([]:List Xp))))
def nN (x:Int×Xp×Xp):Option (Xp):=
 (af (eh (x.1,0,[],[eh ((Xp.op x.2.1),(Xp.n x.2.1),(Xp.name x.2.1),(Xp.l x.2.1)),eh ((Xp.op x.2.2),(Xp.n x.2.2),(Xp.name x.2.2),(Xp.l x.2.2))])))
def jr (x:(List UInt8)×Xp):Option (Sx):=
 (af (nO (1,0,x.1,[],([]:List Xp),eh ((Xp.op x.2),(Xp.n x.2),(Xp.name x.2),(Xp.l x.2)),([]:List Sx),([]:List Sx))))
def sr (x:Unit):Option sd:=
 (af ([(1,0,[120],0,0,[]),(1,0,[121],0,1,[]),(2,0,[118],0,0,[]),(1,0,[113],2,0,[]),(3,0,[109],0,0,[]),(3,0,[110],0,0,[]),(4,0,[114],0,0,[]),(5,0,[99],0,0,[109]),(6,0,[102],0,0,[])]))
def oL (x:List Int):Option (List (Int×Int)):=
 (iter (σ:=Int×List (Int×Int)) (λI=>(bB I.1 (aY x) (bI (.int .u8) x I.1 λM=>(bI (.int .u8) x I.1 λJ=>(bF (bc (al I.2+al ([((Ag (bn .i64 M) 4),(bn .i64 ((Ag (bn .i64 (Int.tdiv (bn .i64 J) 4)) 5)-1)))])) 16) (cK ((cC I.1),(I.2++([((Ag (bn .i64 M) 4),(bn .i64 ((Ag (bn .i64 (Int.tdiv (bn .i64 J) 4)) 5)-1)))]))))))) (aF I.2))) (0,([]:List (Int×Int))))
def nW (rmade_maker_expr:YW->Option afm) (x:Int×yR×fQ×Bool×List (List UInt8)):Option afm:=
 (obind (bx (10,x.p2)) λZ=>(jn (α:=Bool×yR×fQ×SX×(Int×Int×List UInt8)×List (List UInt8)) (bB Z.1 2 (aF (ai,x.2.1,Z.2,x.q3,(0,0,[]),[[97],[98],[120],[121],[118],[120],[121]])) (bd x.1 0 (aF ((cY 7 Z.1),x.2.1,Z.2,x.q3,(0,0,[]),[[97],[98],[120],[121],[118],[120],[121]])) (aF (aj,x.2.1,Z.2,x.q3,(0,0,[]),[[97],[98],[120],[121],[118],[120],[121]])))) λI=>(bcase I.1 (obind (bx (4,I.p2)) λy3=>(obind (rx y3.1) λy4=>(af (eh ((Xp.op y4),(Xp.n y4),(Xp.name y4),(Xp.l y4)),I.2.1,y3.2,I.p3)))) (bB Z.1 7 (obind (bx ((aY I.q5),I.p2)) λy5=>(kF (.str) I.q5 y5.1 λz6=>(obind (pt z6) λy7=>(af (eh ((Xp.op y7),(Xp.n y7),(Xp.name y7),(Xp.l y7)),I.2.1,y5.2,I.p3))))) (bd Z.1 7 (obind (rmade_maker_expr (0,I.2.1,I.p2,I.p3)) λY=>(bF (((I.p3.1==Y.p3)&&ai)&&aC (al I.p3.2) (al Y.q4)&&ai) (af (eh (3,0,[113],[eh ((Xp.op Y.1),(Xp.n Y.1),(Xp.name Y.1),(Xp.l Y.1))]),Y.2)))) (obind (bx ((aQ (al ([6,7,8,11,13,17]))),I.p2)) λy9=>(kF aM ([6,7,8,11,13,17]) y9.1 λz10=>(obind (rmade_maker_expr ((bn .i64 (x.1-1)),I.2.1,y9.2,I.p3)) λJ=>(bF (((I.p3.1==J.p3)&&ai)&&aC (al I.p3.2) (al J.q4)&&ai) (obind (rmade_maker_expr ((bn .i64 (x.1-1)),J.2)) λU=>(bF (((J.p3==U.p3)&&ai)&&aC (al J.q4) (al U.q4)&&ai) (obind (nN (z10,J.1,U.1)) λM=>(af (eh ((Xp.op M),(Xp.n M),(Xp.name M),(Xp.l M)),U.2))))))))))))))
def iw:Nat->YW->Option afm
 |0,_=>ah
 |n+1,x=>nW (iw n) x
theorem yN (n:Nat) (x:Int×yR×fQ×Bool×List (List UInt8)):iw (n+1) x=nW (iw n) x:=rfl
def fg (x:Int×yR×fQ×Bool×List (List UInt8)):Option afm:=iw fuel x
def eS (x:(List UInt8)×yR×fQ×Bool×List (List UInt8)):Option (Bool×yR×fQ×Bool×List (List UInt8)):=
 (obind (jb (x.q4,x.1)) λI=>(af ((cY 0 I),x.2)))
def mA (rmade_maker_stmts:afo->Option YV) (rmade_maker_stmt:YW->Option ac8) (rmade_maker_block:afn->Option ac9) (x:(Int×Int)×yR×fQ×Bool×List (List UInt8)):Option YV:=
 (iter (σ:=Int×yR×fQ×(List Sx)×Bool×List (List UInt8)) (λJ=>(jn (α:=Bool×yR×fQ×(List Sx)×Bool×List (List UInt8)) (bB J.1 x.1.2 (bd J.1 0 (aF (ai,J.2)) (aF ((fX 0 J.2.1.2.1),J.2))) (aF (aj,J.2))) λI=>(bcase I.1 (obind (rmade_maker_stmt (x.1.1,I.2.1,I.p2,I.q4)) λM=>(bF (((I.p4==I.p4)&&ai)&&aC (al I.q5) (al I.q5)&&ai) (bF (bc (al I.p3+al ([ep M.1])) 176) (cK ((cC J.1),M.2.1,M.p2,(I.p3++([ep M.1])),M.q3))))) (aF (I.2.1,I.p2,I.q4,I.p3))))) (0,x.2.1,x.p2,([]:List Sx),x.q3))
def nV (rmade_maker_stmts:afo->Option YV) (rmade_maker_stmt:YW->Option ac8) (rmade_maker_block:afn->Option ac9) (x:Int×yR×fQ×Bool×List (List UInt8)):Option ac8:=
 (obind (bx (18,x.p2)) λy1=>(jn (α:=Bool×yR×fQ×Hw×Bool×List (List UInt8)) (bB 0 x.1 (lt (bn .i64 (x.2.1.2.1-1)) λz3=>(bB 0 z3 (aF ((!x.2.1.p3),(x.2.1.1,(bn .i64 (x.2.1.2.1-1)),x.2.1.2.2),y1.2,(0,0,[],[],0,0,[]),x.q3)) (aF (aj,(x.2.1.1,(bn .i64 (x.2.1.2.1-1)),x.2.1.2.2),y1.2,(0,0,[],[],0,0,[]),x.q3)))) (aF (aj,(x.2.1.1,(bn .i64 (x.2.1.2.1-1)),x.2.1.2.2),y1.2,(0,0,[],[],0,0,[]),x.q3))) λx2=>(bB y1.1 4 (kF (.str) ([[120],[121],[120],[118]]) y1.1 λz4=>(obind (fg (1,x2.2.1,x2.p2,x2.q4)) λy5=>(bF (((x2.p4==y5.p3)&&ai)&&aC (al x2.q5) (al y5.q4)&&ai) (obind (jr (z4,y5.1)) λy6=>(af (ep y6,y5.2)))))) (bd y1.1 4 (obind (bx (2,x2.p2)) λy7=>(kF (.str) ([[97],[98]]) y7.1 λz8=>(obind (fg (1,x2.2.1,y7.2,x2.q4)) λy9=>(bF (((x2.p4==y9.p3)&&ai)&&aC (al x2.q5) (al y9.q4)&&ai) (obind (jr (z8,y9.1)) λy10=>(af (ep y10,y9.2))))))) (bd y1.1 5 (obind (fg (0,x2.2.1,x2.p2,x2.q4)) λy11=>(bF (((x2.p4==y11.p3)&&ai)&&aC (al x2.q5) (al y11.q4)&&ai) (obind (fg (1,y11.2)) λy12=>(bF (((y11.p3==y12.p3)&&ai)&&aC (al y11.q4) (al y12.q4)&&ai) (af (nO (1,0,[113],[],[eh ((Xp.op y11.1),(Xp.n y11.1),(Xp.name y11.1),(Xp.l y11.1))],eh ((Xp.op y12.1),(Xp.n y12.1),(Xp.name y12.1),(Xp.l y12.1)),([]:List Sx),([]:List Sx)),y12.2)))))) (jn (α:=Bool×yR×fQ×Hw×Bool×List (List UInt8)) (bd y1.1 6 (aF ((fX 0 x.1),x2.2)) (aF (aj,x2.2))) λx13=>(bcase x13.1 (obind (fg (1,x13.2.1,x13.p2,x13.q4)) λU=>(bF (((x13.p4==U.p3)&&ai)&&aC (al x13.q5) (al U.q4)&&ai) (obind (rmade_maker_stmts (((bn .i64 (x.1-1)),1),U.2)) λy15=>(bF (((U.p3==U.p3)&&ai)&&aC (al U.q4) (al U.q4)&&ai) (jn (α:=yR×fQ×Hw×(Int×Int×(List UInt8)×(List UInt8)×Int×Int×(List UInt8)×List Xp)×SX×(List Sx)×List Sx) (obind (bx (2,y15.2.1)) λy17=>(bd y17.1 1 (obind (rmade_maker_stmts (((bn .i64 (x.1-1)),1),y15.1,y17.2,y15.p2)) λy18=>(bF (((y15.p2.1==y15.p2.1)&&ai)&&aC (al y15.p2.2) (al y15.p2.2)&&ai) (aF (y18.1,y18.2.1,x13.p3,(2,0,[],[],(Xp.op U.1),(Xp.n U.1),(Xp.name U.1),(Xp.l U.1)),y18.p2,y15.q3,y18.q3)))) (aF (y15.1,y17.2,x13.p3,(2,0,[],[],(Xp.op U.1),(Xp.n U.1),(Xp.name U.1),(Xp.l U.1)),y15.p2,y15.q3,([]:List Sx))))) λx16=>(af (nO (x16.p3.1,x16.p3.2.1,x16.p3.p2,x16.p3.p3,([]:List Xp),eh x16.p3.q4,x16.q5),x16.1,x16.2.1,x16.p4))))))) (jn (α:=Bool×yR×fQ×Hw×Bool×List (List UInt8)) (bd y1.1 7 (aF ((fX 0 x.1),x13.2)) (aF (aj,x13.2))) λI=>(bcase I.1 (obind (pt ([98])) λy20=>(obind (rx 2) λy21=>(obind (nN (13,y20,y21)) λy22=>(obind (rmade_maker_stmts (((bn .i64 (x.1-1)),1),(I.2.1.1,I.2.1.2.1,I.2.1.p2,I.2.1.p3,I.2.1.p4,ai),I.p2,I.q4)) λy23=>(bF (((I.p4==I.p4)&&ai)&&aC (al I.q5) (al I.q5)&&ai) (obind (pt ([98])) λy24=>(obind (rx 1) λy25=>(obind (nN (6,y24,y25)) λy26=>(obind (jr ([98],y26)) λy27=>(bF (bc (al y23.q3+al ([ep y27])) 176) (af (nO (3,0,[],[],([]:List Xp),eh ((Xp.op y22),(Xp.n y22),(Xp.name y22),(Xp.l y22)),(y23.q3++([ep y27])),([]:List Sx)),(y23.1.1,y23.1.2.1,y23.1.p2,y23.1.p3,y23.1.p4,I.2.1.q5),y23.2.1,y23.p2)))))))))))) (jn (α:=Bool×yR×fQ×Hw×Bool×List (List UInt8)) (bd y1.1 8 (bcase x2.1 (kF (.str) ([[109],[110]]) (bn .i64 (y1.1-8)) λz29=>(obind (eS (z29,I.2.1,I.p2,I.q4)) λy30=>(bF (((I.p4==y30.p3)&&ai)&&aC (al I.q5) (al y30.q4)&&ai) (aF ((!y30.1),y30.2.1,y30.p2,I.p3,y30.q3))))) (aF (aj,I.2))) (bd y1.1 9 (bcase x2.1 (kF (.str) ([[109],[110]]) (bn .i64 (y1.1-8)) λz31=>(obind (eS (z31,I.2.1,I.p2,I.q4)) λy32=>(bF (((I.p4==y32.p3)&&ai)&&aC (al I.q5) (al y32.q4)&&ai) (aF ((!y32.1),y32.2.1,y32.p2,I.p3,y32.q3))))) (aF (aj,I.2))) (aF (aj,I.2)))) λJ=>(bcase J.1 (kF (.str) ([[109],[110]]) (bn .i64 (y1.1-8)) λz33=>(obind (rmade_maker_block ((z33,(bn .i64 (x.1-1))),J.2.1,J.p2,J.q4)) λy34=>(bF (((J.p4==J.p4)&&ai)&&aC (al J.q5) (al J.q5)&&ai) (af (nO (4,0,z33,[],([]:List Xp),eh (0,0,[],([]:List Xp)),y34.1,([]:List Sx)),y34.2))))) (jn (α:=Bool×yR×fQ×Hw×Bool×List (List UInt8)) (bd y1.1 10 (bcase x2.1 (obind (eS ([114],J.2.1,J.p2,J.q4)) λy36=>(bF (((J.p4==y36.p3)&&ai)&&aC (al J.q5) (al y36.q4)&&ai) (aF ((!y36.1),y36.2.1,y36.p2,J.p3,y36.q3)))) (aF (aj,J.2))) (bd y1.1 11 (bcase x2.1 (obind (eS ([114],J.2.1,J.p2,J.q4)) λy37=>(bF (((J.p4==y37.p3)&&ai)&&aC (al J.q5) (al y37.q4)&&ai) (aF ((!y37.1),y37.2.1,y37.p2,J.p3,y37.q3)))) (aF (aj,J.2))) (aF (aj,J.2)))) λx35=>(bcase x35.1 (obind (rmade_maker_block (([114],(bn .i64 (x.1-1))),x35.2.1,x35.p2,x35.q4)) λy38=>(bF (((x35.p4==x35.p4)&&ai)&&aC (al x35.q5) (al x35.q5)&&ai) (af (nO ((bn .i64 ((bn .i64 (y1.1-10))+5)),0,[114],[],([]:List Xp),eh (0,0,[],([]:List Xp)),y38.1,([]:List Sx)),y38.2)))) (jn (α:=Bool×yR×fQ×Hw×Bool×List (List UInt8)) (bd y1.1 12 (aF (x2.1,x35.2)) (aF (aj,x35.2))) λY=>(bcase Y.1 (obind (bx (2,Y.p2)) λy40=>(obind (rmade_maker_stmts ((0,(bn .i64 (1+y40.1))),(Y.2.1.1,Y.2.1.2.1,Y.2.1.p2,ai,Y.2.1.q4),y40.2,Y.q4)) λy41=>(bF (((Y.p4==Y.p4)&&ai)&&aC (al Y.q5) (al Y.q5)&&ai) (af (nO (7,0,[],[],([]:List Xp),eh (0,0,[],([]:List Xp)),y41.q3,([]:List Sx)),(y41.1.1,y41.1.2.1,y41.1.p2,aj,y41.1.q4),y41.2.1,y41.p2))))) (jn (α:=Bool×yR×fQ×Hw×Bool×List (List UInt8)) (bd y1.1 13 (bcase x2.1 (aF ((!Y.2.1.p4),Y.2)) (aF (aj,Y.2))) (aF (aj,Y.2))) λM=>(bcase M.1 (obind (rmade_maker_stmts (((bn .i64 (x.1-1)),2),(M.2.1.1,M.2.1.2.1,M.2.1.p2,M.2.1.p3,ai,M.2.1.q5),M.p2,M.q4)) λy43=>(bF (((M.p4==M.p4)&&ai)&&aC (al M.q5) (al M.q5)&&ai) (af (nO (8,0,[],[],([]:List Xp),eh (0,0,[],([]:List Xp)),y43.q3,([]:List Sx)),(y43.1.1,y43.1.2.1,y43.1.p2,y43.1.p3,aj,y43.1.q5),y43.2.1,y43.p2)))) (jn (α:=Bool×yR×fQ×Hw×Bool×List (List UInt8)) (bd y1.1 14 (bcase x2.1 (bcase (!M.2.1.p4) (obind (eS ([109],M.2.1,M.p2,M.q4)) λy45=>(bF (((M.p4==y45.p3)&&ai)&&aC (al M.q5) (al y45.q4)&&ai) (aF ((!y45.1),y45.2.1,y45.p2,M.p3,y45.q3)))) (aF (aj,M.2))) (aF (aj,M.2))) (aF (aj,M.2))) λx44=>(bcase x44.1 (obind (pt ([120])) λy46=>(obind (jr ([97],y46)) λy47=>(af (nO (4,0,[109],[],([]:List Xp),eh (0,0,[],([]:List Xp)),[nO (9,0,[99],[],([]:List Xp),eh (0,0,[],([]:List Xp)),([]:List Sx),([]:List Sx)),ep y47],([]:List Sx)),x44.2.1,x44.p2,x44.q4)))) (jn (α:=Bool×yR×fQ×Hw×Bool×List (List UInt8)) (bd y1.1 15 (bcase x2.1 (obind (eS ([109],x44.2.1,x44.p2,x44.q4)) λy49=>(bF (((x44.p4==y49.p3)&&ai)&&aC (al x44.q5) (al y49.q4)&&ai) (aF ((!y49.1),y49.2.1,y49.p2,x44.p3,y49.q3)))) (aF (aj,x44.2))) (aF (aj,x44.2))) λx48=>(bcase x48.1 (obind (bx (2,x48.p2)) λy50=>(af (nO (4,0,[109],[],([]:List Xp),eh (0,0,[],([]:List Xp)),[nO ((bn .i64 (10+y50.1)),0,[99],[],([]:List Xp),eh (0,0,[],([]:List Xp)),([]:List Sx),([]:List Sx))],([]:List Sx)),x48.2.1,y50.2,x48.q4))) (jn (α:=Bool×yR×fQ×Hw×Bool×List (List UInt8)) (bd y1.1 16 (bcase (!x48.2.1.p3) (bcase (!x48.2.1.q5) (aF ((!x48.2.1.p2),x48.2)) (aF (aj,x48.2))) (aF (aj,x48.2))) (aF (aj,x48.2))) λZ=>(bcase Z.1 (obind (fg (1,(Z.2.1.1,Z.2.1.2.1,ai,Z.2.1.q3),Z.p2,Z.q4)) λy52=>(bF (((Z.p4==y52.p3)&&ai)&&aC (al Z.q5) (al y52.q4)&&ai) (af (nO (14,0,[102],[],([]:List Xp),eh ((Xp.op y52.1),(Xp.n y52.1),(Xp.name y52.1),(Xp.l y52.1)),([]:List Sx),([]:List Sx)),y52.2)))) (jn (α:=Bool×yR×fQ×Hw×Bool×List (List UInt8)) (bd y1.1 17 (bcase (!Z.2.1.p3) (obind (bx (2,Z.p2)) λy54=>(aF ((decide ((y54.1:Int)=1)),Z.2.1,y54.2,Z.q3))) (aF (aj,Z.2))) (aF (aj,Z.2))) λx53=>(bcase x53.1 (af (nO (15,0,[97],[102],([]:List Xp),eh (0,0,[],([]:List Xp)),([]:List Sx),([]:List Sx)),x53.2.1,x53.p2,x53.q4)) (obind (fg (1,x53.2.1,x53.p2,x53.q4)) λy55=>(bF (((x53.p4==y55.p3)&&ai)&&aC (al x53.q5) (al y55.q4)&&ai) (obind (jr ([120],y55.1)) λy56=>(af (ep y56,y55.2))))))))))))))))))))))))))))))
def mB (rmade_maker_stmts:afo->Option YV) (rmade_maker_stmt:YW->Option ac8) (rmade_maker_block:afn->Option ac9) (x:fw×yR×fQ×Bool×List (List UInt8)):Option ac9:=
 (bF (bc (al x.q4+al ([x.1.1])) 16) (obind (bx (2,x.p2)) λJ=>(obind (rmade_maker_stmts ((x.1.2,(bn .i64 (1+J.1))),x.2.1,J.2,x.p3,(x.q4++([x.1.1])))) λI=>(bF (((x.p3==x.p3)&&ai)&&aC (al (x.q4++([x.1.1]))) (al (x.q4++([x.1.1])))&&ai) (bF (cY 0 (bn .i64 ((aY I.p2.2)-1))&&fX (bn .i64 ((aY I.p2.2)-1)) (al I.p2.2)) (af (I.q3,I.1,I.2.1,aj,(dA (aS (bn .i64 ((aY I.p2.2)-1))) I.p2.2))))))))
mutual
def dH:Nat->afo->Option YV
 |0,_=>ah
 |n+1,x=>mA (dH n) (eL n) (dZ n) x
def eL:Nat->YW->Option ac8
 |0,_=>ah
 |n+1,x=>nV (dH n) (eL n) (dZ n) x
def dZ:Nat->afn->Option ac9
 |0,_=>ah
 |n+1,x=>mB (dH n) (eL n) (dZ n) x
end
def qr (x:(Int×Int)×yR×fQ×Bool×List (List UInt8)):Option YV:=dH fuel x
def oK (x:List Int):Option (sd×List sa):=
 (obind (sr ()) λy1=>(obind (bx (3,x,0)) λy2=>(iter (σ:=Int×yR×sd×ca×fQ×SX×List sa) (λM=>(bB M.1 (bn .i64 (2+y2.1)) (kF (.str) M.p3 M.1 λz4=>(jn (α:=yR×sd×ca×fw×fQ×SX×(List sa)×ca×List Sx) (bd M.1 0 (iter (σ:=Int×yR×sd×ca×fw×fQ×SX×(List sa)×ca×List Sx) (λY=>(bB Y.1 (bn .i64 (2+y2.1)) (kF (.str) Y.p3 Y.1 λz7=>(bF (bc (al Y.q9+al ([nO (12,0,z7,[],([]:List Xp),eh (0,0,[],([]:List Xp)),([]:List Sx),([]:List Sx))])) 176) (cK ((cC Y.1),Y.2.1,Y.p2,Y.p3,Y.p4,Y.p5,Y.p6,Y.p7,Y.p8,(Y.q9++([nO (12,0,z7,[],([]:List Xp),eh (0,0,[],([]:List Xp)),([]:List Sx),([]:List Sx))])))))) (aF (bW Y.2)))) (1,(M.1,M.2.1.2),M.p2,M.p3,(z4,0),M.p4,M.p5,M.q6,[[97],[98]],([]:List Sx))) (aF ((M.1,M.2.1.2),M.p2,M.p3,(z4,0),M.p4,M.p5,M.q6,[[97],[98]],([]:List Sx)))) λU=>(obind (bx (3,U.p4)) λy8=>(obind (qr ((2,(bn .i64 (1+y8.1))),U.1,y8.2,U.p5)) λZ=>(bF (((U.p5.1==U.p5.1)&&ai)&&aC (al U.p5.2) (al U.p5.2)&&ai) (bF (bc (al U.q8+al Z.q3) 176) (jn (α:=yR×sd×ca×fw×fQ×SX×(List sa)×ca×List Sx) (jn (α:=Bool×yR×sd×ca×fw×fQ×SX×(List sa)×ca×List Sx) (bd M.1 0 (obind (bx (3,Z.2.1)) λy12=>(aF ((decide ((y12.1:Int)=2)),Z.1,U.2.1,U.p2,U.p3,y12.2,Z.p2,U.p6,U.p7,(U.q8++Z.q3)))) (aF (aj,Z.1,U.2.1,U.p2,U.p3,Z.2.1,Z.p2,U.p6,U.p7,(U.q8++Z.q3)))) λI=>(bcase I.1 (kF (.str) I.p3 1 λz13=>(bF (bc (al I.q9+al ([nO (13,0,z13,[],([]:List Xp),eh (0,0,[],([]:List Xp)),([]:List Sx),([]:List Sx))])) 176) (aF (I.2.1,I.p2,I.p3,I.p4,I.p5,I.p6,I.p7,I.p8,(I.q9++([nO (13,0,z13,[],([]:List Xp),eh (0,0,[],([]:List Xp)),([]:List Sx),([]:List Sx))])))))) (aF I.2))) λJ=>(bF (bc (al J.p6+al ([(J.p3.1,J.p3.2,J.q7)])) 72) (cK ((cC M.1),J.1,J.2.1,J.p2,J.p4,J.p5,(J.p6++([(J.p3.1,J.p3.2,J.q7)])))))))))))) (obind (obind (fo (M.p2,M.q6)) λy14=>(iF y14.1 0 (obind (sr ()) λy15=>(obind (rx 1) λy16=>(obind (jr ([120],y16)) λy17=>(af (y15,[([109,97,105,110],0,[[97],[98]],[ep y17])]))))) (af (M.p2,M.q6)))) λr=>af (bW r)))) (0,(0,20,aj,aj,aj,aj),y1,[[109,97,105,110],[116,49],[116,50],[116,51]],y2.2,(ai,([]:List (List UInt8))),([]:List sa)))))
def xw (x:List Int):Option z_:=
 (obind (oK x) λJ=>(obind (qp J) λI=>(af I.1)))
def su (x:(List Int)×List Int):Option (dJ×List gm):=
 (obind (xw x.1) λM=>(obind (oL x.2) λJ=>(obind (ze (M,J)) λI=>(af I.1))))
def nG (x:Unit):Option dJ:=
 (iter (σ:=Int×gX×gG×(List fw)×ca×ca×List (Int×Int×Int)) (λJ=>(bB J.1 (aQ (al ([[109,97,105,110],[116,49],[116,50],[116,51]]))) (iter (σ:=Int×gX×gG×(List fw)×ca×ca×List (Int×Int×Int)) (λI=>(bB I.1 6 (bF (bc (al I.q6+al ([(J.1,I.1,(bn .i64 ((bn .i64 ((bn .i64 (10*J.1))+I.1))+1)))])) 24) (cK ((cC I.1),I.2.1,I.p2,I.p3,I.p4,I.p5,(I.q6++([(J.1,I.1,(bn .i64 ((bn .i64 ((bn .i64 (10*J.1))+I.1))+1)))]))))) (aF (oS ((cC J.1),I.2))))) (0,J.2)) (aF J.2))) (0,[([120],0,0,aj,0),([121],0,0,aj,1),([118],0,0,ai,0),([113],0,2,aj,0),([113],1,2,aj,0)],[([109],aj),([110],aj),([114],ai)],[([99],0)],[[102]],[[109,97,105,110],[116,49],[116,50],[116,51]],([]:List (Int×Int×Int))))
def kY (x:pa×(List Int)×(List Int)×List Int):Option (List Int):=
 (iter (σ:=Int×List Int) (λI=>(bB I.1 (aY x.1.q3) (jn (α:=List Int) (bI ie x.1.q3 I.1 λJ=>(bd J.1 3 (bF (bc (al I.2+al ([I.1])) 8) (aF (I.2++([I.1])))) (aF I.2))) λM=>(cK ((cC I.1),M))) (aF I.2))) (0,([]:List Int)))
def tG (x:Unit):Option (List Int):=
 (af ([3,3,3,3,3,4,4,4,4,4,5,5,5,6,6,6,7,7,7,8,9,10,11,12,13,14,14,15,16,16,17,17,18,18,19,20,1,1,2,21,22,23,23]))
def oH (x:(Int×Int)×(List Int)×Int):Option (Int×(List Int)×Int):=
 (jn (α:=Bool×(List Int)×Int) (bd x.1.1 3 (aF ((decide ((x.1.1:Int)=3)),x.2)) (aF ((decide ((x.1.1:Int)=4)),x.2))) λU=>(bcase U.1 (obind (bx (8,U.2)) λy2=>(kF aM ([0,0,0,1,1,2,3,4]) y2.1 λz3=>(af (z3,y2.2)))) (jn (α:=Bool×(List Int)×Int) (bd x.1.1 6 (aF ((decide ((x.1.1:Int)=6)),U.2)) (aF ((decide ((x.1.1:Int)=7)),U.2))) λJ=>(bcase J.1 (obind (bx (2,J.2)) λy5=>(af y5)) (jn (α:=Bool×(List Int)×Int) (bd x.1.1 8 (aF ((decide ((x.1.1:Int)=8)),J.2)) (bd x.1.1 9 (aF ((decide ((x.1.1:Int)=9)),J.2)) (bd x.1.1 10 (aF ((decide ((x.1.1:Int)=10)),J.2)) (aF ((decide ((x.1.1:Int)=11)),J.2))))) λI=>(bcase I.1 (af (2,I.2)) (jn (α:=Bool×(List Int)×Int) (bd x.1.1 16 (aF ((decide ((x.1.1:Int)=16)),I.2)) (bd x.1.1 17 (aF ((decide ((x.1.1:Int)=17)),I.2)) (bd x.1.1 18 (aF ((decide ((x.1.1:Int)=18)),I.2)) (bd x.1.1 19 (aF ((decide ((x.1.1:Int)=19)),I.2)) (bd x.1.1 22 (aF ((decide ((x.1.1:Int)=22)),I.2)) (aF ((decide ((x.1.1:Int)=23)),I.2))))))) λM=>(bcase M.1 (af (0,M.2)) (jn (α:=Bool×(List Int)×Int) (bd x.1.1 20 (aF ((decide ((x.1.1:Int)=20)),M.2)) (aF ((decide ((x.1.1:Int)=21)),M.2))) λY=>(bcase Y.1 (obind (bx (3,Y.2)) λZ=>(af ((Ag (bn .i64 ((cC x.1.2)+Z.1)) 4),Z.2))) (af ((-1),Y.2))))))))))))
def qh (x:(eO×Int×Int)×(List Int)×Int):Option (Int×(List Int)×Int):=
 (bd x.1.2.1 3 (bI aM x.1.1.2.1 x.1.2.2 λZ=>(af (Z,x.2))) (bd x.1.2.1 23 (bI aM x.1.1.p2 0 λY=>(af (Y,x.2))) (jn (α:=Bool×fQ×pa×(List Int)×(List Int)×List Int) (bd x.1.2.1 4 (aF ((decide ((x.1.2.1:Int)=4)),x.2,x.1.1)) (aF ((decide ((x.1.2.1:Int)=22)),x.2,x.1.1))) λI=>(bcase I.1 (obind (bx (3,I.2.1)) λy4=>(af y4)) (bd x.1.2.1 5 (obind (bx (2,I.2.1)) λy5=>(af y5)) (bd x.1.2.1 18 (obind (kY I.2.2) λJ=>(bB 0 (aY J) (obind (bx ((aY J),I.2.1)) λM=>(bI aM J M.1 λU=>(af (U,M.2)))) (af ((-1),I.2.1)))) (bd x.1.2.1 19 (obind (kY I.2.2) λy9=>(af ((aY y9),I.2.1))) (af (0,I.2.1)))))))))
def gB (x:fQ×List Int):Option ((List Int)×fQ×List Int):=
 (iter (σ:=Int×fQ×(List Int)×List Int) (λI=>(bB I.1 (aY x.2) (jn (α:=fQ×(List Int)×List Int) (kF aM I.p2 I.1 λM=>(jn (α:=Bool×fQ×(List Int)×List Int) (jZ (aY I.p2) (bn .i64 (I.1+3)) (obind (bx (2,I.2.1)) λU=>(aF ((decide ((U.1:Int)=1)),U.2,I.2.2))) (aF (aj,I.2))) λJ=>(bcase J.1 (bF (bc (al J.q3+al ([M])) 8) (aF (J.2.1,J.p2,(J.q3++([M]))))) (aF J.2)))) λY=>(cK ((cC I.1),Y))) (aF (I.q3,I.2.1,I.p2)))) (0,x.1,x.2,([]:List Int)))
def qi (x:(eO×gX×gG×(List fw)×ca×ca×List (Int×Int×Int))×fQ×(List Int)×(List Int)×(List Int)×List Int):Option (gm×fQ×(List Int)×(List Int)×(List Int)×List Int):=
 (obind (bx (4,x.2.1)) λU=>(obind (tG ()) λy2=>(obind (bx ((aY y2),U.2)) λy3=>(bI aM y2 y3.1 λz4=>(obind (bx (6,y3.2)) λy5=>(jn (α:=fQ×(List Int)×(List Int)×(List Int)×(List Int)×eO×dJ×vT×Int×Int×Int×Int×Int) (jn (α:=Bool×fQ×(List Int)×(List Int)×(List Int)×(List Int)×eO×dJ×vT×Int×Int×Int×Int×Int) (bd z4 1 (aF (ai,y5.2,x.p2,x.p3,x.p4,x.q5,x.1.1,x.1.2,(0,0,0,0,0),U.1,z4,0,0,(bn .i64 ((bn .i64 (U.1*6))+y5.1)))) (aF ((decide ((z4:Int)=2)),y5.2,x.p2,x.p3,x.p4,x.q5,x.1.1,x.1.2,(0,0,0,0,0),U.1,z4,0,0,(bn .i64 ((bn .i64 (U.1*6))+y5.1))))) λY=>(bcase Y.1 (aF (Y.2.1,Y.p2,Y.p3,Y.p4,Y.p5,Y.p6,Y.p7,Y.p8,Y.p9,Y.p10,Y.p11,Y.p12,(-1))) (aF Y.2))) λM=>(obind (oH ((M.p9,U.1),M.1)) λy8=>(obind (qh ((M.p5,M.p9,y8.1),y8.2)) λy9=>(jn (α:=fQ×(List Int)×(List Int)×(List Int)×(List Int)×vT×Int×Int×Int×Int×Int×List Int) (jn (α:=Bool×fQ×(List Int)×(List Int)×(List Int)×(List Int)×vT×Int×Int×Int×Int×Int) (bd M.p9 5 (aF (ai,y9.2,M.2.1,M.p2,M.p3,M.p4,M.p7,M.p8,M.p9,y8.1,y9.1,M.q12)) (bd M.p9 3 (bI kB M.p6.1 y8.1 λz12=>(aF ((fX 0 z12.2.2.1),y9.2,M.2.1,M.p2,M.p3,M.p4,M.p7,M.p8,M.p9,y8.1,y9.1,M.q12))) (bd M.p9 4 (bI kB M.p6.1 y8.1 λz13=>(aF ((fX 0 z13.2.2.1),y9.2,M.2.1,M.p2,M.p3,M.p4,M.p7,M.p8,M.p9,y8.1,y9.1,M.q12))) (aF (aj,y9.2,M.2.1,M.p2,M.p3,M.p4,M.p7,M.p8,M.p9,y8.1,y9.1,M.q12))))) λJ=>(bcase J.1 (bd U.1 0 (obind (gB (J.2.1,J.p2)) λy14=>(bF (aC (al J.p2) (al y14.2.2)&&ai) (aF (y14.2.1,y14.2.2,J.p3,J.p4,J.p5,J.p6,J.p7,J.p8,J.p9,J.p10,J.q11,y14.1)))) (bd U.1 1 (obind (gB (J.2.1,J.p3)) λy15=>(bF (aC (al J.p3) (al y15.2.2)&&ai) (aF (y15.2.1,J.p2,y15.2.2,J.p4,J.p5,J.p6,J.p7,J.p8,J.p9,J.p10,J.q11,y15.1)))) (bd U.1 2 (obind (gB (J.2.1,J.p4)) λy16=>(bF (aC (al J.p4) (al y16.2.2)&&ai) (aF (y16.2.1,J.p2,J.p3,y16.2.2,J.p5,J.p6,J.p7,J.p8,J.p9,J.p10,J.q11,y16.1)))) (bd U.1 3 (obind (gB (J.2.1,J.p5)) λy17=>(bF (aC (al J.p5) (al y17.2.2)&&ai) (aF (y17.2.1,J.p2,J.p3,J.p4,y17.2.2,J.p6,J.p7,J.p8,J.p9,J.p10,J.q11,y17.1)))) ah)))) (aF (J.2.1,J.p2,J.p3,J.p4,J.p5,J.p6,J.p7,J.p8,J.p9,J.p10,J.q11,([]:List Int))))) λx10=>(jn (α:=fQ×(List Int)×(List Int)×(List Int)×(List Int)×vT×Int×Int×Int×Int×Int×(List Int)×List Int) (jn (α:=Bool×fQ×(List Int)×(List Int)×(List Int)×(List Int)×vT×Int×Int×Int×Int×Int×List Int) (bd x10.p7 4 (aF (ai,x10)) (aF ((decide ((x10.p7:Int)=22)),x10))) λI=>(bcase I.1 (bd U.1 0 (obind (gB (I.2.1,I.p2)) λy20=>(bF (aC (al I.p2) (al y20.2.2)&&ai) (aF (y20.2.1,y20.2.2,I.p3,I.p4,I.p5,I.p6,I.p7,I.p8,I.p9,I.p10,I.p11,I.q12,y20.1)))) (bd U.1 1 (obind (gB (I.2.1,I.p3)) λy21=>(bF (aC (al I.p3) (al y21.2.2)&&ai) (aF (y21.2.1,I.p2,y21.2.2,I.p4,I.p5,I.p6,I.p7,I.p8,I.p9,I.p10,I.p11,I.q12,y21.1)))) (bd U.1 2 (obind (gB (I.2.1,I.p4)) λy22=>(bF (aC (al I.p4) (al y22.2.2)&&ai) (aF (y22.2.1,I.p2,I.p3,y22.2.2,I.p5,I.p6,I.p7,I.p8,I.p9,I.p10,I.p11,I.q12,y22.1)))) (bd U.1 3 (obind (gB (I.2.1,I.p5)) λy23=>(bF (aC (al I.p5) (al y23.2.2)&&ai) (aF (y23.2.1,I.p2,I.p3,I.p4,y23.2.2,I.p6,I.p7,I.p8,I.p9,I.p10,I.p11,I.q12,y23.1)))) ah)))) (aF (I.2.1,I.p2,I.p3,I.p4,I.p5,I.p6,I.p7,I.p8,I.p9,I.p10,I.p11,I.q12,([]:List Int))))) λZ=>(af (Z.q6,Z.1,Z.2.1,Z.p2,Z.p3,Z.p4))))))))))))
def sj (x:(eO×dJ×Int×Bool)×(List Int)×Int):Option ((List gm)×(List Int)×Int):=
 (bF (cY 0 (aY x.1.2.1.p4)&&cY (aY x.1.2.1.p4) (aY x.1.2.1.p4)&&bc (aS (aY x.1.2.1.p4)) 24&&decide (((aY x.1.2.1.p4):Int)=4)) (jn (α:=fQ×eO×dJ×(List Int)×(List Int)×(List Int)×List Int) (bB 0 (aQ 4) (jn (α:=fQ×eO×dJ×(List Int)×(List Int)×(List Int)×List Int) (jn (α:=Bool×fQ×eO×dJ×(List Int)×(List Int)×(List Int)×List Int) (bcase x.1.q3 (bI aM x.1.1.q3 0 λz4=>(bB 1 z4 (obind (bx (3,x.2)) λy5=>(aF ((decide ((y5.1:Int)=2)),y5.2,x.1.1,x.1.2.1,([]:List Int),([]:List Int),([]:List Int),([]:List Int)))) (aF (aj,x.2,x.1.1,x.1.2.1,([]:List Int),([]:List Int),([]:List Int),([]:List Int))))) (aF (aj,x.2,x.1.1,x.1.2.1,([]:List Int),([]:List Int),([]:List Int),([]:List Int)))) λx3=>(bcase x3.1 (bF (bc (al x3.p4+al ([1])) 8) (aF (x3.2.1,x3.p2,x3.p3,(x3.p4++([1])),x3.q5))) (aF x3.2))) λx2=>(bB 1 (aQ 4) (jn (α:=fQ×eO×dJ×(List Int)×(List Int)×(List Int)×List Int) (jn (α:=Bool×fQ×eO×dJ×(List Int)×(List Int)×(List Int)×List Int) (bcase x.1.q3 (bI aM x2.2.1.q3 1 λz8=>(bB 1 z8 (obind (bx (3,x2.1)) λy9=>(aF ((decide ((y9.1:Int)=2)),y9.2,x2.2))) (aF (aj,x2)))) (aF (aj,x2))) λx7=>(bcase x7.1 (bF (bc (al x7.p5+al ([1])) 8) (aF (x7.2.1,x7.p2,x7.p3,x7.p4,(x7.p5++([1])),x7.q6))) (aF x7.2))) λx6=>(bB 2 (aQ 4) (jn (α:=fQ×eO×dJ×(List Int)×(List Int)×(List Int)×List Int) (jn (α:=Bool×fQ×eO×dJ×(List Int)×(List Int)×(List Int)×List Int) (bcase x.1.q3 (bI aM x6.2.1.q3 2 λz12=>(bB 1 z12 (obind (bx (3,x6.1)) λy13=>(aF ((decide ((y13.1:Int)=2)),y13.2,x6.2))) (aF (aj,x6)))) (aF (aj,x6))) λY=>(bcase Y.1 (bF (bc (al Y.p6+al ([1])) 8) (aF (Y.2.1,Y.p2,Y.p3,Y.p4,Y.p5,(Y.p6++([1])),Y.q7))) (aF Y.2))) λx10=>(bB 3 (aQ 4) (jn (α:=fQ×eO×dJ×(List Int)×(List Int)×(List Int)×List Int) (jn (α:=Bool×fQ×eO×dJ×(List Int)×(List Int)×(List Int)×List Int) (bcase x.1.q3 (bI aM x10.2.1.q3 3 λz16=>(bB 1 z16 (obind (bx (3,x10.1)) λy17=>(aF ((decide ((y17.1:Int)=2)),y17.2,x10.2))) (aF (aj,x10)))) (aF (aj,x10))) λU=>(bcase U.1 (bF (bc (al U.q7+al ([1])) 8) (aF (U.2.1,U.p2,U.p3,U.p4,U.p5,U.p6,(U.q7++([1]))))) (aF U.2))) λx14=>(bB 4 (aQ 4) (jn (α:=fQ×eO×dJ×(List Int)×(List Int)×(List Int)×List Int) (jn (α:=Bool×fQ×eO×dJ×(List Int)×(List Int)×(List Int)×List Int) (bcase x.1.q3 (bI aM x14.2.1.q3 4 λz20=>(bB 1 z20 (obind (bx (3,x14.1)) λy21=>(aF ((decide ((y21.1:Int)=2)),y21.2,x14.2))) (aF (aj,x14)))) (aF (aj,x14))) λx19=>(bcase x19.1 ah (aF x19.2))) λx18=>ah) (aF x14))) (aF x10))) (aF x6))) (aF x2))) (aF (x.2,x.1.1,x.1.2.1,([]:List Int),([]:List Int),([]:List Int),([]:List Int)))) λx1=>(iter (σ:=fQ×eO×dJ×(List gm)×(List Int)×(List Int)×(List Int)×List Int) (λx22=>(jn (α:=Bool×fQ×eO×dJ×(List gm)×(List Int)×(List Int)×(List Int)×List Int) (bB (aY x22.p3) x.1.p2 (aF ((fX x22.1.2 (aY x22.1.1)),x22)) (aF (aj,x22))) λJ=>(bcase J.1 (jn (α:=fQ×eO×dJ×(List gm)×(List Int)×(List Int)×(List Int)×List Int) (obind (qi ((J.p2,J.p3),J.2.1,J.q5)) λM=>(bF (aC (al J.q8) (al M.q5)&&(aC (al J.p7) (al M.p4)&&(aC (al J.p6) (al M.p3)&&(aC (al J.p5) (al M.p2)&&ai)))) (obind (rh (J.p3,J.p2,M.1)) λy26=>(bcase (!y26.2) (aF (M.2.1,J.p2,J.p3,J.p4,M.2.2)) (jn (α:=fQ×eO×dJ×(List gm)×gm×eO×(List Int)×(List Int)×(List Int)×List Int) (jn (α:=Bool×fQ×eO×dJ×(List gm)×gm×eO×(List Int)×(List Int)×(List Int)×List Int) (bd M.1.2.1 3 (aF (ai,M.2.1,J.p2,J.p3,J.p4,M.1,y26.1,M.2.2)) (aF ((decide ((M.1.2.1:Int)=23)),M.2.1,J.p2,J.p3,J.p4,M.1,y26.1,M.2.2))) λI=>(bcase I.1 (bd I.p5.1 0 (bI aM I.p2.q3 0 λz29=>(bF (bc (al I.p7+al ([z29])) 8) (aF (I.2.1,I.p2,I.p3,I.p4,(0,I.p5.2),I.p6,(I.p7++([z29])),I.q8)))) (bd I.p5.1 1 (bI aM I.p2.q3 1 λz30=>(bF (bc (al I.p8+al ([z30])) 8) (aF (I.2.1,I.p2,I.p3,I.p4,(1,I.p5.2),I.p6,I.p7,(I.p8++([z30])),I.q9)))) (bd I.p5.1 2 (bI aM I.p2.q3 2 λz31=>(bF (bc (al I.p9+al ([z31])) 8) (aF (I.2.1,I.p2,I.p3,I.p4,(2,I.p5.2),I.p6,I.p7,I.p8,(I.p9++([z31])),I.q10)))) (bd I.p5.1 3 (bI aM I.p2.q3 3 λz32=>(bF (bc (al I.q10+al ([z32])) 8) (aF (I.2.1,I.p2,I.p3,I.p4,(3,I.p5.2),I.p6,I.p7,I.p8,I.p9,(I.q10++([z32])))))) ah)))) (aF I.2))) λZ=>(bF (bc (al Z.p3+al ([Z.p4])) 88) (aF (Z.1,Z.p5,Z.p2,(Z.p3++([Z.p4])),Z.q6)))))))) λx24=>(cK x24)) (aF (J.p4,J.2.1))))) (x1.1,x1.2.1,x1.p2,([]:List gm),x1.q3))))
def qj (x:(List Int)×Int):Option (dJ×List gm):=
 (jn (α:=List Int) (bB 600 (aY x.1) (bF (cY 0 600&&cY 600 (al x.1)) (aF (dA (aS 600) x.1))) (aF x.1)) λx1=>(obind (nG ()) λy2=>(obind (mM y2) λy3=>(obind (bx (3,x1,0)) λy4=>(iter (σ:=Int×fQ×dJ×eO×List gm) (λJ=>(jZ J.1 (bn .i64 (1+y4.1)) (bF (bc (al J.q4+al ([(0,20,J.1,0,0,([]:List Int),([]:List Int)),(J.1,1,(-1),0,(-1),([]:List Int),([]:List Int))])) 88) (cK ((cC J.1),J.2.1,J.p2,J.p3,(J.q4++([(0,20,J.1,0,0,([]:List Int),([]:List Int)),(J.1,1,(-1),0,(-1),([]:List Int),([]:List Int))]))))) (obind (iter (σ:=Int×fQ×dJ×eO×(List gm)×List gm) (λI=>(bB I.1 (aY J.q4) (jn (α:=fQ×dJ×eO×(List gm)×List gm) (kF jt I.p4 I.1 λU=>(obind (rh (I.p2,I.p3,U)) λy9=>(bcase y9.2 (bF (bc (al I.q5+al ([U])) 88) (aF (I.2.1,I.p2,y9.1,I.p4,(I.q5++([U]))))) (aF I.2)))) λx7=>(cK ((cC I.1),x7))) (obind (obind (sj ((I.p3,I.p2,(Ha (jL x.2 0) 60),aj),I.2.1)) λM=>(bF (bc (al I.q5+al M.1) 88) (obind (uf (I.p2,(I.q5++M.1))) λZ=>(iF Z.2 0 (obind (nG ()) λY=>(af (Y,([]:List gm)))) (af (I.p2,(I.q5++M.1))))))) λr=>af (bW r)))) (0,J.2.1,J.p2,J.p3,J.q4,([]:List gm))) λr=>af (bW r)))) (1,y4.2,y2,y3,[(0,1,(-1),0,(-1),([]:List Int),([]:List Int))]))))))
def kZ (x:((List Int)×(List Int)×List Int)×Int):Option (dJ×List gm):=
 (bB 0 (aY x.1.2.2) (obind (qj (x.1.2.2,x.2)) λJ=>(af J)) (bF (cY 0 (Ha (aY x.1.2.1) x.2)&&cY (Ha (aY x.1.2.1) x.2) (al x.1.2.1)) (obind (su (x.1.1,(dA (aS (Ha (aY x.1.2.1) x.2)) x.1.2.1))) λI=>(af I))))
end
end Go.Proofs.YtgijlolllojpaaaGreatDoor.AI
