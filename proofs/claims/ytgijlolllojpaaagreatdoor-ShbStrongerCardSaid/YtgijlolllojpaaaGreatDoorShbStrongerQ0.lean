/-
  Texts of the proof, part 1 of 6: what is used to prove the statement. No condition.
-/
import Derived.WalkKit
import Derived.Lib.Hide
import Derived.Deep.QuietTactic
namespace Prod
variable {A0 A1 A2 A3 A4 A5 A6 A7 A8 A9 A10 A11 A12 A13 A14 A15 A16 A17 A18 A19 A20 A21 A22 A23 A24:Type}
abbrev p2 (x:A0×A1×A2×A3):A2:=x.2.2.1
abbrev p3 (x:A0×A1×A2×A3×A4):A3:=x.2.2.2.1
abbrev q3 (x:A0×A1×A2×A3):A3:=x.2.2.2
abbrev p4 (x:A0×A1×A2×A3×A4×A5):A4:=x.2.2.2.2.1
abbrev q4 (x:A0×A1×A2×A3×A4):A4:=x.2.2.2.2
abbrev p5 (x:A0×A1×A2×A3×A4×A5×A6):A5:=x.2.2.2.2.2.1
abbrev q5 (x:A0×A1×A2×A3×A4×A5):A5:=x.2.2.2.2.2
abbrev p6 (x:A0×A1×A2×A3×A4×A5×A6×A7):A6:=x.2.2.2.2.2.2.1
abbrev q6 (x:A0×A1×A2×A3×A4×A5×A6):A6:=x.2.2.2.2.2.2
abbrev p7 (x:A0×A1×A2×A3×A4×A5×A6×A7×A8):A7:=x.2.2.2.2.2.2.2.1
abbrev q7 (x:A0×A1×A2×A3×A4×A5×A6×A7):A7:=x.2.2.2.2.2.2.2
abbrev p8 (x:A0×A1×A2×A3×A4×A5×A6×A7×A8×A9):A8:=x.2.2.2.2.2.2.2.2.1
abbrev q8 (x:A0×A1×A2×A3×A4×A5×A6×A7×A8):A8:=x.2.2.2.2.2.2.2.2
abbrev p9 (x:A0×A1×A2×A3×A4×A5×A6×A7×A8×A9×A10):A9:=x.2.2.2.2.2.2.2.2.2.1
abbrev q9 (x:A0×A1×A2×A3×A4×A5×A6×A7×A8×A9):A9:=x.2.2.2.2.2.2.2.2.2
abbrev p10 (x:A0×A1×A2×A3×A4×A5×A6×A7×A8×A9×A10×A11):A10:=x.2.2.2.2.2.2.2.2.2.2.1
abbrev q10 (x:A0×A1×A2×A3×A4×A5×A6×A7×A8×A9×A10):A10:=x.2.2.2.2.2.2.2.2.2.2
abbrev p11 (x:A0×A1×A2×A3×A4×A5×A6×A7×A8×A9×A10×A11×A12):A11:=x.2.2.2.2.2.2.2.2.2.2.2.1
abbrev q11 (x:A0×A1×A2×A3×A4×A5×A6×A7×A8×A9×A10×A11):A11:=x.2.2.2.2.2.2.2.2.2.2.2
abbrev p12 (x:A0×A1×A2×A3×A4×A5×A6×A7×A8×A9×A10×A11×A12×A13):A12:=x.2.2.2.2.2.2.2.2.2.2.2.2.1
abbrev q12 (x:A0×A1×A2×A3×A4×A5×A6×A7×A8×A9×A10×A11×A12):A12:=x.2.2.2.2.2.2.2.2.2.2.2.2
abbrev p13 (x:A0×A1×A2×A3×A4×A5×A6×A7×A8×A9×A10×A11×A12×A13×A14):A13:=x.2.2.2.2.2.2.2.2.2.2.2.2.2.1
abbrev q13 (x:A0×A1×A2×A3×A4×A5×A6×A7×A8×A9×A10×A11×A12×A13):A13:=x.2.2.2.2.2.2.2.2.2.2.2.2.2
abbrev p14 (x:A0×A1×A2×A3×A4×A5×A6×A7×A8×A9×A10×A11×A12×A13×A14×A15):A14:=x.2.2.2.2.2.2.2.2.2.2.2.2.2.2.1
abbrev p15 (x:A0×A1×A2×A3×A4×A5×A6×A7×A8×A9×A10×A11×A12×A13×A14×A15×A16):A15:=x.2.2.2.2.2.2.2.2.2.2.2.2.2.2.2.1
abbrev p16 (x:A0×A1×A2×A3×A4×A5×A6×A7×A8×A9×A10×A11×A12×A13×A14×A15×A16×A17):A16:=x.2.2.2.2.2.2.2.2.2.2.2.2.2.2.2.2.1
abbrev q16 (x:A0×A1×A2×A3×A4×A5×A6×A7×A8×A9×A10×A11×A12×A13×A14×A15×A16):A16:=x.2.2.2.2.2.2.2.2.2.2.2.2.2.2.2.2
abbrev p17 (x:A0×A1×A2×A3×A4×A5×A6×A7×A8×A9×A10×A11×A12×A13×A14×A15×A16×A17×A18):A17:=x.2.2.2.2.2.2.2.2.2.2.2.2.2.2.2.2.2.1
abbrev q17 (x:A0×A1×A2×A3×A4×A5×A6×A7×A8×A9×A10×A11×A12×A13×A14×A15×A16×A17):A17:=x.2.2.2.2.2.2.2.2.2.2.2.2.2.2.2.2.2
abbrev p18 (x:A0×A1×A2×A3×A4×A5×A6×A7×A8×A9×A10×A11×A12×A13×A14×A15×A16×A17×A18×A19):A18:=x.2.2.2.2.2.2.2.2.2.2.2.2.2.2.2.2.2.2.1
abbrev q18 (x:A0×A1×A2×A3×A4×A5×A6×A7×A8×A9×A10×A11×A12×A13×A14×A15×A16×A17×A18):A18:=x.2.2.2.2.2.2.2.2.2.2.2.2.2.2.2.2.2.2
abbrev p19 (x:A0×A1×A2×A3×A4×A5×A6×A7×A8×A9×A10×A11×A12×A13×A14×A15×A16×A17×A18×A19×A20):A19:=x.2.2.2.2.2.2.2.2.2.2.2.2.2.2.2.2.2.2.2.1
abbrev p20 (x:A0×A1×A2×A3×A4×A5×A6×A7×A8×A9×A10×A11×A12×A13×A14×A15×A16×A17×A18×A19×A20×A21):A20:=x.2.2.2.2.2.2.2.2.2.2.2.2.2.2.2.2.2.2.2.2.1
abbrev q21 (x:A0×A1×A2×A3×A4×A5×A6×A7×A8×A9×A10×A11×A12×A13×A14×A15×A16×A17×A18×A19×A20×A21):A21:=x.2.2.2.2.2.2.2.2.2.2.2.2.2.2.2.2.2.2.2.2.2
end Prod
namespace Go.Proofs.YtgijlolllojpaaaGreatDoor.AI
open Go.RowKit
set_option maxRecDepth 100000
set_option maxHeartbeats 4000000
set_option linter.unusedVariables false
set_option linter.unusedSimpArgs false
open Act renaming put→NQ
open _root_.Array renaming length_toList→iF,replicate→oG
open _root_.Bool renaming true→ai,false→aj
open _root_.Int renaming ofNat→aQ,toNat→aS,tmod→Ak
open IntKind renaming wrap→o8
open _root_.List renaming length→al,replicate→aG,range→dl,take→dF,length_singleton→dV,getElem?_cons_zero→qT
open _root_.Nat renaming beq→aC,testBit→aN,ble→eQ,blt→gk,min→iZ
open Oper renaming wp→HQ
open _root_.Option renaming some→af,none→ah,bind_some→aH
open Region renaming wanted→iQ,binds→Ah,ready→HP
open _root_.Sum renaming inr→bX,inl→oY
open World renaming shape?→rV,cell?→NI
noncomputable section
abbrev aA:=@if_neg
abbrev aE:=@if_pos
abbrev aO:=@decide_eq_true
abbrev bf:=@of_decide_eq_true
abbrev bt:=@decide_eq_true_eq
abbrev bz:=@decide_eq_false
abbrev bG:=@if_true
abbrev cS:=@beq_self_eq_true
abbrev cU:=@beq_iff_eq
abbrev cV:=@absurd
abbrev dc:=@decide_false
abbrev dY:=@decide_true
abbrev ep:=@if_false
abbrev gf:=@or_false
abbrev gQ:=@congrArg
abbrev BD:=@true_and
abbrev BE:=@of_decide_eq_false
abbrev ZP:=@decide_eq_decide
abbrev ak:=@Option.some.injEq
abbrev av:=@Bool.and_eq_true
abbrev aw:=@Nat.eq_of_beq_eq_true
abbrev ax:=@List.getD_eq_getElem?_getD
abbrev aB:=@List.getElem?_eq_getElem
abbrev aD:=@Prod.mk.injEq
abbrev aL:=@List.mem_singleton
abbrev a8:=@List.getElem?_map
abbrev a_:=@Nat.le_of_ble_eq_true
abbrev ba:=@List.mem_of_getElem?
abbrev bg:=@List.getElem?_eq_some_iff
abbrev bl:=@List.mem_cons
abbrev bm:=@List.length_append
abbrev bu:=@Nat.testBit_or
abbrev bA:=@List.length_take
abbrev bE:=@Nat.ble_eq_true_of_le
abbrev bJ:=@List.getElem?_append_left
abbrev bO:=@Nat.zero_add
abbrev bP:=@List.length_map
abbrev bQ:=@List.mem_append
abbrev bR:=@List.getElem?_eq_none
abbrev bT:=@Nat.le_refl
abbrev bW:=@List.getElem?_append_right
abbrev b9:=@Nat.lt_or_ge
abbrev cw:=@List.not_mem_nil
abbrev cz:=@Bool.false_eq_true
abbrev cF:=@Array.getElem?_eq_some_iff
abbrev cG:=@Nat.mul_le_mul_right
abbrev cH:=@List.getElem?_take
abbrev cI:=@Array.getElem?_toList
abbrev cO:=@List.mem_cons_of_mem
abbrev cP:=@List.map_append
abbrev cR:=@List.take_length
abbrev c8:=@Bool.and_eq_true_iff
abbrev dt:=@Nat.le_trans
abbrev dv:=@List.mem_map
abbrev dC:=@Bool.not_eq_true'
abbrev dE:=@Nat.lt_of_lt_of_le
abbrev dG:=@List.mem_cons_self
abbrev dH:=@List.ext_getElem
abbrev eD:=@List.getElem?_of_mem
abbrev eE:=@Int.le_refl
abbrev eM:=@Int.natCast_nonneg
abbrev eR:=@List.length_replicate
abbrev fg:=@List.take_of_length_le
abbrev fM:=@List.foldl_append
abbrev fO:=@List.flatMap_cons
abbrev gq:=@List.map_cons
abbrev gu:=@List.all_eq_true
abbrev gH:=@List.length_range
abbrev gI:=@List.append_assoc
abbrev gJ:=@Array.getD_eq_getD_getElem?
abbrev gP:=@List.length_eq_zero_iff
abbrev hP:=@List.mem_of_mem_take
abbrev hX:=@List.mem_append_left
abbrev hY:=@List.getElem?_drop
abbrev ia:=@List.append_nil
abbrev ik:=@Nat.ne_of_beq_eq_false
abbrev ir:=@Array.getElem?_eq_getElem
abbrev iG:=@Nat.le_succ_of_le
abbrev iL:=@List.mem_append_right
abbrev iR:=@Option.isSome_iff_exists
abbrev iS:=@Bool.and_self
abbrev iX:=@Option.some.inj
abbrev iY:=@Nat.succ_mul
abbrev i_:=@List.cons.injEq
abbrev ja:=@Bool.or_eq_true
abbrev jV:=@Option.map_eq_some_iff
abbrev jZ:=@Nat.zero_le
abbrev ky:=@List.getElem?_toArray
abbrev kM:=@Nat.or_assoc
abbrev kO:=@List.map_take
abbrev kP:=@Bool.true_and
abbrev lq:=@List.take_append_of_le_length
abbrev lA:=@List.getElem?_replicate
abbrev mj:=@List.getElem?_range
abbrev mL:=@List.length_drop
abbrev nD:=@List.mem_range
abbrev nE:=@List.getElem_range
abbrev nF:=@Bool.false_and
abbrev o6:=@List.take_succ_eq_append_getElem
abbrev o7:=@List.getElem?_set
abbrev pI:=@List.eq_of_mem_replicate
abbrev pZ:=@Array.getElem?_setIfInBounds_ne
abbrev qc:=@List.map_congr_left
abbrev qd:=@List.length_take_le
abbrev qR:=@Nat.lt_succ_self
abbrev qS:=@List.getElem_map
abbrev rW:=@Nat.beq_refl
abbrev rX:=@List.drop_of_length_le
abbrev sQ:=@Nat.min_eq_left
abbrev sR:=@List.length_set
abbrev sT:=@Nat.add_assoc
abbrev s9:=@List.contains_iff_mem
abbrev tH:=@List.size_toArray
abbrev vh:=@List.mem_flatMap
abbrev vi:=@List.getElem_set
abbrev vj:=@List.getElem_mem
abbrev vk:=@List.drop_append
abbrev vO:=@Classical.byContradiction
abbrev wn:=@List.drop_succ_cons
abbrev xo:=@Nat.not_lt_zero
abbrev yO:=@Nat.zero_or
abbrev Ai:=@Nat.lt_succ_of_lt
abbrev Aj:=@List.map_map
abbrev BB:=@List.take_append_drop
abbrev Ct:=@Int.not_lt
abbrev Cw:=@Nat.lt_irrefl
abbrev El:=@List.replicate_succ'
abbrev Em:=@List.getElem?_mapIdx
abbrev Eo:=@List.drop_append_of_le_length
abbrev FP:=@List.sum_append
abbrev FR:=@List.mem_filter
abbrev He:=@Int.toNat_of_nonneg
abbrev HR:=@Nat.sub_self
abbrev HU:=@Nat.mul_comm
abbrev Lk:=@Nat.eq_zero_or_pos
abbrev Lm:=@Array.ext'
abbrev NK:=@Nat.lt_trichotomy
abbrev NL:=@Nat.add_mul
abbrev NP:=@Bool.eq_false_iff
inductive FV where
 |raw (v:Value)
 |sl (cells:List FV) (n:Nat)
 |ptr (cells:List FV) (off:Nat)
 |agg (cells:List FV)
inductive AV where
 |f (x:FV)
 |ptr (id off:Nat)
 |sl (id off n:Nat)
 |row (id sz n:Nat)
 |mp (id:Nat)
 |emp
 |anyb
 |agg (cells:List AV)
 |tup (vs:List AV)
 |clo (g:FuncId) (cap:List AV)
def FV.isCell:FV->Bool
 |.raw v=>v.oneCell'
 |.sl _ _=>ai
 |.ptr _ _=>ai
 |.agg _=>aj
def AV.isCell:AV->Bool
 |.f x=>x.isCell
 |.ptr _ _=>ai
 |.sl _ _ _=>ai
 |.row _ _ _=>ai
 |.mp _=>ai
 |.emp=>ai
 |.clo _ _=>ai
 |_=>aj
inductive nC (O:Nat->Prop) (w:World):FV->Value->Prop
 |raw (v:Value):nC O w (.raw v) v
 |nil (a:Option Addr) (c:Nat) (hc:c<=maxLen):nC O w (.sl [] 0) (.slice a 0 c)
 |sl (cells:List FV) (n c b off:Nat) (us:Nat->Value) (hn:n<=c) (hc:c<=maxLen) (hO:¬O b) (hb:b<w.heap.size)
   (hcl:∀ x∈cells,x.isCell=ai)
   (hu:∀ j,j<cells.length->w.cell? ⟨b,off+j,ah⟩=af (us j)) (hr:∀ (j:Nat) x,cells[j]? =af x->nC O w x (us j)):
   nC O w (.sl cells n) (.slice (af ⟨b,off,ah⟩) n c)
 |ptr (cells:List FV) (o b off:Nat) (us:Nat->Value) (hO:¬O b) (hb:b<w.heap.size)
   (hcl:∀ x∈cells,x.isCell=ai)
   (hu:∀ j,j<cells.length->w.cell? ⟨b,off+j,ah⟩=af (us j)) (hr:∀ (j:Nat) x,cells[j]? =af x->nC O w x (us j)):
   nC O w (.ptr cells o) (.pointer (af ⟨b,off+o,ah⟩))
 |agg (cells:List FV) (vs:List Value) (hl:vs.length=cells.length) (hcl:∀ x∈cells,x.isCell=ai)
   (hr:∀ (j:Nat) x v,cells[j]? =af x->vs[j]? =af v->nC O w x v):nC O w (.agg cells) (.agg vs.toArray)
abbrev PM:=Nat->Option Nat
inductive cM (φ:PM) (O:Nat->Prop) (w:World):AV->Value->Prop
 |f {x:FV} {v:Value} (h:nC O w x v):cM φ O w (.f x) v
 |ptr {id off b:Nat} (h:φ id=af b):cM φ O w (.ptr id off) (.pointer (af ⟨b,off,ah⟩))
 |sl {id off n c b:Nat} (h:φ id=af b) (hn:n<=c) (hc:c<=maxLen):cM φ O w (.sl id off n) (.slice (af ⟨b,off,ah⟩) n c)
 |row {id sz n c b:Nat} (h:φ id=af b) (hn:n<=c) (hc:c<=maxLen) (hs:∃ ty,w.shape? b=af (ty,c*sz)):
   cM φ O w (.row id sz n) (.slice (af ⟨b,0,ah⟩) n c)
 |emp {a:Option Addr}:cM φ O w .emp (.slice a 0 0)
 |anyb {b:Bool}:cM φ O w .anyb (.bool b)
 |mp {id b:Nat} (h:φ id=af b):cM φ O w (.mp id) (.map (af b))
 |agg {cells:List AV} {vs:List Value} (hl:vs.length=cells.length) (hcl:∀ x∈cells,x.isCell=ai)
   (hr:∀ (j:Nat) x v,cells[j]? =af x->vs[j]? =af v->cM φ O w x v):cM φ O w (.agg cells) (.agg vs.toArray)
 |tup {cells:List AV} {vs:List Value} (hl:vs.length=cells.length)
   (hr:∀ (j:Nat) x v,cells[j]? =af x->vs[j]? =af v->cM φ O w x v):cM φ O w (.tup cells) (.tuple vs.toArray)
 |clo {g:FuncId} {cells:List AV} {vs:List Value} (hl:vs.length=cells.length)
   (hr:∀ (j:Nat) x v,cells[j]? =af x->vs[j]? =af v->cM φ O w x v):cM φ O w (.clo g cells) (.func (.func g) #[] vs.toArray)
structure Lf (O:Nat->Prop) (w w':World):Prop where
 os:w'.os=w.os
 tape:w'.tape=w.tape
 output:w'.output=w.output
 size:w.heap.size<=w'.heap.size
 blk:∀ k,k<w.heap.size->¬O k->w'.heap[k]? =w.heap[k]?
 shp:∀ k,k<w.heap.size->w'.shape? k=w.shape? k
theorem Lf.refl (O:Nat->Prop) (w:World):Lf O w w:=⟨rfl,rfl,rfl,bT _,λ_ _ _=>rfl,λ_ _=>rfl⟩
theorem D8 {w w':World} {b:Nat} (h:w'.heap[b]? =w.heap[b]?) (o:Nat):w'.cell? ⟨b,o,ah⟩=w.cell? ⟨b,o,ah⟩:=by
 unfold NI;rw[h]
theorem nC.ext {O O':Nat->Prop} {w w':World} (he:Lf O w w') (J:∀ k,k<w.heap.size->O' k->O k) {x:FV} {v:Value} (h:nC O w x v):nC O' w' x v:=by
 induction h with
 |raw v=>exact .raw v
 |nil a c hc=>exact .nil a c hc
 |sl cells n c b off us hn hc hO hb hcl hu hr I=>
  exact .sl cells n c b off us hn hc (λh=>hO (J b hb h)) (dE hb he.size) hcl (λj hj=>by rw[D8 (he.blk b hb hO)];exact hu j hj) I
 |ptr cells o b off us hO hb hcl hu hr I=>
  exact .ptr cells o b off us (λh=>hO (J b hb h)) (dE hb he.size) hcl (λj hj=>by rw[D8 (he.blk b hb hO)];exact hu j hj) I
 |agg cells vs hl hcl hr I=>exact .agg cells vs hl hcl I
theorem cM.ext {φ φ':PM} {O O':Nat->Prop} {w w':World} (hs:∀ i k,φ i=af k->φ' i=af k) (he:Lf O w w') (J:∀ k,k<w.heap.size->O' k->O k) {x:AV} {v:Value} (h:cM φ O w x v):cM φ' O' w' x v:=by
 induction h with
 |f h=>exact .f (h.ext he J)
 |ptr h=>exact .ptr (hs _ _ h)
 |sl h hn hc=>exact .sl (hs _ _ h) hn hc
 |row h hn hc hsh=>
  obtain⟨ty,hty⟩:=hsh;refine .row (hs _ _ h) hn hc ⟨ty,?_⟩;rw[he.shp _ ?_];exact hty;unfold rV at hty;rcases b9 _ w.heap.size with hlt|hge
  .exact hlt
  .rw[Array.getElem?_eq_none hge] at hty;cases hty
 |emp=>exact .emp
 |anyb=>exact .anyb
 |mp h=>exact .mp (hs _ _ h)
 |agg hl hcl hr I=>exact .agg hl hcl I
 |tup hl hr I=>exact .tup hl I
 |clo hl hr I=>exact .clo hl I
inductive BC where
 |fz (l:List FV)
 |mx (l:List AV)
 |mp (es:List (Value×AV))
 |it (s:ByteArray) (pos:Nat)
def BC.get:BC->Nat->Option AV
 |.fz l,j=>l[j]?.map AV.f
 |.mx l,j=>l[j]?
 |_,_=>ah
def BC.len:BC->Nat
 |.fz l=>l.length
 |.mx l=>l.length
 |_=>0
def BC.isCells:BC->Bool
 |.fz _=>ai
 |.mx _=>ai
 |_=>aj
structure xl where
 ty:TypeId
 c:BC
abbrev HF:=Nat->Option xl
def own (φ:PM) (h:HF) (k:Nat):Prop:=∃ id b,h id=af b/\φ id=af k
def tot (E:Nat->Prop) (φ:PM) (h:HF) (k:Nat):Prop:=E k\/own φ h k
def vN (φ:PM) (O:Nat->Prop) (w:World) (c:BC) (arr:Array Value):Prop:=
 c.len<=arr.size/\∀ j x,c.get j=af x->x.isCell=ai/\∃ v,arr[j]? =af v/\cM φ O w x v
def jB (φ:PM) (O:Nat->Prop) (w:World) (b:xl) (o:Obj):Prop:=
 match b.c with
 |.mp es=>∃ ents clock,o= .map ents clock/\ents.toList.map (·.key)=es.map (·.1)/\∀ (j:Nat) x,es[j]? =af x->∃ m,ents[j]? =af m/\cM φ O w x.2 m.val
 |.it s p=>o= .stringIter s p
 |c=>∃ arr,o= .cells arr b.ty (0,0)/\vN φ O w c arr
def XQ (φ:PM) (O:Nat->Prop) (w:World) (k:Nat) (b:xl):Prop:=∃ o,w.heap[k]? =af o/\jB φ O w b o
theorem XQ.cells {φ:PM} {O:Nat->Prop} {w:World} {k:Nat} {b:xl} (h:XQ φ O w k b) (hc:b.c.isCells=ai):
 ∃ arr,w.heap[k]? =af (.cells arr b.ty (0,0))/\vN φ O w b.c arr:=by
 obtain⟨o,h1,h2⟩:=h;unfold jB at h2;cases hb:b.c with
 |fz l=>rw[hb] at h2;obtain⟨arr,rfl,I⟩:=h2;exact⟨arr,h1,I⟩
 |mx l=>rw[hb] at h2;obtain⟨arr,rfl,I⟩:=h2;exact⟨arr,h1,I⟩
 |mp _=>rw[hb] at hc;cases hc
 |it _ _=>rw[hb] at hc;cases hc
theorem jB.mono {φ φ':PM} {O O':Nat->Prop} {w w':World} (hk:∀ x v,cM φ O w x v->cM φ' O' w' x v) {b:xl} {o:Obj} (h:jB φ O w b o):jB φ' O' w' b o:=by
 unfold jB at h ⊢;cases hb:b.c with
 |fz l=>rw[hb] at h;obtain⟨arr,h1,h2,J⟩:=h;exact⟨arr,h1,h2,λj x I=>by obtain⟨a,v,c,d⟩:=J j x I;exact⟨a,v,c,hk _ _ d⟩⟩
 |mx l=>rw[hb] at h;obtain⟨arr,h1,h2,J⟩:=h;exact⟨arr,h1,h2,λj x I=>by obtain⟨a,v,c,d⟩:=J j x I;exact⟨a,v,c,hk _ _ d⟩⟩
 |mp es=>rw[hb] at h;obtain⟨e,c,h1,h2,J⟩:=h;exact⟨e,c,h1,h2,λj x I=>by obtain⟨m,a,b⟩:=J j x I;exact⟨m,a,hk _ _ b⟩⟩
 |it s p=>rw[hb] at h;exact h
theorem vN.mono {φ φ':PM} {O O':Nat->Prop} {w w':World} (hk:∀ x v,cM φ O w x v->cM φ' O' w' x v) {c:BC} {arr:Array Value} (h:vN φ O w c arr):vN φ' O' w' c arr:=
 ⟨h.1,λj x I=>by obtain⟨a,v,c,d⟩:=h.2 j x I;exact⟨a,v,c,hk _ _ d⟩⟩
def uV (l:List UInt8):FV:=.raw (.string ⟨l.toArray⟩)
def C7:List FV:=[uV [118,97,114],uV [118,111,108,97,116,105,108,101],uV [109,117,116,101,120],uV [114,119,108,111,99,107],uV [99,111,110,100],uV [102,117,116,117,114,101],uV [116,104,114,101,97,100],uV [105,102],uV [101,108,115,101],uV [119,104,105,108,101],uV [108,111,99,107],uV [114,101,97,100],uV [119,114,105,116,101],uV [116,114,97,110,115,97,99,116,105,111,110],uV [97,116,111,109,105,99],uV [119,97,105,116],uV [110,111,116,105,102,121],uV [110,111,116,105,102,121,97,108,108],uV [115,112,97,119,110],uV [106,111,105,110],uV [115,101,116],uV [103,101,116]]
def G (g:Nat):Option (List FV):=if g==0 then af C7 else ah
structure re (φ:PM) (E:Nat->Prop) (h:HF) (w:World):Prop where
 inj:∀ i j b b' k,h i=af b->h j=af b'->φ i=af k->φ j=af k->i=j
 at_:∀ i b,h i=af b->∃ k,φ i=af k/\¬E k/\XQ φ (tot E φ h) w k b
 el:∀ k,E k->k<w.heap.size
 gl:∀ g cells,G g=af cells->nC (tot E φ h) w (.ptr cells 0) (.pointer (af ⟨g,0,ah⟩))
structure jh (φ φ':PM) (h h':HF) (w w':World):Prop where
 sub:∀ i k,φ i=af k->φ' i=af k
 ext:Lf (own φ h) w w'
 own_:∀ k,k<w.heap.size->own φ' h' k->own φ h k
theorem jh.refl (φ:PM) (h:HF) (w:World):jh φ φ h h w w:=⟨λ_ _ h=>h,Lf.refl _ _,λ_ _ h=>h⟩
theorem jh.trans {φ φ' φ'':PM} {h h' h'':HF} {w w' w'':World} (m:jh φ φ' h h' w w') (n:jh φ' φ'' h' h'' w' w''):jh φ φ'' h h'' w w'' where
 sub:=λi k e=>n.sub i k (m.sub i k e)
 ext:=⟨n.ext.os.trans m.ext.os,n.ext.tape.trans m.ext.tape,n.ext.output.trans m.ext.output,dt m.ext.size n.ext.size,
  λk hk I=>(n.ext.blk k (dE hk m.ext.size) (λh=>I (m.own_ k hk h))).trans (m.ext.blk k hk I),
  λk hk=>(n.ext.shp k (dE hk m.ext.size)).trans (m.ext.shp k hk)⟩
 own_:=λk hk h=>m.own_ k hk (n.own_ k (dE hk m.ext.size) h)
theorem Lf.mono {O O':Nat->Prop} {w w':World} (h:Lf O w w') (I:∀ k,O k->O' k):Lf O' w w':=
 ⟨h.os,h.tape,h.output,h.size,λk hk hO=>h.blk k hk (λx=>hO (I k x)),h.shp⟩
theorem jh.keep {φ φ':PM} {h h':HF} {w w':World} (m:jh φ φ' h h' w w') {E:Nat->Prop} {x:AV} {v:Value} (r:cM φ (tot E φ h) w x v):cM φ' (tot E φ' h') w' x v:=
 r.ext m.sub (m.ext.mono λ_ h=>.inr h) λk hk I=>I.elim .inl λo=>.inr (m.own_ k hk o)
theorem jh.keepF {φ φ':PM} {h h':HF} {w w':World} (m:jh φ φ' h h' w w') {E:Nat->Prop} {x:FV} {v:Value} (r:nC (tot E φ h) w x v):nC (tot E φ' h') w' x v:=
 r.ext (m.ext.mono λ_ h=>.inr h) λk hk I=>I.elim .inl λo=>.inr (m.own_ k hk o)
abbrev EF:=Nat->Option AV
def ND (φ:PM) (O:Nat->Prop) (w:World) (e:EF) (a:Act):Prop:=∀ t x,e t=af x->cM φ O w x (a.tmps.getD t undef)
def CS (e:EF) (dst:Option Nat) (x:AV):EF:=λt=>if dst=af t then af x else e t
def eX (h:HF) (wr:List Nat) (nw:HF):HF:=λi=>if i∈wr then nw i else h i
structure BA where
 val:AV
 rd:List Nat
 wr:List Nat
 nw:HF
 N:List Nat
def gR (P:Program) (o:Oper) (e:EF) (h:HF) (f:BA):Prop:=
 ∀ (φ:PM) (E:Nat->Prop) (h':HF) (w:World) (a:Act),(∀ i∈f.rd,h' i=h i)->(∀ i∈f.wr,h' i=h i)->
  (∀ t,.tmp t∈o.op.operands->∀ y,e t=af y->cM φ (tot E φ h') w y (a.tmps.getD t undef))->re φ E h' w->(∀ n∈f.N,φ n=ah)->
  o.wp P a w (λa' w'=>∃ v φ',a'=a.put o.dst v/\jh φ φ' h' (eX h' f.wr f.nw) w w'/\(∀ i k,φ' i=af k->φ i=af k\/i∈f.N)/\
   re φ' E (eX h' f.wr f.nw) w'/\cM φ' (tot E φ' (eX h' f.wr f.nw)) w' f.val v) (λ_ _ _=>False)
def rY:BA:=⟨.f (.raw undef),[],[],λ_=>ah,[]⟩
inductive K2 (P:Program) (ops:Array Oper) (o:Oper) (f:BA) (e:EF) (h:HF):Prop
 |run (hg:o.guard=ah) (ht:gR P o e h f)
 |runG (j t:Nat) (want:Bool) (hg:o.guard=af (j,want)) (hj:(ops[j]?).bind (·.dst)=af t) (he:e t=af (.f (.raw (.bool want)))) (ht:gR P o e h f)
 |skip (j t:Nat) (want:Bool) (hg:o.guard=af (j,want)) (hj:(ops[j]?).bind (·.dst)=af t) (v:Value) (he:e t=af (.f (.raw v))) (hv:v≠ .bool want) (hf:f=rY)
inductive Ag (P:Program) (ops:Array Oper):List (Oper×BA)->EF->HF->EF->HF->Prop
 |nil (e:EF) (h:HF):Ag P ops [] e h e h
 |cons {o:Oper} {f:BA} {r:List (Oper×BA)} {e e':EF} {h h':HF} (hs:K2 P ops o f e h)
   (hr:Ag P ops r (CS e o.dst f.val) (eX h f.wr f.nw) e' h'):Ag P ops ((o,f)::r) e h e' h'
def Lp (S:Nat->Bool):Nat->List (Oper×BA)->EF->EF
 |_,[],e=>e
 |k,(o,f)::r,e=>Lp S (k+1) r (if S k then CS e o.dst f.val else e)
def Cu (S:Nat->Bool):Nat->List (Oper×BA)->HF->HF
 |_,[],h=>h
 |k,(_,f)::r,h=>Cu S (k+1) r (if S k then eX h f.wr f.nw else h)
theorem Ey {S S':Nat->Bool} {t:Nat}:∀ (l:List (Oper×BA)) (k:Nat) (e e':EF),e t=e' t->
 (∀ (j:Nat) o f,l[j]? =af (o,f)->o.dst=af t->S (k+j)=S' (k+j))->Lp S k l e t=Lp S' k l e' t
 |[],_,_,_,he,_=>he
 |(o,f)::r,k,e,e',he,I=>by
  simp only[Lp];refine Ey r (k+1) _ _ ?_ (λj o f hj hd=>by have:=I (j+1) o f (by simpa using hj) hd;rwa [show k+(j+1)=k+1+j from by omega] at this);by_cases hd:o.dst=af t
  .rw[show S k=S' k from by simpa using I 0 o f rfl hd];split
   .simp[CS,hd]
   .exact he
  .split<;>split<;>simp[CS,hd,he]
theorem Ew {S S':Nat->Bool} {t:Nat}:∀ (l:List (Oper×BA)) (k:Nat) (e e':HF),e t=e' t->
 (∀ (j:Nat) o f,l[j]? =af (o,f)->t∈f.wr->S (k+j)=S' (k+j))->Cu S k l e t=Cu S' k l e' t
 |[],_,_,_,he,_=>he
 |(o,f)::r,k,e,e',he,I=>by
  simp only[Cu];refine Ew r (k+1) _ _ ?_ (λj o f hj hd=>by have:=I (j+1) o f (by simpa using hj) hd;rwa [show k+(j+1)=k+1+j from by omega] at this);by_cases hd:t∈f.wr
  .rw[show S k=S' k from by simpa using I 0 o f rfl hd];split
   .simp[eX,hd]
   .exact he
  .split<;>split<;>simp[eX,hd,he]
theorem CF {S:Nat->Bool} {t:Nat}:∀ (l:List (Oper×BA)) (k:Nat) (e:EF),(∀ (j:Nat) o f,l[j]? =af (o,f)->o.dst=af t->S (k+j)=aj)->Lp S k l e t=e t
 |[],_,_,_=>rfl
 |(o,f)::r,k,e,I=>by
  simp only[Lp];rw[CF r (k+1) _ (λj o f hj hd=>by have:=I (j+1) o f (by simpa using hj) hd;rwa [show k+(j+1)=k+1+j from by omega] at this)];split
  .rename_i h;unfold CS;rw[aA];intro hd;have:=I 0 o f rfl hd;simp_all
  .rfl
theorem CE {S:Nat->Bool} {t:Nat}:∀ (l:List (Oper×BA)) (k:Nat) (e:HF),(∀ (j:Nat) o f,l[j]? =af (o,f)->t∈f.wr->S (k+j)=aj)->Cu S k l e t=e t
 |[],_,_,_=>rfl
 |(o,f)::r,k,e,I=>by
  simp only[Cu];rw[CE r (k+1) _ (λj o f hj hd=>by have:=I (j+1) o f (by simpa using hj) hd;rwa [show k+(j+1)=k+1+j from by omega] at this)];split
  .rename_i h;unfold eX;rw[aA];intro hd;have:=I 0 o f rfl hd;simp_all
  .rfl
theorem Qe {S:Nat->Bool} {t:Nat}:∀ (l:List (Oper×BA)) (k i:Nat) (e:EF) (o:Oper) (f:BA),l[i]? =af (o,f)->o.dst=af t->S (k+i)=ai->
 (∀ (j:Nat) o' f',i<j->l[j]? =af (o',f')->o'.dst=af t->S (k+j)=aj)->Lp S k l e t=af f.val
 |[],_,_,_,_,_,h,_,_,_=>by simp at h
 |(o',f')::r,k,0,e,o,f,h,hd,I,hl=>by
  simp only[qT,ak,aD] at h;obtain⟨rfl,rfl⟩:=h;simp only[Lp];rw[CF r (k+1) _ (λj o f hj hd=>by have:=hl (j+1) o f (by omega) (by simpa using hj) hd;rwa [show k+(j+1)=k+1+j from by omega] at this)];simp at I;simp[I,CS,hd]
 |(o',f')::r,k,i+1,e,o,f,h,hd,I,hl=>by
  simp only[Lp];exact Qe r (k+1) i _ o f (by simpa using h) hd (by rwa [show k+1+i=k+(i+1) from by omega])
   (λj o f hij hj hd=>by have:=hl (j+1) o f (by omega) (by simpa using hj) hd;rwa [show k+(j+1)=k+1+j from by omega] at this)
theorem Qd {S:Nat->Bool} {t:Nat}:∀ (l:List (Oper×BA)) (k i:Nat) (e:HF) (o:Oper) (f:BA),l[i]? =af (o,f)->t∈f.wr->S (k+i)=ai->
 (∀ (j:Nat) o' f',i<j->l[j]? =af (o',f')->t∈f'.wr->S (k+j)=aj)->Cu S k l e t=f.nw t
 |[],_,_,_,_,_,h,_,_,_=>by simp at h
 |(o',f')::r,k,0,e,o,f,h,hd,I,hl=>by
  simp only[qT,ak,aD] at h;obtain⟨rfl,rfl⟩:=h;simp only[Cu];rw[CE r (k+1) _ (λj o f hj hd=>by have:=hl (j+1) o f (by omega) (by simpa using hj) hd;rwa [show k+(j+1)=k+1+j from by omega] at this)];simp at I;simp[I,eX,hd]
 |(o',f')::r,k,i+1,e,o,f,h,hd,I,hl=>by
  simp only[Cu];exact Qd r (k+1) i _ o f (by simpa using h) hd (by rwa [show k+1+i=k+(i+1) from by omega])
   (λj o f hij hj hd=>by have:=hl (j+1) o f (by omega) (by simpa using hj) hd;rwa [show k+(j+1)=k+1+j from by omega] at this)
theorem Ag.step {P:Program} {ops:Array Oper}:∀ {l:List (Oper×BA)} {e e':EF} {h h':HF} (_:Ag P ops l e h e' h') (k i:Nat) (o:Oper) (f:BA),l[i]? =af (o,f)->
 K2 P ops o f (Lp (λj=>decide (j<k+i)) k l e) (Cu (λj=>decide (j<k+i)) k l h):=by
 intro l e e' h h' hc;induction hc with
 |nil=>intro k i o f hi;simp at hi
 |@cons o1 I r e e' h h' hs hr J=>
  intro k i o f hi;cases i with
  |zero=>
   simp only[qT,ak,aD] at hi;obtain⟨rfl,rfl⟩:=hi;have e1:Lp (λj=>decide (j<k+0)) k ((o1,I)::r) e=e:=by
    funext t;rw[CF];intro j o f _ _;simp
   have e2:Cu (λj=>decide (j<k+0)) k ((o1,I)::r) h=h:=by
    funext t;rw[CE];intro j o f _ _;simp
   rw[e1,e2];exact hs
  |succ i=>
   have:=J (k+1) i o f (by simpa using hi);simp only[Lp,Cu];rw[show k+(i+1)=k+1+i from by omega];simpa[show k<k+1+i from by omega] using this
theorem Ag.final {P:Program} {ops:Array Oper}:∀ {l:List (Oper×BA)} {e e':EF} {h h':HF} (_:Ag P ops l e h e' h') (k:Nat) (S:Nat->Bool),(∀ j,j<l.length->S (k+j)=ai)->
 Lp S k l e=e'/\Cu S k l h=h':=by
 intro l e e' h h' hc;induction hc with
 |nil=>intro k S _;exact⟨rfl,rfl⟩
 |@cons o1 M r e e' h h' hs hr J=>
  intro k S I;have h0:S k=ai:=by simpa using I 0 (by simp)
  simp only[Lp,Cu,h0,bG];exact J (k+1) S (λj hj=>by have:=I (j+1) (by simpa using hj);rwa [show k+(j+1)=k+1+j from by omega] at this)
theorem P9 {P:Program} {o:Oper} {a:Act} {w:World} {K K':Act->World->Prop} {Q:Exit->Act->World->Prop} (h:∀ a w,K a w->K' a w)
 (hh:o.wp P a w K (λ_ _ _=>False)):o.wp P a w K' Q:=by
 unfold HQ at*
 generalize (execOp a.eval o).run P w=r at*
 cases r with
 |ok n w'=>
  cases n<;>simp only[Oper.upon] at hh ⊢<;>
   first
    |exact h _ _ hh
    |exact Calls.mono hh (λe w'' he=>by
      cases e with
      |returned v=>exact h _ _ he
      |panicked c=>exact he.elim
      |outgrown=>obtain⟨_,_,h⟩:=he;exact h.elim)
    |exact Rows.mono hh (λ_ _ he=>h _ _ he)
 |halt x w'=>cases x<;>simp only[Oper.upon] at hh ⊢<;>first|exact hh.elim|exact hh
inductive Bef (ops:Array Oper):Nat->Nat->Prop
 |one {j:Nat} {o:Oper} {e:Edge} (h:ops[j]? =af o) (he:e∈o.after) (hb:Ah .any e=ai):Bef ops j e.on
 |more {j i:Nat} {o:Oper} {e:Edge} (h:ops[j]? =af o) (he:e∈o.after) (hb:Ah .any e=ai) (hi:Bef ops e.on i):Bef ops j i
structure NIP (ops:Array Oper) (l:List (Oper×BA)):Prop where
 edge:∀ (j:Nat) o,ops[j]? =af o->∀ e∈o.after,Ah .any e=ai->e.on<j
 pair:∀ (i j:Nat) oi fi oj fj,i<j->l[i]? =af (oi,fi)->l[j]? =af (oj,fj)->Bef ops j i\/
  (oi.apart ops oj=ai/\(∀ x∈fi.wr,x∉fj.rd/\x∉fj.wr)/\(∀ x∈fj.wr,x∉fi.rd))
 names:∀ (i j:Nat) oi fi oj fj,i<j->l[i]? =af (oi,fi)->l[j]? =af (oj,fj)->∀ n∈fi.N,n∉fj.N
def FM (ops:Array Oper) (listed:Array Bool):Prop:=∀ (j:Nat) o,ops[j]? =af o->listed.getD j aj=ai->∀ e∈o.after,Ah .any e=ai->listed.getD e.on aj=ai
theorem FM.bef {ops:Array Oper} {listed:Array Bool} (hc:FM ops listed) {j i:Nat} (h:Bef ops j i):listed.getD j aj=ai->listed.getD i aj=ai:=by
 induction h with
 |one h he hb=>intro hj;exact hc _ _ h hj _ he hb
 |more h he hb hi I=>intro hj;exact I (hc _ _ h hj _ he hb)
theorem X0 {ops:Array Oper} {listed:Array Bool} (hc:FM ops listed) {j i:Nat} {o:Oper} (I:ops[j]? =af o) (hr:∀ e∈o.after,Ah .any e=ai->listed.getD e.on aj=ai) (h:Bef ops j i):listed.getD i aj=ai:=by
 cases h with
 |one h he hb=>rw[h] at I;cases I;exact hr _ he hb
 |more h he hb hi=>rw[h] at I;cases I;exact hc.bef hi (hr _ he hb)
theorem sY {listed:Array Bool} {j:Nat} (h:listed.getD j ai=aj):listed.getD j aj=aj/\j<listed.size:=by
 rcases b9 j listed.size with h1|h1
 .simp[h1] at h ⊢;exact h
 .simp[Array.getElem?_eq_none h1] at h
def StP (φ0:PM) (E:Nat->Prop) (e0:EF) (h0:HF) (w0:World) (a0:Act) (l:List (Oper×BA)) (S:Nat->Bool) (a:Act) (w:World):Prop:=
 ∃ φ,jh φ0 φ h0 (Cu S 0 l h0) w0 w/\(∀ i k,φ i=af k->φ0 i=af k\/∃ (j:Nat) (o:Oper) (f:BA),S j=ai/\l[j]? =af (o,f)/\i∈f.N)/\
  re φ E (Cu S 0 l h0) w/\ND φ (tot E φ (Cu S 0 l h0)) w (Lp S 0 l e0) a/\a.defers=a0.defers/\a.tmps.size=a0.tmps.size
theorem IA {a:Act} {dst:Option Tmp} {v:Value} {t:Nat} (hd:∀ d,dst=af d->d<a.tmps.size):(a.put dst v).tmps.getD t undef=if dst=af t then v else a.tmps.getD t undef:=by
 cases dst with
 |none=>simp[NQ]
 |some d=>
  by_cases h:d=t
  .subst h;simp[NQ,hd d rfl]
  .simp[NQ,h,pZ h]
theorem Qt {a:Act} {dst:Option Tmp} {v:Value}:(a.put dst v).tmps.size=a.tmps.size:=by cases dst<;>simp[NQ]
theorem IB {a:Act} {dst:Option Tmp} {v:Value}:(a.put dst v).defers=a.defers:=by cases dst<;>rfl
theorem aah {P:Program} {ops:Array Oper} {l:List (Oper×BA)} {e0 e':EF} {h0 h':HF} {φ0:PM} {E:Nat->Prop} {w0:World} {a0:Act}
 (hl:l.map (·.1)=ops.toList) (hc:Ag P ops l e0 h0 e' h') (ni:NIP ops l) (hfr:∀ (j:Nat) o f,l[j]? =af (o,f)->∀ n∈f.N,φ0 n=ah)
 (hsz:∀ (j:Nat) o,ops[j]? =af o->∀ d,o.dst=af d->d<a0.tmps.size) {listed:Array Bool} (hcl:FM ops listed) {i:Nat} (hi:i∈HP .any ops listed) {Q:Exit->Act->World->Prop} {K:Act->World->Prop}
 (hK:∀ a w,StP φ0 E e0 h0 w0 a0 l (λj=>(listed.setIfInBounds i ai).getD j aj) a w->K a w) {a:Act} {w:World} (hst:StP φ0 E e0 h0 w0 a0 l (λj=>listed.getD j aj) a w):
 wpOp P ops Q i K a w:=by
 obtain⟨hun,o,ho,hdeps⟩:=mem_ready.1 hi;obtain⟨hnf,hlt⟩:=sY hun;have hln:∀ (j:Nat) o',ops[j]? =af o'->∃ f,l[j]? =af (o',f):=λj o' h=>by
  have h1:(l.map (·.1))[j]? =af o':=by rw[hl];simpa using h
  rw[a8] at h1;cases hj:l[j]? with
  |none=>rw[hj] at h1;cases h1
  |some p=>rw[hj] at h1;obtain⟨a,b⟩:=p;simp at h1;subst h1;exact⟨b,rfl⟩
 have hnl:∀ (j:Nat) o' f,l[j]? =af (o',f)->ops[j]? =af o':=λj o' f h=>by
  have h1:(l.map (·.1))[j]? =af o':=by rw[a8,h];rfl
  rw[hl] at h1;simpa using h1
 obtain⟨f,hf⟩:=hln i o ho;have hord:∀ (j:Nat) oj fj,j≠i->l[j]? =af (oj,fj)->(listed.getD j aj=decide (j<i))\/
  (o.apart ops oj=ai\/oj.apart ops o=ai)/\(∀ x∈f.wr,x∉fj.rd/\x∉fj.wr)/\(∀ x∈fj.wr,x∉f.rd/\x∉f.wr):=by
  intro j oj fj hji hj;rcases b9 j i with h|h
  .rcases ni.pair j i oj fj o f h hj hf with hb|⟨h1,h2,h3⟩
   .left;rw[X0 hcl ho hdeps hb];simp[h]
   .right;exact⟨.inr h1,λx I=>⟨h3 x I,λU=>(h2 x U).2 I⟩,λx I=>h2 x I⟩
  .have h:i<j:=by omega
   rcases ni.pair i j o f oj fj h hf hj with hb|⟨h1,h2,h3⟩
   .left;have:listed.getD j aj=aj:=by
     cases I:listed.getD j aj with
     |false=>rfl
     |true=>have:=hcl.bef hb I;rw[hnf] at this;cases this
    rw[this];simp;omega
   .right;exact⟨.inl h1,λx I=>h2 x I,λx I=>⟨h3 x I,λU=>(h2 x U).2 I⟩⟩
 have J:∀ j,(listed.setIfInBounds i ai).getD j aj=if j=i then ai else listed.getD j aj:=λj=>by
  by_cases h:i=j
  .subst h;simp[hlt]
  .rw[getD_set_ne aj h,aA (λe=>h e.symm)]
 have hlater:∀ (j:Nat) oj fj,i<j->l[j]? =af (oj,fj)->(listed.getD j aj=aj)\/((o.apart ops oj=ai\/oj.apart ops o=ai)/\(∀ x∈f.wr,x∉fj.rd/\x∉fj.wr)):=by
  intro j oj fj hij hj;rcases hord j oj fj (by omega) hj with h|⟨h1,h2,_⟩
  .left;rw[h];simp;omega
  .right;exact⟨h1,h2⟩
 have hdd:∀ {x y:Oper},(x.apart ops y=ai\/y.apart ops x=ai)->∀ d,x.dst=af d->y.dst≠af d:=by
  intro x y h d hd he;rcases h with h|h
  .exact (Oper.apart_spec h).2.1 d hd he
  .exact (Oper.apart_spec h).2.1 d he hd
 have hlook:∀ {x y:Oper},(x.apart ops y=ai\/y.apart ops x=ai)->∀ d,y.dst=af d->d∉x.looksAt ops:=by
  intro x y h d hd;rcases h with h|h
  .exact (Oper.apart_spec h).2.2 d hd
  .exact (Oper.apart_spec h).1 d hd
 have heL:∀ t,t∈o.looksAt ops->Lp (λj=>listed.getD j aj) 0 l e0 t=Lp (λj=>decide (j<0+i)) 0 l e0 t:=λt ht=>by
  refine Ey l 0 e0 e0 rfl λj oj fj hj hd=>?_
  simp only[bO];by_cases hji:j=i
  .subst hji;rw[hnf];simp
  .rcases hord j oj fj hji hj with h|⟨h,_⟩
   .exact h
   .exact cV ht (hlook h t hd)
 have hhL:∀ t,t∈f.rd\/t∈f.wr->Cu (λj=>listed.getD j aj) 0 l h0 t=Cu (λj=>decide (j<0+i)) 0 l h0 t:=λt ht=>by
  refine Ew l 0 h0 h0 rfl λj oj fj hj hd=>?_
  simp only[bO];by_cases hji:j=i
  .subst hji;rw[hnf];simp
  .rcases hord j oj fj hji hj with h|⟨_,_,h⟩
   .exact h
   .rcases ht with ht|ht
    .exact cV ht (h t hd).1
    .exact cV ht (h t hd).2
 have hE':∀ t,Lp (λj=>(listed.setIfInBounds i ai).getD j aj) 0 l e0 t=if o.dst=af t then af f.val else Lp (λj=>listed.getD j aj) 0 l e0 t:=λt=>by
  by_cases hd:o.dst=af t
  .rw[aE hd];refine Qe l 0 i e0 o f hf hd (by simp[J]) λj o' f' hij hj M=>?_
   simp only[bO,J,aA (show ¬j=i by omega)];rcases hlater j o' f' hij hj with h|⟨h,_⟩
   .exact h
   .exact cV M (hdd h t hd)
  .rw[aA hd];refine Ey l 0 e0 e0 rfl λj oj fj hj M=>?_
   simp only[bO,J];rw[aA];intro hji;subst hji;rw[hf] at hj;cases hj;exact hd M
 have Y:Cu (λj=>(listed.setIfInBounds i ai).getD j aj) 0 l h0=eX (Cu (λj=>listed.getD j aj) 0 l h0) f.wr f.nw:=by
  funext t;unfold eX;by_cases hd:t∈f.wr
  .rw[aE hd];refine Qd l 0 i h0 o f hf hd (by simp[J]) λj o' f' hij hj M=>?_
   simp only[bO,J,aA (show ¬j=i by omega)];rcases hlater j o' f' hij hj with h|⟨_,h⟩
   .exact h
   .exact cV M (h t hd).2
  .rw[aA hd];refine Ew l 0 h0 h0 rfl λj oj fj hj M=>?_
   simp only[bO,J];rw[aA];intro hji;subst hji;rw[hf] at hj;cases hj;exact hd M
 obtain⟨φ,hm,hdom,hrep,henv,hdef,hsize⟩:=hst;have hfrN:∀ n∈f.N,φ n=ah:=λn hn=>by
  cases I:φ n with
  |none=>rfl
  |some k=>
   rcases hdom n k I with h|⟨j,oj,fj,hSj,hj,hnj⟩
   .rw[hfr i o f hf n hn] at h;cases h
   .have hji:j≠i:=by intro h;subst h;exact cV hSj (by simp only[hnf];simp)
    rcases b9 j i with h|h
    .exact cV hn (ni.names j i oj fj o f h hj hf n hnj)
    .exact cV hnj (ni.names i j o f oj fj (by omega) hf hj n hn)
 have hdsz:∀ d,o.dst=af d->d<a.tmps.size:=λd hd=>by rw[hsize];exact hsz i o ho d hd
 have main:∀ (v:Value) (φ':PM) (w':World),jh φ φ' (Cu (λj=>listed.getD j aj) 0 l h0) (eX (Cu (λj=>listed.getD j aj) 0 l h0) f.wr f.nw) w w'->
  (∀ i k,φ' i=af k->φ i=af k\/i∈f.N)->re φ' E (eX (Cu (λj=>listed.getD j aj) 0 l h0) f.wr f.nw) w'->
  cM φ' (tot E φ' (eX (Cu (λj=>listed.getD j aj) 0 l h0) f.wr f.nw)) w' f.val v->K (a.put o.dst v) w':=by
  intro v φ' w' m1 d1 r1 v1;refine hK _ _ ⟨φ',?_,?_,?_,?_,?_,?_⟩
  .rw[Y];exact hm.trans m1
  .intro i' k h;rcases d1 i' k h with h|h
   .rcases hdom i' k h with h|⟨j,oj,fj,hSj,hj,hnj⟩
    .exact .inl h
    .refine .inr ⟨j,oj,fj,?_,hj,hnj⟩;show (listed.setIfInBounds i ai).getD j aj=ai;rw[J j];split
     .rfl
     .exact hSj
   .exact .inr ⟨i,o,f,(J i).trans (by simp),hf,h⟩
  .rw[Y];exact r1
  .rw[Y];intro t x I;rw[hE' t] at I;rw[IA hdsz];by_cases hd:o.dst=af t
   .rw[aE hd] at I ⊢;cases I;exact v1
   .rw[aA hd] at I ⊢;exact m1.keep (henv t x I)
  .rw[IB];exact hdef
  .rw[Qt];exact hsize
 have hstep:=hc.step 0 i o f hf;have hrun:gR P o (Lp (λj=>decide (j<0+i)) 0 l e0) (Cu (λj=>decide (j<0+i)) 0 l h0) f->o.wp P a w K Q:=by
  intro ht;refine P9 ?_ (ht φ E (Cu (λj=>listed.getD j aj) 0 l h0) w a (λt h=>hhL t (.inl h)) (λt h=>hhL t (.inr h)) ?_ hrep hfrN)
  .rintro a' w' ⟨v,φ',rfl,m1,d1,r1,v1⟩;exact main v φ' w' m1 d1 r1 v1
  .intro t ht' y hy;refine henv t y ?_;rw[heL t (hX _ (List.mem_filterMap.2 ⟨.tmp t,by simpa using ht',rfl⟩))];exact hy
 have hyield:∀ (j t:Nat) (want b:Bool),o.guard=af (j,want)->(ops[j]?).bind (·.dst)=af t->Lp (λj=>decide (j<0+i)) 0 l e0 t=af (.f (.raw (.bool b)))->iQ o (yielded ops a.tmps)=(b==want):=by
  intro j t want b hg hj he;rw[<- heL t (iL _ (by rw[hg];simp[hj]))] at he;have h1:=henv t _ he;have h2:a.tmps.getD t undef= .bool b:=by
   generalize Z:a.tmps.getD t undef=z at h1;cases h1 with
   |f h=>cases h;rfl
  have h3:a.tmps[t]? =af (.bool b):=by
   rw[gJ] at h2;cases Z:a.tmps[t]? with
   |none=>rw[Z] at h2;simp[undef] at h2
   |some z=>rw[Z] at h2;simp at h2;rw[h2]
  unfold iQ yielded;rw[hg];simp[hj,h3]
 unfold wpOp;simp only[ho];cases hstep with
 |run hg ht=>
  rw[aE (by unfold iQ;rw[hg])];exact .inl (hrun ht)
 |runG j t want hg hj he ht=>
  rw[aE (by rw[hyield j t want want hg hj he];simp)];exact .inl (hrun ht)
 |skip j t want hg hj v he hv hf'=>
  have hnw:iQ o (yielded ops a.tmps)=aj:=by
   rw[<- heL t (iL _ (by rw[hg];simp[hj]))] at he;have h1:=henv t _ he;have h2:a.tmps.getD t undef=v:=by
    generalize a.tmps.getD t undef=z at h1;cases h1 with
    |f h=>cases h;rfl
   unfold iQ yielded;rw[hg];simp only[hj,aH];rw[gJ] at h2;cases Z:a.tmps[t]? with
   |none=>simp
   |some z=>
    rw[Z] at h2;simp at h2;subst h2;cases z<;>simp at hv ⊢;exact hv
  rw[aA (by rw[hnw];simp)];subst hf';have hu:eX (Cu (λj=>listed.getD j aj) 0 l h0) rY.wr rY.nw=Cu (λj=>listed.getD j aj) 0 l h0:=by
   funext t;simp[eX,rY]
  refine main undef φ w ?_ (λ_ _ h=>.inl h) ?_ ?_
  .rw[hu];exact jh.refl _ _ _
  .rw[hu];exact hrep
  .exact .f (.raw _)
theorem YO {l:List Bool}:∀ {i:Nat},l[i]? =af aj->(l.set i ai).countP id=l.countP id+1:=by
 induction l with
 |nil=>intro i h;simp at h
 |cons b l I=>
  intro i h;cases i with
  |zero=>simp at h;subst h;simp
  |succ i=>
   simp only[List.set_cons_succ,List.countP_cons];rw[I (by simpa using h)];omega
theorem PH {l:List Bool} (h:l.length<=l.countP id):∀ (j:Nat),j<l.length->l[j]? =af ai:=by
 have h1:l.countP id=l.length:=Nat.le_antisymm List.countP_le_length h;rw[List.countP_eq_length] at h1;intro j hj;rw[aB hj];simpa using h1 _ (vj hj)
theorem V2 {ops:Array Oper} {l:List (Oper×BA)} (J:NIP ops l) {listed:Array Bool} (hs:listed.size=ops.size) (hr:HP .any ops listed=[]):
 ∀ (n j:Nat),j<n->j<ops.size->listed.getD j aj=ai:=by
 intro n;induction n with
 |zero=>intro j h;omega
 |succ n M=>
  intro j hj hjs;cases I:listed.getD j aj with
  |true=>rfl
  |false=>
   exfalso;have hmem:j∈HP .any ops listed:=by
    refine mem_ready.2 ⟨?_,ops[j],ir hjs,λe he hb=>?_⟩
    .have:j<listed.size:=by omega
     simp[this] at I ⊢;exact I
    .have h1:=J.edge j _ (ir hjs) e he hb;exact M e.on (by omega) (by omega)
   rw[hr] at hmem;cases hmem
theorem Nw {P:Program} {ops:Array Oper} {l:List (Oper×BA)} {e0 e':EF} {h0 h':HF} {φ0:PM} {E:Nat->Prop} {w0:World} {a0:Act}
 (hl:l.map (·.1)=ops.toList) (hc:Ag P ops l e0 h0 e' h') (J:NIP ops l) (hfr:∀ (j:Nat) o f,l[j]? =af (o,f)->∀ n∈f.N,φ0 n=ah)
 (hsz:∀ (j:Nat) o,ops[j]? =af o->∀ d,o.dst=af d->d<a0.tmps.size) {Q:Exit->Act->World->Prop}
 (U:∀ a w,StP φ0 E e0 h0 w0 a0 l (λ_=>ai) a w->Q .normal a w):
 ∀ (fuel:Nat) (listed:Array Bool) (a:Act) (w:World),listed.size=ops.size->FM ops listed->ops.size<=fuel+listed.toList.countP id->
  StP φ0 E e0 h0 w0 a0 l (λj=>listed.getD j aj) a w->wpAny P .any ops Q fuel listed a w:=by
 have hlen:l.length=ops.size:=by have:=gQ al hl;simpa using this
 have fin:∀ (listed:Array Bool) (a:Act) (w:World),(∀ j,j<ops.size->listed.getD j aj=ai)->StP φ0 E e0 h0 w0 a0 l (λj=>listed.getD j aj) a w->Q .normal a w:=by
  intro listed a w hall hst;refine U a w ?_;have h1:=hc.final 0 (λj=>listed.getD j aj) (λj hj=>by simp only[bO];exact hall j (by omega));have h2:=hc.final 0 (λ_=>ai) (λ_ _=>rfl);unfold StP at hst ⊢;rw[h1.1,h1.2] at hst;rw[h2.1,h2.2];obtain⟨φ,m,d,r⟩:=hst;refine ⟨φ,m,λi k h=>?_,r⟩;rcases d i k h with h|⟨j,o,f,_,hj,hn⟩
  .exact .inl h
  .exact .inr ⟨j,o,f,rfl,hj,hn⟩
 intro fuel;induction fuel with
 |zero=>
  intro listed a w hs hcl hcnt hst;have hall:∀ j,j<ops.size->listed.getD j aj=ai:=λj hj=>by
   have:=PH (l:=listed.toList) (by simp only[iF];omega) j (by simp only[iF];omega);rw[cI] at this;rw[gJ,this];rfl
  refine ⟨?_,fin listed a w hall hst⟩;cases hr:HP .any ops listed with
  |nil=>rfl
  |cons i r=>
   have hi:i∈HP .any ops listed:=by rw[hr];simp
   obtain⟨hun,o,I,_⟩:=mem_ready.1 hi;have hnf:=(sY hun).1;rw[hall i (cF.1 I).1] at hnf;cases hnf
 |succ fuel M=>
  intro listed a w hs hcl hcnt hst;refine ⟨λhr=>fin listed a w (λj hj=>V2 J hs hr (j+1) j (by omega) hj) hst,λi hi=>?_⟩;obtain⟨hun,o,I,hdeps⟩:=mem_ready.1 hi;obtain⟨hnf,hlt⟩:=sY hun;refine aah hl hc J hfr hsz hcl hi (λa' w' h=>M _ a' w' ?_ ?_ ?_ h) hst
  .simpa using hs
  .intro j oj hoj hj e he hb;by_cases hji:i=j
   .subst hji;rw[I] at hoj;cases hoj;exact getD_set_true (hdeps e he hb)
   .rw[getD_set_ne aj hji] at hj;exact getD_set_true (hcl j oj hoj hj e he hb)
  .have h1:listed.toList[i]? =af aj:=by
    rw[cI,ir hlt];simp[hlt] at hnf;rw[hnf]
   rw[Array.toList_setIfInBounds,YO h1];omega
def ap2 (φ0:PM) (E:Nat->Prop) (e':EF) (h0 h':HF) (N:List Nat) (w0:World) (a0:Act) (a:Act) (w:World):Prop:=
 ∃ φ,jh φ0 φ h0 h' w0 w/\(∀ i k,φ i=af k->φ0 i=af k\/i∈N)/\re φ E h' w/\ND φ (tot E φ h') w e' a/\a.defers=a0.defers/\a.tmps.size=a0.tmps.size
theorem jh.drew {φ:PM} {h:HF} (w:World):jh φ φ h h w {w with drawn:=w.drawn+1}:=
 ⟨λ_ _ h=>h,⟨rfl,rfl,rfl,bT _,λ_ _ _=>rfl,λ_ _=>rfl⟩,λ_ _ h=>h⟩
theorem re.moved {φ:PM} {E:Nat->Prop} {h:HF} {w w':World} (r:re φ E h w) (m:jh φ φ h h w w') (hk:∀ k,own φ h k->w'.heap[k]? =w.heap[k]?):re φ E h w':=
 ⟨r.inj,λi b hb=>by
   obtain⟨k,h1,h2,o,J,I⟩:=r.at_ i b hb;exact⟨k,h1,h2,o,by rw[hk k ⟨i,b,hb,h1⟩];exact J,I.mono λ_ _ h=>m.keep h⟩,λk hk=>dE (r.el k hk) m.ext.size,
   λg cells hg=>m.keepF (r.gl g cells hg)⟩
theorem Qr {P:Program} {ops:Array Oper} {l:List (Oper×BA)} {e0 e':EF} {h0 h':HF} {φ0:PM} {E:Nat->Prop} {w0:World} {a0:Act} {id:Nat} {draw:Bool}
 (hm:P.follows .mixedOrders=ai) (hl:l.map (·.1)=ops.toList) (hc:Ag P ops l e0 h0 e' h') (I:NIP ops l) (hfr:∀ n∈l.flatMap (λp=>p.2.N),φ0 n=ah)
 (hsz:∀ (j:Nat) o,ops[j]? =af o->∀ d,o.dst=af d->d<a0.tmps.size) (hrep:re φ0 E h0 w0) (henv:ND φ0 (tot E φ0 h0) w0 e0 a0) {Q:Exit->Act->World->Prop}
 (Y:∀ a w,ap2 φ0 E e' h0 h' (l.flatMap (λp=>p.2.N)) w0 a0 a w->Q .normal a w):(Code.region id ops draw).wp P Q a0 w0:=by
 have hfr':∀ (j:Nat) o f,l[j]? =af (o,f)->∀ n∈f.N,φ0 n=ah:=λj o f hj n hn=>hfr n (vh.2 ⟨(o,f),ba hj,hn⟩)
 have fin:∀ a w,StP φ0 E e0 h0 w0 a0 l (λ_=>ai) a w->Q .normal a w:=by
  rintro a w ⟨φ,m,d,r,en,Z,sz⟩;have h2:=hc.final 0 (λ_=>ai) (λ_ _=>rfl);rw[h2.2] at m r en;rw[h2.1] at en;refine Y a w ⟨φ,m,λi k h=>?_,r,en,Z,sz⟩;rcases d i k h with h|⟨j,o,f,_,hj,hn⟩
  .exact .inl h
  .exact .inr (vh.2 ⟨(o,f),ba hj,hn⟩)
 have st0:∀ (w:World),jh φ0 φ0 h0 h0 w0 w->re φ0 E h0 w->StP φ0 E e0 h0 w0 a0 l (λj=>(oG ops.size aj).getD j aj) a0 w:=by
  intro w m r;have e1:(λj=>(oG ops.size aj).getD j aj)=λ_=>aj:=by
   funext j;rw[gJ,Array.getElem?_replicate];split<;>rfl
  rw[e1];have e2:Lp (λ_=>aj) 0 l e0=e0:=by funext t;rw[CF];intros;rfl
  have e3:Cu (λ_=>aj) 0 l h0=h0:=by funext t;rw[CE];intros;rfl
  refine ⟨φ0,by rw[e3];exact m,λ_ _ h=>.inl h,by rw[e3];exact r,?_,rfl,rfl⟩;rw[e2,e3];exact λt x U=>m.keep (henv t x U)
 have cl0:FM ops (oG ops.size aj):=by
  intro j o ho hj;rw[gJ,Array.getElem?_replicate] at hj;split at hj<;>simp at hj
 cases draw with
 |true=>
  refine wp_region_any hm ?_;exact Nw hl hc I hfr' hsz fin ops.size _ a0 _ (by simp) cl0 (by omega) (st0 _ (jh.drew w0) (hrep.moved (jh.drew w0) λ_ _=>rfl))
 |false=>
  have hany:=Nw (E:=E) (w0:=w0) hl hc I hfr' hsz fin ops.size _ a0 w0 (by simp) cl0 (by omega) (st0 _ (jh.refl _ _ _) hrep);refine wp_region ?_;have key:∀ (m k:Nat) (listed:Array Bool) (a:Act) (w:World),k+m=ops.size->listed.size=ops.size->(∀ j,j<k->listed.getD j aj=ai)->(∀ j,k<=j->j<ops.size->listed.getD j ai=aj)->
   wpAny P .any ops Q m listed a w->wpOps P ops Q (List.range' k m) a w:=by
   intro m;induction m with
   |zero=>intro k listed a w hk hs h1 h2 h;simpa[wpOps] using h.2
   |succ m M=>
    intro k listed a w hk hs h1 h2 h;rw[List.range'_succ,wpOps_cons];have hkr:k∈HP .any ops listed:=by
     refine mem_ready.2 ⟨h2 k (bT _) (by omega),ops[k]'(by omega),ir (by omega),λe he hb=>?_⟩;exact h1 _ (I.edge k _ (ir (by omega)) e he hb)
    refine wpOp_mono (λa' w' h'=>M (k+1) (listed.setIfInBounds k ai) a' w' (by omega) (by simpa using hs) ?_ ?_ h') (h.2 k hkr)
    .intro j hj;by_cases hjk:k=j
     .subst hjk;simp[show k<listed.size by omega]
     .rw[getD_set_ne aj hjk];exact h1 j (by omega)
    .intro j hj J;rw[getD_set_ne ai (by omega)];exact h2 j (by omega) J
  have:=key ops.size 0 (oG ops.size aj) a0 w0 (by omega) (by simp) (by intro j hj;omega) (by
   intro j _ hj;rw[gJ,Array.getElem?_replicate,aE hj];rfl) hany
  rwa [List.range_eq_range']
inductive PT (α:Type) where
 |leaf
 |node (v:Option α) (l r:PT α)
namespace PT
variable {α:Type}
def get:PT α->Nat->Option α
 |leaf,_=>ah
 |node v l r,n=>match n with
  |0=>v
  |m+1=>if aC (m%2) 0 then get l (m/2) else get r (m/2)
def N9:Nat->PT α->Nat->Option α->PT α
 |0,t,_,_=>t
 |k+1,t,n,x=>match t with
  |leaf=>(match n with
   |0=>node x leaf leaf
   |m+1=>if aC (m%2) 0 then node ah (N9 k leaf (m/2) x) leaf else node ah leaf (N9 k leaf (m/2) x))
  |node v l r=>(match n with
   |0=>node x l r
   |m+1=>if aC (m%2) 0 then node v (N9 k l (m/2) x) r else node v l (N9 k r (m/2) x))
def set (t:PT α) (n:Nat) (x:Option α):PT α:=N9 (n+1) t n x
theorem zC:∀ (k:Nat) (t:PT α) (n:Nat) (x:Option α),n<k->∀ i,(N9 k t n x).get i=if i=n then x else t.get i
 |0,_,_,_,h,_=>cV h (xo _)
 |k+1,t,n,x,h,i=>by
  cases n with
  |zero=>
   cases t<;>cases i<;>simp[N9,get]
  |succ m=>
   have hm:m/2<k:=by have:=Nat.div_le_self m 2;omega
   cases t with
   |leaf=>
    simp only[N9];cases hb:aC (m%2) 0 with
    |true=>
     have J:m%2=0:=aw hb;simp only[bG];cases i with
     |zero=>simp[get]
     |succ j=>
      simp only[get];cases hj:aC (j%2) 0 with
      |true=>
       have I:j%2=0:=aw hj;simp only[bG];rw[zC k _ _ _ hm];by_cases he:j/2=m/2
       .rw[aE he,aE (by omega)]
       .rw[aA he,aA (by omega)];rfl
      |false=>
       have I:¬j%2=0:=ik hj;simp only[cz,ep];rw[aA (by omega)]
    |false=>
     have J:¬m%2=0:=ik hb;simp only[cz,ep];cases i with
     |zero=>simp[get]
     |succ j=>
      simp only[get];cases hj:aC (j%2) 0 with
      |true=>
       have I:j%2=0:=aw hj;simp only[bG];rw[aA (by omega)]
      |false=>
       have I:¬j%2=0:=ik hj;simp only[cz,ep];rw[zC k _ _ _ hm];by_cases he:j/2=m/2
       .rw[aE he,aE (by omega)]
       .rw[aA he,aA (by omega)];rfl
   |node v l r=>
    simp only[N9];cases hb:aC (m%2) 0 with
    |true=>
     have J:m%2=0:=aw hb;simp only[bG];cases i with
     |zero=>simp[get]
     |succ j=>
      simp only[get];cases hj:aC (j%2) 0 with
      |true=>
       have I:j%2=0:=aw hj;simp only[bG];rw[zC k _ _ _ hm];by_cases he:j/2=m/2
       .rw[aE he,aE (by omega)]
       .rw[aA he,aA (by omega)]
      |false=>
       have I:¬j%2=0:=ik hj;simp only[cz,ep];rw[aA (by omega)]
    |false=>
     have J:¬m%2=0:=ik hb;simp only[cz,ep];cases i with
     |zero=>simp[get]
     |succ j=>
      simp only[get];cases hj:aC (j%2) 0 with
      |true=>
       have I:j%2=0:=aw hj;simp only[bG];rw[aA (by omega)]
      |false=>
       have I:¬j%2=0:=ik hj;simp only[cz,ep];rw[zC k _ _ _ hm];by_cases he:j/2=m/2
       .rw[aE he,aE (by omega)]
       .rw[aA he,aA (by omega)]
theorem get_set (t:PT α) (n:Nat) (x:Option α) (i:Nat):(t.set n x).get i=if i=n then x else t.get i:=zC (n+1) t n x (by omega) i
def mask {β:Type}:PT α->PT β->PT α
 |leaf,_=>leaf
 |node _ _ _,leaf=>leaf
 |node v l r,node u J I=>node (match u with|some _=>v|none=>ah) (mask l J) (mask r I)
def mk:Option α->PT α->PT α->PT α
 |none,leaf,leaf=>leaf
 |v,l,r=>node v l r
def only (m:Nat):Nat->Nat->PT α->PT α
 |_,_,leaf=>leaf
 |a,b,node v l r=>mk (if aN m b then v else ah) (only m (2*a) (a+b) l) (only m (2*a) (2*a+b) r)
def exc (m:Nat):Nat->Nat->PT α->PT α
 |_,_,leaf=>leaf
 |a,b,node v l r=>mk (if aN m b then ah else v) (exc m (2*a) (a+b) l) (exc m (2*a) (2*a+b) r)
def merge (m:Nat):Nat->Nat->PT α->PT α->PT α
 |a,b,leaf,t=>only m a b t
 |a,b,node v l r,leaf=>exc m a b (node v l r)
 |a,b,node v l r,node I M J=>mk (if aN m b then I else v) (merge m (2*a) (a+b) l M) (merge m (2*a) (2*a+b) r J)
def all (p:Nat->α->Bool):Nat->Nat->PT α->Bool
 |_,_,leaf=>ai
 |a,b,node v l r=>(match v with|some x=>p b x|none=>ai)&&all p (2*a) (a+b) l&&all p (2*a) (2*a+b) r
theorem get_all (p:Nat->α->Bool):∀ (t:PT α) (a b i:Nat) (x:α),all p a b t=ai->t.get i=af x->p (a*i+b) x=ai
 |leaf,_,_,_,_,_,h=>by simp[get] at h
 |node v l r,a,b,0,x,h,I=>by
  simp only[get] at I;subst I;simp only[all,av] at h;rw[Nat.mul_zero,bO];exact h.1.1
 |node v l r,a,b,j+1,x,h,I=>by
  simp only[all,av] at h;simp only[get] at I;cases hj:aC (j%2) 0 with
  |true=>
   have J:j%2=0:=aw hj;simp only[hj,bG] at I;have key:=get_all p l _ _ _ x h.1.2 I;have:2*a*(j/2)+(a+b)=a*(j+1)+b:=by
    have e:j=2*(j/2):=by omega
    calc 2*a*(j/2)+(a+b)=a*(2*(j/2))+a+b:=by rw[HU 2 a,Nat.mul_assoc];omega
     _=a*(j+1)+b:=by rw[<- e,Nat.mul_add];omega
   rw[this] at key;exact key
  |false=>
   have J:¬j%2=0:=ik hj;simp only[hj,cz,ep] at I;have key:=get_all p r _ _ _ x h.2 I;have:2*a*(j/2)+(2*a+b)=a*(j+1)+b:=by
    have e:j=2*(j/2)+1:=by omega
    have h2:a*(j+1)=a*(2*(j/2))+2*a:=by
     calc a*(j+1)=a*(2*(j/2)+2):=by rw[show j+1=2*(j/2)+2 from by omega]
      _=a*(2*(j/2))+2*a:=by rw[Nat.mul_add];omega
    have M:2*a*(j/2)=a*(2*(j/2)):=by rw[HU 2 a,Nat.mul_assoc]
    omega
   rw[this] at key;exact key
def dom:Nat->Nat->PT α->Nat->Nat
 |_,_,leaf,acc=>acc
 |a,b,node v l r,acc=>dom (2*a) (a+b) l (dom (2*a) (2*a+b) r (match v with|some _=>acc|||(1<<<b)|none=>acc))
def emp:PT α:=leaf
end PT
abbrev Af:=PT AV
abbrev ol:=PT xl
abbrev NW:=List (Nat×xl)
def Af.put (e:Af):Option Nat->AV->Af
 |none,_=>e
 |some d,x=>e.set d (af x)
def jp:NW->HF
 |[],_=>ah
 |(s,x)::r,t=>if aC s t then af x else jp r t
theorem aa8 (e:Af) (d:Option Nat) (x:AV):CS e.get d x=(e.put d x).get:=by
 funext t;cases d with
 |none=>simp[CS,Af.put]
 |some d=>
  simp only[CS,Af.put,PT.get_set,ak];by_cases h:d=t
  .simp[h]
  .rw[aA h,aA (λe=>h e.symm)]
def Ig (acc:List Nat) (s:Nat) (e:Edge):Nat:=if Ah .any e then (s|||2^e.on)|||acc.getD e.on 0 else s
def KN:List Oper->List Nat->List Nat
 |[],acc=>acc
 |o::r,acc=>KN r (acc++[o.after.toList.foldl (Ig acc) 0])
theorem KP {ops:Array Oper} {o:Oper} {k:Nat} {acc:List Nat} (J:ops[k]? =af o) (M:∀ (j:Nat) B,acc[j]? =af B->∀ i,B.testBit i=ai->Bef ops j i):
 ∀ (es:List Edge) (s:Nat),(∀ e∈es,e∈o.after)->(∀ i,s.testBit i=ai->Bef ops k i)->∀ i,(es.foldl (Ig acc) s).testBit i=ai->Bef ops k i
 |[],s,_,hs,i,hi=>hs i hi
 |e::r,s,he,hs,i,hi=>by
  refine KP J M r (Ig acc s e) (λe' h'=>he e' (cO _ h')) (λi hi=>?_) i hi;unfold Ig at hi;split at hi
  .rename_i hb;rw[bu,bu,ja,ja] at hi;rcases hi with (hi|hi)|hi
   .exact hs i hi
   .rw[Nat.testBit_two_pow] at hi;have:e.on=i:=by simpa using hi
    subst this;exact .one J (he e (dG ..)) hb
   .refine .more J (he e (dG ..)) hb ?_;rw[ax] at hi;cases I:acc[e.on]? with
    |none=>rw[I] at hi;simp at hi
    |some C=>rw[I] at hi;exact M _ C I i hi
  .exact hs i hi
theorem Nv {ops:Array Oper}:∀ (rest:List Oper) (acc:List Nat),(∀ (j:Nat),∀ o,rest[j]? =af o->ops[acc.length+j]? =af o)->
 (∀ (j:Nat) B,acc[j]? =af B->∀ i,B.testBit i=ai->Bef ops j i)->∀ (j:Nat) B,(KN rest acc)[j]? =af B->∀ i,B.testBit i=ai->Bef ops j i
 |[],acc,_,I=>I
 |o::r,acc,J,I=>by
  refine Nv r _ (λj o' hj=>?_) ?_
  .rw[bm,dV,show acc.length+1+j=acc.length+(j+1) from by omega];exact J (j+1) o' (by simpa using hj)
  .intro j B hj i hi;rcases b9 j acc.length with h|h
   .rw[bJ h] at hj;exact I j B hj i hi
   .rw[bW h] at hj;have M:j-acc.length=0:=by
     rcases Lk (j-acc.length) with h0|h0
     .exact h0
     .rw[bR (by simp;omega)] at hj;cases hj
    have hjl:j=acc.length:=by omega
    subst hjl;simp at hj;subst hj;have hoo:ops[acc.length]? =af o:=by simpa using J 0 o rfl
    rw[<- Array.foldl_toList] at hi;exact KP hoo I _ 0 (λe he=>by simpa using he) (λi hi=>by simp at hi) i hi
inductive Zi where
 |mv (x:Operand)
 |pick (c a b:Operand)
 |alloc (ty:TypeId) (z:List Value)
 |box (ty:TypeId) (x:Operand)
 |build (z:List Value) (parts:List (Nat×Nat×Operand))
 |bsl (ty:TypeId) (sz len:Nat) (z:List Value) (parts:List (Nat×Nat×Operand))
 |load (sz:Nat) (ag:Bool) (x:Operand)
 |store (sz:Nat) (x v:Operand)
 |nilc (x:Operand)
 |bin (op:BinOp) (x y:Operand)
 |eqs (neg:Bool) (ds:List TypeDesc) (x y:Operand)
 |isnil (neg:Bool) (x:Operand)
 |eqb (neg:Bool) (x y:Operand)
 |not (x:Operand)
 |conv (k:IntKind) (x:Operand)
 |mksl (ty:TypeId) (sz bytes:Nat) (z:List Value) (l c:Operand)
 |slc (sz:Nat) (x:Operand) (lo hi mx:Option Operand)
 |fad (off:Nat) (x:Operand)
 |fld (off sz:Nat) (ag:Bool) (x:Operand)
 |iad (sz:Nat) (x i:Operand)
 |iada (n sz:Nat) (x i:Operand)
 |idx (n sz:Nat) (ag:Bool) (x i:Operand)
 |ext (x:Operand) (i:Nat)
 |len (x:Operand)
 |lens (x:Operand)
 |lenm (x:Operand)
 |max (x y:Operand)
 |min (x y:Operand)
 |sidx (x i:Operand)
 |app (ty:TypeId) (sz bytes:Nat) (s x:Operand)
 |copy (sz:Nat) (d x:Operand)
 |clr (sz:Nat) (z:List Value) (x:Operand)
 |mkf (f:FuncId) (caps:List Operand)
 |mkm
 |lku (str ok:Bool) (z:Value) (x k:Operand)
 |mup (str:Bool) (x k v:Operand)
 |rng (x:Operand)
 |nxt (x:Operand)
 |bad
inductive SI where
 |op (s:Zi)
 |call (f:FuncId) (args:List Operand)
 |callv (x:Operand) (args:List Operand)
def X8 (t:Nat):List Nat->Bool
 |[]=>aj
 |x::r=>aC x t||X8 t r
def KJ:List Value->Bool
 |[]=>ai
 |v::r=>v.oneCell'&&KJ r
def Fv:Value->AV
 |.agg vs=>if KJ vs.toList then .agg (vs.toList.map λv=>.f (.raw v)) else .f (.raw (.agg vs))
 |v=>.f (.raw v)
def mM (e:Af):Operand->Option AV
 |.tmp t=>e.get t
 |.const v=>af (Fv v)
 |.func g=>af (.clo g [])
 |.global g=>match G g with|some cells=>af (.f (.ptr cells 0))|none=>ah
def Xc (e:Af):List Operand->Option (List AV)
 |[]=>af []
 |x::xs=>match mM e x with|some y=>(match Xc e xs with|some I=>af (y::I)|none=>ah)|none=>ah
structure Co where
 val:AV
 rd:List Nat
 wr:List Nat
 nw:NW
 N:List Nat
def Co.eff (r:Co):BA:=⟨r.val,r.rd,r.wr,jp r.nw,r.N⟩
def rv (x:AV):Option Co:=af ⟨x,[],[],[],[]⟩
def raw (v:Value):AV:=.f (.raw v)
def pkV (ok:Bool) (v:AV) (b:Bool):AV:=match ok with|true=>.tup [v,raw (.bool b)]|false=>v
def yf:List AV->Option (List FV)
 |[]=>af []
 |.f x::r=>match yf r with|some l=>af (x::l)|none=>ah
 |_::_=>ah
def pB (l:List AV):BC:=match yf l with|some fs=>.fz fs|none=>.mx l
def MM (l:List AV):AV:=match yf l with|some fs=>.f (.agg fs)|none=>.agg l
def splice {α:Type} (l:List α) (off:Nat) (vs:List α):List α:=l.take off++vs++l.drop (off+vs.length)
def BC.toMx:BC->List AV
 |.fz l=>l.map .f
 |.mx l=>l
 |_=>[]
def gL:List AV->Bool
 |[]=>ai
 |x::r=>x.isCell&&gL r
def BC.put (c:BC) (off:Nat) (vs:List AV):Option BC:=
 if c.isCells&&eQ (off+vs.length) c.len&&gL vs then
  match c,yf vs with
  |.fz l,af I=>af (.fz (splice l off I))
  |c,_=>af (.mx (splice c.toMx off vs))
 else ah
def BC.sub? (c:BC) (off sz:Nat):Bool->Option AV
 |false=>match sz with|1=>c.get off|_=>ah
 |true=>match c with
  |.fz l=>if eQ (off+sz) l.length then af (.f (.agg ((l.drop off).take sz))) else ah
  |.mx l=>if eQ (off+sz) l.length then af (.agg ((l.drop off).take sz)) else ah
  |_=>ah
def AV.cs:AV->List AV
 |.agg l=>l
 |.f (.agg l)=>l.map .f
 |x=>[x]
def Ea (h:ol) (sz:Nat) (ag:Bool):AV->Option Co
 |.ptr id off=>match h.get id with
  |some b=>(match b.c.sub? off sz ag with|some v=>af ⟨v,[id],[],[],[]⟩|none=>ah)
  |none=>ah
 |.f (.ptr cells off)=>(match (BC.fz cells).sub? off sz ag with|some v=>rv v|none=>ah)
 |_=>ah
def KQ (h:ol) (sz:Nat) (v:AV):AV->Option Co
 |.ptr id off=>match h.get id with
  |some b=>if v.cs.length==sz then (match b.c.put off v.cs with|some c=>af ⟨raw undef,[id],[id],[(id,⟨b.ty,c⟩)],[]⟩|none=>ah) else ah
  |none=>ah
 |_=>ah
def zH (cells:List AV) (e:Af):List (Nat×Nat×Operand)->Option (List AV)
 |[]=>af cells
 |(off,sz,x)::r=>match mM e x with
  |some v=>if v.cs.length==sz&&eQ (off+sz) cells.length&&gL v.cs then zH (splice cells off v.cs) e r else ah
  |none=>ah
def cZ (a b:Int):Bool:=decide (a<=b)
def fX (a b:Int):Bool:=decide (a<b)
def Mu (k:IntKind) (n:Int):Int:=
 match k with
 |.i64=>if cZ (-9223372036854775808) n&&cZ n 9223372036854775807 then n else o8 .i64 n
 |.u8=>if cZ 0 n&&cZ n 255 then n else o8 .u8 n
 |k=>o8 k n
def nok:Int->Bool
 |.ofNat k=>aC k k
 |.negSucc k=>aC k k
theorem ama (n:Int):nok n=ai:=by cases n<;>exact rW _
def bn (k:IntKind) (n:Int):Int:=bif nok n then Mu k n else 0
theorem HV (k:IntKind) (n:Int):bn k n=Mu k n:=by unfold bn;rw[ama];rfl
def sh (a b:ByteArray):Bool:=a.data.toList==b.data.toList
def uY (op:BinOp):Value->Value->Option Value
 |.int k a,.int k' b=>if k==k' then
   match op with
   |.add=>af (.int k (bn k (a+b)))
   |.sub=>af (.int k (bn k (a-b)))
   |.mul=>af (.int k (bn k (a*b)))
   |.rem=>if b==0 then ah else af (.int k (a.tmod b))
   |.quo=>if b==0 then ah else af (.int k (bn k (a.tdiv b)))
   |.eql=>af (.bool (a==b))
   |.neq=>af (.bool (a !=b))
   |.lss=>af (.bool (fX a b))
   |.leq=>af (.bool (cZ a b))
   |.gtr=>af (.bool (fX b a))
   |.geq=>af (.bool (cZ b a))
   |_=>ah
  else ah
 |.string a,.string b=>match op with
   |.eql=>af (.bool (sh a b))
   |.neq=>af (.bool !(sh a b))
   |_=>ah
 |_,_=>ah
def xV:TypeDesc->FV->FV->Option Bool
 |.int _,.raw (.int k a),.raw (.int k' b)=>if k==k' then af (a==b) else ah
 |.bool,.raw (.bool a),.raw (.bool b)=>af (a==b)
 |.string,.raw (.string a),.raw (.string b)=>af (sh a b)
 |_,_,_=>ah
def pf:List TypeDesc->List FV->List FV->Option Bool
 |[],[],[]=>af ai
 |d::ds,x::xs,y::I=>match xV d x y with
  |some ai=>pf ds xs I
  |some aj=>af aj
  |none=>ah
 |_,_,_=>ah
def AV.row? (h:ol) (sz:Nat):AV->Option (List AV×Nat×List Nat)
 |.f (.sl cells n)=>if eQ (n*sz) cells.length then af ((cells.take (n*sz)).map .f,n,[]) else ah
 |.f (.raw (.slice ah 0 0))=>af ([],0,[])
 |.emp=>af ([],0,[])
 |.row id sz' n=>if sz'==sz then (match h.get id with|some b=>if b.c.isCells&&eQ (n*sz) b.c.len then af (b.c.toMx.take (n*sz),n,[id]) else ah|none=>ah) else ah
 |.sl id off n=>match h.get id with|some b=>if b.c.isCells&&eQ (off+n*sz) b.c.len then af ((b.c.toMx.drop off).take (n*sz),n,[id]) else ah|none=>ah
 |_=>ah
def AV.slen:AV->Option Nat
 |.f (.sl _ n)=>af n
 |.f (.raw (.slice _ n _))=>af n
 |.emp=>af 0
 |.row _ _ n=>af n
 |.sl _ _ n=>af n
 |_=>ah
def bc (n bytes:Nat):Bool:=eQ n 1099511627776&&eQ (n*bytes) 1099511627776
def repl (z:List Value):Nat->List FV
 |0=>[]
 |n+1=>z.map .raw++repl z n
def As:Value->Bool
 |.slice ah 0 0=>ai
 |_=>aj
def I8:AV->Bool
 |.emp=>ai
 |.f (.raw v)=>As v
 |_=>aj
def tM (k:Value):List (Value×AV)->Option (Option AV)
 |[]=>af ah
 |(k',v)::r=>match uY .eql k k' with
  |some (.bool ai)=>af (af v)
  |some (.bool aj)=>tM k r
  |_=>ah
def zl (k:Value) (v:AV):List (Value×AV)->Option (List (Value×AV))
 |[]=>af [(k,v)]
 |(k',I)::r=>match uY .eql k k' with
  |some (.bool ai)=>af ((k,v)::r)
  |some (.bool aj)=>(match zl k v r with|some J=>af ((k',I)::J)|none=>ah)
  |_=>ah
def zn:Bool->Value->Bool
 |false,.int _ _=>ai
 |true,.string _=>ai
 |_,_=>aj
def eU (s:Zi) (e:Af) (h:ol) (nx:Nat):Option Co:=
 match s with
 |.mv x=>match mM e x with|some v=>rv v|none=>ah
 |.pick c a b=>match mM e c with
  |some (.f (.raw (.bool t)))=>(match mM e (if t then a else b) with|some v=>rv v|none=>ah)
  |_=>ah
 |.alloc ty z=>af ⟨.ptr nx 0,[],[nx],[(nx,⟨ty,.fz (z.map .raw)⟩)],[nx]⟩
 |.box ty x=>match mM e x with
  |some v=>if gL v.cs then af ⟨.ptr nx 0,[],[nx],[(nx,⟨ty,pB v.cs⟩)],[nx]⟩ else ah
  |none=>ah
 |.build z parts=>match zH (z.map raw) e parts with|some cs=>rv (MM cs)|none=>ah
 |.bsl ty sz len z parts=>match zH ((repl z len).map .f) e parts with
  |some cs=>af ⟨if len=0 then .emp else .row nx sz len,[],[nx],[(nx,⟨ty,pB cs⟩)],[nx]⟩
  |none=>ah
 |.load sz ag x=>match mM e x with|some p=>Ea h sz ag p|none=>ah
 |.store sz x v=>match mM e x,mM e v with|some p,af y=>KQ h sz y p|_,_=>ah
 |.nilc x=>match mM e x with
  |some (.ptr id off)=>rv (.ptr id off)
  |some (.f (.ptr cells off))=>rv (.f (.ptr cells off))
  |some (.clo g cap)=>rv (.clo g cap)
  |_=>ah
 |.bin op x y=>match mM e x,mM e y with
  |some (.f (.raw u)),af (.f (.raw v))=>(match uY op u v with|some r=>rv (raw r)|none=>ah)
  |_,_=>ah
 |.eqs neg ds x y=>match mM e x,mM e y with
  |some (.f (.agg a)),af (.f (.agg b))=>(match pf ds a b with|some r=>rv (raw (.bool (r !=neg)))|none=>ah)
  |_,_=>ah
 |.eqb neg x y=>match mM e x,mM e y with
  |some (.f (.raw (.bool a))),af (.f (.raw (.bool b)))=>rv (raw (.bool ((a==b) !=neg)))
  |_,_=>ah
 |.isnil neg x=>match mM e x with
  |some (.row _ _ _)=>rv (raw (.bool neg))
  |some (.sl _ _ _)=>rv (raw (.bool neg))
  |some (.f (.sl _ (_+1)))=>rv (raw (.bool neg))
  |some (.f (.sl _ 0))=>rv .anyb
  |some .emp=>rv .anyb
  |some (.f (.raw v))=>if As v then rv (raw (.bool !neg)) else ah
  |_=>ah
 |.not x=>match mM e x with|some (.f (.raw (.bool b)))=>rv (raw (.bool !b))|_=>ah
 |.conv k x=>match mM e x with|some (.f (.raw (.int _ n)))=>rv (raw (.int k (bn k n)))|_=>ah
 |.mksl ty sz bytes z l c=>match mM e l,mM e c with
  |some (.f (.raw (.int _ a))),af (.f (.raw (.int _ b)))=>
   if cZ 0 a&&cZ a b&&bc b.toNat bytes then af ⟨.row nx sz a.toNat,[],[nx],[(nx,⟨ty,.fz (repl z a.toNat)⟩)],[nx]⟩ else ah
  |_,_=>ah
 |.slc sz x lo hi mx=>match mM e x with
  |some v=>match lo,hi,mx with
   |none,af (.const (.int _ 0)),af (.const (.int _ 0))=>if v.slen.isSome then rv .emp else ah
   |none,af b,ah=>match v,mM e b with
    |.row id sz' n,af (.f (.raw (.int _ j)))=>if sz'==sz&&cZ 0 j&&cZ j n then (match h.get id with
     |some blk=>if blk.c.isCells&&eQ (n*sz) blk.c.len then af ⟨.row nx sz j.toNat,[id],[nx,id],[(nx,⟨blk.ty,pB (blk.c.toMx.take (j.toNat*sz))⟩)],[nx]⟩ else ah
     |none=>ah) else ah
    |.f (.sl cells n),af (.f (.raw (.int _ j)))=>if cZ 0 j&&cZ j n&&eQ (n*sz) cells.length then rv (.f (.sl (cells.take (j.toNat*sz)) j.toNat)) else ah
    |_,_=>ah
   |some b,ah,ah=>match v,mM e b with
    |.row id sz' n,af (.f (.raw (.int _ j)))=>if sz'==sz&&cZ 0 j&&fX j n then rv (.sl id (j.toNat*sz) (n-j.toNat)) else ah
    |.f (.sl cells n),af (.f (.raw (.int _ j)))=>if cZ 0 j&&cZ j n&&eQ (n*sz) cells.length then rv (.f (.sl ((cells.drop (j.toNat*sz)).take ((n-j.toNat)*sz)) (n-j.toNat))) else ah
    |_,_=>ah
   |_,_,_=>ah
  |none=>ah
 |.fad off x=>match mM e x with
  |some (.ptr id o)=>rv (.ptr id (o+off))
  |some (.f (.ptr cells o))=>rv (.f (.ptr cells (o+off)))
  |_=>ah
 |.fld off sz ag x=>match mM e x with
  |some (.agg l)=>(match (BC.mx l).sub? off sz ag with|some v=>rv v|none=>ah)
  |some (.f (.agg l))=>(match (BC.fz l).sub? off sz ag with|some v=>rv v|none=>ah)
  |_=>ah
 |.iad sz x i=>match mM e x,mM e i with
  |some v,af (.f (.raw (.int _ j)))=>match v with
   |.row id sz' n=>if sz'==sz&&cZ 0 j&&fX j n then rv (.ptr id (j.toNat*sz)) else ah
   |.sl id off n=>if cZ 0 j&&fX j n then rv (.ptr id (off+j.toNat*sz)) else ah
   |.f (.sl cells n)=>if cZ 0 j&&fX j n then rv (.f (.ptr cells (j.toNat*sz))) else ah
   |_=>ah
  |_,_=>ah
 |.iada n sz x i=>match mM e x,mM e i with
  |some v,af (.f (.raw (.int _ j)))=>if cZ 0 j&&fX j n then (match v with
   |.ptr id off=>rv (.ptr id (off+j.toNat*sz))
   |.f (.ptr cells off)=>rv (.f (.ptr cells (off+j.toNat*sz)))
   |_=>ah) else ah
  |_,_=>ah
 |.idx n sz ag x i=>match mM e x,mM e i with
  |some v,af (.f (.raw (.int _ j)))=>if cZ 0 j&&fX j n then (match v with
   |.agg l=>(match (BC.mx l).sub? (j.toNat*sz) sz ag with|some v=>rv v|none=>ah)
   |.f (.agg l)=>(match (BC.fz l).sub? (j.toNat*sz) sz ag with|some v=>rv v|none=>ah)
   |_=>ah) else ah
  |_,_=>ah
 |.ext x i=>match mM e x with|some (.tup l)=>(match l[i]? with|some v=>rv v|none=>ah)|_=>ah
 |.len x=>match mM e x with
  |some v=>(match v.slen with|some n=>rv (raw (.int .i64 n))|none=>ah)
  |none=>ah
 |.lens x=>match mM e x with
  |some (.f (.raw (.string s)))=>rv (raw (.int .i64 s.data.toList.length))
  |_=>ah
 |.lenm x=>match mM e x with
  |some (.mp id)=>(match h.get id with|some ⟨_,.mp es⟩=>af ⟨raw (.int .i64 es.length),[id],[],[],[]⟩|_=>ah)
  |_=>ah
 |.max x y=>match mM e x,mM e y with
  |some (.f (.raw (.int k a))),af (.f (.raw (.int _ b)))=>rv (raw (.int k (if fX a b then b else a)))
  |_,_=>ah
 |.min x y=>match mM e x,mM e y with
  |some (.f (.raw (.int k a))),af (.f (.raw (.int _ b)))=>rv (raw (.int k (if fX b a then b else a)))
  |_,_=>ah
 |.sidx x i=>match mM e x,mM e i with
  |some (.f (.raw (.string s))),af (.f (.raw (.int _ j)))=>if cZ 0 j then (match s.data.toList[j.toNat]? with|some b=>rv (raw (.int .u8 b.toNat))|none=>ah) else ah
  |_,_=>ah
 |.app ty sz bytes s x=>match mM e s,mM e x with
  |some b,af y=>match y.row? h sz with
   |some (src,m,rd)=>match b with
    |.row id sz' n=>match h.get id with
     |some blk=>if sz'==sz&& !(X8 id rd)&&blk.c.isCells&&eQ (n*sz) blk.c.len&&blk.ty==ty&&bc (n+m) bytes then
       af ⟨.row nx sz (n+m),id::rd,[nx,id],[(nx,⟨ty,pB (blk.c.toMx.take (n*sz)++src)⟩)],[nx]⟩ else ah
     |none=>ah
    |b=>if I8 b&&bc m bytes then
      (if m==0 then af ⟨b,rd,[],[],[]⟩ else af ⟨.row nx sz m,rd,[nx],[(nx,⟨ty,pB src⟩)],[nx]⟩) else ah
   |none=>ah
  |_,_=>ah
 |.copy sz d x=>match mM e d,mM e x with
  |some (.row id sz' n),af y=>(match h.get id,y.row? h sz with
   |some blk,af (src,m,rd)=>if sz'==sz&& !(X8 id rd)&&eQ (n*sz) blk.c.len then
     (match blk.c.put 0 (src.take (iZ m n*sz)) with
     |some c=>af ⟨raw (.int .i64 (iZ m n)),id::rd,[id],[(id,⟨blk.ty,c⟩)],[]⟩
     |none=>ah) else ah
   |_,_=>ah)
  |_,_=>ah
 |.clr _ z x=>match mM e x with
  |some (.sl id off n)=>(match h.get id with
   |some blk=>if gk 0 n then (match blk.c.put off ((repl z n).map .f) with
    |some c=>af ⟨.tup [],[id],[id],[(id,⟨blk.ty,c⟩)],[]⟩
    |none=>ah) else ah
   |none=>ah)
  |_=>ah
 |.mkf f caps=>match Xc e caps with|some l=>rv (.clo f l)|none=>ah
 |.mkm=>af ⟨.mp nx,[],[nx],[(nx,⟨0,.mp []⟩)],[nx]⟩
 |.lku str ok z x k=>match mM e x,mM e k with
  |some (.mp id),af (.f (.raw key))=>(match h.get id with
   |some ⟨_,.mp es⟩=>if zn str key then (match tM key es with|some (af v)=>af ⟨pkV ok v ai,[id],[],[],[]⟩|some ah=>af ⟨pkV ok (raw z) aj,[id],[],[],[]⟩|none=>ah) else ah
   |_=>ah)
  |_,_=>ah
 |.mup str x k v=>match mM e x,mM e k,mM e v with
  |some (.mp id),af (.f (.raw key)),af y=>(match h.get id with
   |some ⟨ty,.mp es⟩=>if zn str key then (match zl key y es with|some es'=>af ⟨raw undef,[id],[id],[(id,⟨ty,.mp es'⟩)],[]⟩|none=>ah) else ah
   |_=>ah)
  |_,_,_=>ah
 |.rng x=>match mM e x with
  |some (.f (.raw (.string s)))=>af ⟨.ptr nx 0,[],[nx],[(nx,⟨0,.it s 0⟩)],[nx]⟩
  |_=>ah
 |.nxt x=>match mM e x with
  |some (.ptr id 0)=>(match h.get id with
   |some ⟨ty,.it s p⟩=>(match s.data.toList[p]? with
    |some b=>if gk b.toNat 128 then af ⟨.tup [raw (.bool ai),raw (.int .i64 p),raw (.int .i32 b.toNat)],[id],[id],[(id,⟨ty,.it s (p+1)⟩)],[]⟩ else ah
    |none=>af ⟨.tup [raw (.bool aj)],[id],[id],[(id,⟨ty,.it s p⟩)],[]⟩)
   |_=>ah)
  |_=>ah
 |.bad=>ah
structure sP where
 dst:Option Nat
 op:SI
 guard:Option (Nat×Bool)
inductive SC where
 |skip
 |reg (ops:List sP) (prs:List (Nat×Nat))
 |seq (a b:SC)
 |cond (c:Nat) (a b:SC)
 |block (id:Nat) (b:SC)
 |loop (b:SC)
 |exit (id:Nat)
 |ret
 |defer (f:FuncId) (caps:List Operand) (t:Nat)
 |bad
structure ap1 where
 val:AV
 h:ol
 nx:Nat
 wr:Nat
abbrev XP:=FuncId->List AV->ol->Nat->Option ap1
mutual
def AV.ids:AV->Nat->Nat
 |.ptr id _,acc=>acc|||(1<<<id)
 |.sl id _ _,acc=>acc|||(1<<<id)
 |.row id _ _,acc=>acc|||(1<<<id)
 |.mp id,acc=>acc|||(1<<<id)
 |.agg l,acc=>AV.idsL l acc
 |.tup l,acc=>AV.idsL l acc
 |.clo _ l,acc=>AV.idsL l acc
 |.f _,acc=>acc
 |.emp,acc=>acc
 |.anyb,acc=>acc
def AV.idsL:List AV->Nat->Nat
 |[],acc=>acc
 |x::r,acc=>AV.idsL r (AV.ids x acc)
end
mutual
def AV.all (p:Nat->Bool):AV->Bool
 |.ptr id _=>p id
 |.sl id _ _=>p id
 |.row id _ _=>p id
 |.mp id=>p id
 |.agg l=>AV.allL p l
 |.tup l=>AV.allL p l
 |.clo _ l=>AV.allL p l
 |.f _=>ai
 |.emp=>ai
 |.anyb=>ai
def AV.allL (p:Nat->Bool):List AV->Bool
 |[]=>ai
 |x::r=>AV.all p x&&AV.allL p r
end
def BC.ids:BC->Nat->Nat
 |.mx l,acc=>AV.idsL l acc
 |.mp es,acc=>AV.idsL (es.map (·.2)) acc
 |_,acc=>acc
def BC.all (p:Nat->Bool):BC->Bool
 |.mx l=>AV.allL p l
 |.mp es=>AV.allL p (es.map (·.2))
 |_=>ai
def ol.all (p:Nat->Bool) (h:ol):Bool:=PT.all (λi b=>p i&&b.c.all p) 1 0 h
def Ww:Nat->ol->Nat->Nat->Nat
 |0,_,_,Lw=>Lw
 |n+1,h,todo,Lw=>
  if aC todo 0 then Lw else
  match Nat.log2 todo with
  |id=>if aN Lw id then Ww n h (todo ^^^ (1<<<id)) Lw else
   match h.get id with
   |some b=>Ww n h (b.c.ids (todo ^^^ (1<<<id))) (Lw|||(1<<<id))
   |none=>Ww n h (todo ^^^ (1<<<id)) Lw
section force
variable {α:Type}
def s5 (n:Nat) (k:Nat->α):α:=match n with|0=>k 0|m+1=>k (m+1)
def frcI (n:Int) (k:Int->α):α:=match n with|.ofNat m=>s5 m λm=>k (.ofNat m)|.negSucc m=>s5 m λm=>k (.negSucc m)
def frcB (b:Bool) (k:Bool->α):α:=match b with|true=>k ai|false=>k aj
def frcV (v:Value) (k:Value->α):α:=match v with
 |.int kd n=>frcI n λn=>k (.int kd n)
 |.bool b=>frcB b λb=>k (.bool b)
 |v=>k v
def amj (x:FV) (k:FV->α):α:=match x with
 |.raw v=>frcV v λv=>k (.raw v)
 |.ptr cells off=>s5 off λoff=>k (.ptr cells off)
 |.sl cells n=>s5 n λn=>k (.sl cells n)
 |.agg l=>k (.agg l)
def abm:List FV->(List FV->α)->α
 |[],k=>k []
 |x::r,k=>amj x λx=>abm r λr=>k (x::r)
def ami (x:FV) (k:FV->α):α:=match x with
 |.agg l=>abm l λl=>k (.agg l)
 |x=>amj x k
def ahm (x:AV) (k:AV->α):α:=match x with
 |.f x=>ami x λx=>k (.f x)
 |.ptr id off=>s5 id λid=>s5 off λoff=>k (.ptr id off)
 |.sl id off n=>s5 id λid=>s5 off λoff=>s5 n λn=>k (.sl id off n)
 |.row id sz n=>s5 id λid=>s5 sz λsz=>s5 n λn=>k (.row id sz n)
 |.mp id=>s5 id λid=>k (.mp id)
 |x=>k x
def Rr:List AV->(List AV->α)->α
 |[],k=>k []
 |x::r,k=>ahm x λx=>Rr r λr=>k (x::r)
def amk (x:AV) (k:AV->α):α:=match x with
 |.agg l=>Rr l λl=>k (.agg l)
 |.tup l=>Rr l λl=>k (.tup l)
 |.clo f l=>Rr l λl=>k (.clo f l)
 |x=>ahm x k
def frcC (c:BC) (k:BC->α):α:=match c with
 |.fz l=>abm l λl=>k (.fz l)
 |.mx l=>Rr l λl=>k (.mx l)
 |.it s p=>s5 p λp=>k (.it s p)
 |.mp es=>k (.mp es)
def Rq {β:Type}:PT β->(PT β->α)->α
 |.leaf,k=>k .leaf
 |.node v l r,k=>(match v with
  |none=>λ(k:Option β->α)=>k ah
  |some x=>λk=>k (af x)) λv=>Rq l λl=>Rq r λr=>k (.node v l r)
def T8 {β:Type}:Nat->PT β->Nat->Option β->(PT β->α)->α
 |0,t,_,_,k=>k t
 |f+1,t,n,x,k=>match t with
  |.leaf=>(match n with
   |0=>k (.node x .leaf .leaf)
   |m+1=>if aC (m%2) 0 then s5 (m/2) λq=>T8 f .leaf q x λu=>k (.node ah u .leaf) else s5 (m/2) λq=>T8 f .leaf q x λu=>k (.node ah .leaf u))
  |.node v l r=>(match n with
   |0=>k (.node x l r)
   |m+1=>if aC (m%2) 0 then s5 (m/2) λq=>T8 f l q x λu=>k (.node v u r) else s5 (m/2) λq=>T8 f r q x λu=>k (.node v l u))
theorem OX {β:Type}:∀ (x:PT β) (k:PT β->α),Rq x k=k x
 |.leaf,_=>rfl
 |.node v l r,k=>by cases v<;>simp only[Rq,OX l,OX r]
end force
structure IS where
 e:Af
 h:ol
 nx:Nat
 wr:Nat
structure ai6 where
 val:AV
 rd:Nat
 wr:Nat
 h:ol
 nx:Nat
def bits:List Nat->Nat->Nat
 |[],acc=>acc
 |x::r,acc=>bits r (acc|||(1<<<x))
def aij {α:Type} (h:ol) (nw:NW):List Nat->(ol->α)->α
 |[],k=>k h
 |i::r,k=>match jp nw i with
  |none=>T8 (i+1) h i ah λh=>aij h nw r k
  |some ⟨ty,c⟩=>frcC c λc=>T8 (i+1) h i (af ⟨ty,c⟩) λh=>aij h nw r k
def ahs (call:XP) (f:FuncId) (args:List AV) (h:ol) (nx:Nat):Option ai6:=
 s5 (Ww 1000000 h (AV.idsL args 0) 0) λids=>Rq (PT.only ids 1 0 h) λhc=>
 if AV.allL (gk · nx) args&&ol.all (gk · nx) hc then
  match call f args hc nx with
  |some ⟨val,h',nx',wr⟩=>amk val λval=>s5 nx' λnx'=>s5 wr λwr=>Rq (PT.merge wr 1 0 h h') λhm=>af ⟨val,ids,wr,hm,nx'⟩
  |none=>ah
 else ah
def opA (call:XP) (o:SI) (e:Af) (h:ol) (nx:Nat):Option ai6:=
 match o with
 |.call f args=>match Xc e args with|some l=>ahs call f l h nx|none=>ah
 |.callv x args=>match mM e x,Xc e args with|some (.clo f cap),af l=>ahs call f (l++cap) h nx|_,_=>ah
 |.op o=>match eU o e h nx with
  |some ⟨val,rd,wr,nw,N⟩=>amk val λval=>s5 (bits rd 0) λrd=>s5 (bits wr 0) λI=>s5 (nx+N.length) λnx'=>aij h nw wr λh=>af ⟨val,rd,I,h,nx'⟩
  |none=>ah
def aly (e:Af):Option (Nat×Bool)->Option Bool
 |none=>af ai
 |some (t,want)=>match e.get t with
  |some (.f (.raw (.bool b)))=>af (b==want)
  |some (.f (.raw (.tuple _)))=>af aj
  |_=>ah
def ais {α:Type} (e:Af) (dst:Option Nat) (v:AV) (k:Af->α):α:=match dst with
 |none=>k e
 |some d=>T8 (d+1) e d (af v) k
structure FPm where
 rd:Nat
 wr:Nat
def Ub (call:XP):List sP->IS->Option (IS×List FPm)
 |[],s=>af (s,[])
 |o::r,⟨e,h,nx,wr⟩=>
  match aly e o.guard with
  |some ai=>(match opA call o.op e h nx with
   |some ⟨val,rd,w,h',nx'⟩=>ais e o.dst val λe'=>s5 (wr|||w) λwr'=>(match Ub call r ⟨e',h',nx',wr'⟩ with
    |some (s',fs)=>af (s',⟨rd,w⟩::fs)
    |none=>ah)
   |none=>ah)
  |some aj=>ais e o.dst (raw undef) λe'=>(match Ub call r ⟨e',h,nx,wr⟩ with
   |some (s',fs)=>af (s',⟨0,0⟩::fs)
   |none=>ah)
  |none=>ah
def Yv:List FPm->Nat->Option FPm
 |[],_=>ah
 |f::_,0=>af f
 |_::r,n+1=>Yv r n
def DS (a b:Nat):Bool:=aC (a&&&b) 0
def F1 (fs:List FPm):List (Nat×Nat)->Bool
 |[]=>ai
 |(i,j)::r=>(match Yv fs i,Yv fs j with
  |some a,af b=>DS a.wr b.rd&&DS a.wr b.wr&&DS b.wr a.rd
  |_,_=>aj)&&F1 fs r
inductive Ex where
 |normal
 |exit (id:Nat)
 |ret
def ahj (body:IS->Option (Ex×IS)) (e0:Af):Nat->IS->Option (Ex×IS)
 |0,_=>ah
 |n+1,s=>match body s with
  |some (.normal,⟨e,h,nx,wr⟩)=>Rq (PT.mask e e0) λe=>ahj body e0 n ⟨e,h,nx,wr⟩
  |r=>r
def run (call:XP) (inert:FuncId->Bool) (fuel:Nat):SC->IS->Option (Ex×IS)
 |.skip,s=>af (.normal,s)
 |.reg ops prs,s=>match Ub call ops s with
  |some (s',fs)=>if F1 fs prs then af (.normal,s') else ah
  |none=>ah
 |.seq a b,s=>match run call inert fuel a s with
  |some (.normal,s')=>run call inert fuel b s'
  |r=>r
 |.cond c a b,s=>match s.e.get c with
  |some (.f (.raw (.bool ai)))=>run call inert fuel a s
  |some (.f (.raw (.bool aj)))=>run call inert fuel b s
  |_=>ah
 |.block id b,s=>match run call inert fuel b s with
  |some (.exit i,s')=>if aC i id then af (.normal,s') else af (.exit i,s')
  |r=>r
 |.loop b,s=>ahj (run call inert fuel b) s.e fuel s
 |.exit id,s=>af (.exit id,s)
 |.ret,s=>af (.ret,s)
 |.defer f caps t,⟨e,h,nx,wr⟩=>match Xc e caps with
  |some l=>if inert f then ais e (af t) (.clo f l) λe'=>af (.normal,⟨e',h,nx,wr⟩) else ah
  |none=>ah
 |.bad,_=>ah
inductive RV where
 |tmp (t:Nat)
 |cell (a:Nat) (sz:Nat) (ag:Bool)
structure SF where
 code:SC
 res:List RV
 nt:Nat
def Et:List AV->AV
 |[x]=>x
 |l=>.tup l
def ajh:Value->Value->Bool
 |.bool a,.bool b=>a==b
 |.int k a,.int k' b=>k==k'&&a==b
 |.string a,.string b=>sh a b
 |.slice ah n c,.slice ah I c'=>aC n I&&aC c c'
 |.pointer ah,.pointer ah=>ai
 |.tuple a,.tuple b=>a.isEmpty&&b.isEmpty
 |_,_=>aj
def fy (P:Program) (t:TypeId):Option Nat:=(P.info? t).map (·.size)
def FA (P:Program) (t:TypeId):Option Nat:=(P.info? t).map (·.bytes)
def tf (P:Program) (t:TypeId):Option (List Value):=((P.info? t).bind (·.zero)).map (·.cells.toList)
def Eb (P:Program) (t:TypeId):Option Bool:=(P.underlying t).map λ|.struct _=>ai|.array _ _=>ai|_=>aj
def Bd (P:Program) (t:TypeId):Option TypeId:=match P.underlying t with|some (.slice e)=>af e|_=>ah
def BK (P:Program) (t:TypeId) (i:Nat):Option (Nat×Nat):=match P.underlying t with
 |some (.struct fs)=>(fs[i]?).bind λf=>(fy P f.type).map (f.offset,·)
 |some (.array _ el)=>(fy P el).map λs=>(i*s,s)
 |some (.slice el)=>(fy P el).map λs=>(i*s,s)
 |_=>ah
def xA (P:Program) (t:TypeId):List (Nat×Operand)->Option (List (Nat×Nat×Operand))
 |[]=>af []
 |(i,x)::r=>match BK P t i,xA P t r with|some (o,s),af l=>af ((o,s,x)::l)|_,_=>ah
def mJ (z:List Value):Bool:=z.all λv=>v.oneCell'
def IE:TypeDesc->Bool
 |.int _=>ai
 |.bool=>ai
 |.string=>ai
 |_=>aj
def rZ (P:Program):Nat→List Field→Option (List TypeDesc)
 |_,[]=>af []
 |k,f::r=>match P.underlying f.type,rZ P (k+1) r with
  |some d,af ds=>if f.name != "_" &&f.offset==k&&IE d then af (d::ds) else ah
  |_,_=>ah
def aac (P:Program) (t:TypeId):Option (List TypeDesc):=match P.underlying t with
 |some (.struct fs)=>if P.stoodInHeld t then ah else rZ P 0 fs.toList
 |_=>ah
def Sy (P:Program) (c:Call):Option Zi:=
 match c.callee with
 |.builtin .len=>(match c.args.toList,c.argTypes.toList with
  |[x],[t]=>(match P.underlying t with
   |some (.slice _)=>af (.len x)
   |some .string=>af (.lens x)
   |some (.map _ _)=>af (.lenm x)
   |_=>ah)
  |_,_=>ah)
 |.builtin .max=>(match c.args.toList with
  |[x,y]=>af (.max x y)
  |_=>ah)
 |.builtin .min=>(match c.args.toList with
  |[x,y]=>af (.min x y)
  |_=>ah)
 |.builtin .copy=>(match c.args.toList,c.argTypes.toList with
  |[d,x],[t,u]=>(match Bd P t,Bd P u with
   |some el,af _=>(fy P el).bind λsz=>if sz !=0 then af (.copy sz d x) else ah
   |_,_=>ah)
  |_,_=>ah)
 |.builtin .clear=>(match c.args.toList,c.argTypes.toList with
  |[x],[t]=>(Bd P t).bind λel=>(tf P el).bind λz=>(fy P el).bind λsz=>if mJ z&&z.length==sz&&sz !=0 then af (.clr sz z x) else ah
  |_,_=>ah)
 |.builtin .append=>(match c.args.toList,c.argTypes.toList with
  |[s,x],[t,u]=>(match Bd P t,Bd P u with
   |some el,af _=>(fy P el).bind λsz=>(FA P el).bind λb=>(tf P el).bind λz=>if sz !=0&&z.length==sz then af (.app el sz b s x) else ah
   |_,_=>ah)
  |_,_=>ah)
 |_=>ah
def dk (P:Program):Op->Option Zi
 |.move x=>af (.mv x)
 |.assign x=>af (.mv x)
 |.pick c a b=>af (.pick c a b)
 |.alloc t=>(tf P t).bind λz=>if mJ z then af (.alloc t z) else ah
 |.box t x=>af (.box t x)
 |.build t ps=>match P.underlying t with
  |some (.struct fs)=>(tf P t).bind λz=>if mJ z&&(fs.toList.all λf=>(fy P f.type).isSome) then (xA P t ps.toList).map (.build z) else ah
  |some (.array _ el)=>(tf P t).bind λz=>if mJ z&&(fy P el).isSome then (xA P t ps.toList).map (.build z) else ah
  |_=>ah
 |.buildSlice t n ps=>(Bd P t).bind λel=>(tf P el).bind λz=>(fy P el).bind λsz=>if mJ z&&z.length==sz&&eQ (n*sz) 65536&&sz !=0 then (xA P t ps.toList).map (.bsl el sz n z) else ah
 |.load t x=>(fy P t).bind λsz=>(Eb P t).map λag=>.load sz ag x
 |.store t x v=>(fy P t).map λsz=>.store sz x v
 |.nilCheck x=>af (.nilc x)
 |.binOp op t x y _=>match P.underlying t with
  |some (.int _)|some .string=>af (.bin op x y)
  |some .bool=>(match op with|.eql=>af (.eqb aj x y)|.neq=>af (.eqb ai x y)|_=>ah)
  |some (.slice _)=>(match op,y with
   |.eql,.const (.slice ah 0 0)=>af (.isnil aj x)
   |.neq,.const (.slice ah 0 0)=>af (.isnil ai x)
   |_,_=>ah)
  |some (.struct _)=>(aac P t).bind λds=>(match op with|.eql=>af (.eqs aj ds x y)|.neq=>af (.eqs ai ds x y)|_=>ah)
  |_=>ah
 |.unOp .not _ x=>af (.not x)
 |.unOp .neg t x=>match P.underlying t with|some (.int k)=>af (.bin .sub (.const (.int k 0)) x)|_=>ah
 |.convert s d x=>match P.underlying s,P.underlying d with|some (.int _),af (.int k)=>af (.conv k x)|_,_=>ah
 |.makeSlice t l c=>(Bd P t).bind λel=>(tf P el).bind λz=>(fy P el).bind λsz=>(FA P el).bind λb=>if mJ z&&z.length==sz&&sz !=0 then af (.mksl el sz b z l c) else ah
 |.slice t x lo hi mx=>(Bd P t).bind λel=>(fy P el).map λsz=>.slc sz x lo hi mx
 |.fieldAddr t x k=>match P.underlying t with
  |some (.struct fs)=>(fs[k]?).bind λf=>(fy P f.type).bind λsz=>if sz !=0 then af (.fad f.offset x) else ah
  |_=>ah
 |.field t x k=>match P.underlying t with
  |some (.struct fs)=>(fs[k]?).bind λf=>(fy P f.type).bind λsz=>(Eb P f.type).map λag=>.fld f.offset sz ag x
  |_=>ah
 |.indexAddr t x i=>match P.underlying t with
  |some (.slice el)=>(fy P el).map λsz=>.iad sz x i
  |some (.array n el)=>(fy P el).map λsz=>.iada n sz x i
  |_=>ah
 |.index t x i=>match P.underlying t with
  |some (.array n el)=>(fy P el).bind λsz=>(Eb P el).map λag=>.idx n sz ag x i
  |some .string=>af (.sidx x i)
  |_=>ah
 |.extract x i=>af (.ext x i)
 |.makeFunc (.func f) first caps=>if first.isEmpty then af (.mkf f caps.toList) else ah
 |.makeMap t ah=>match P.underlying t with|some (.map _ _)=>af .mkm|_=>ah
 |.lookup t x k ok=>match P.underlying t with
  |some (.map I el)=>(match P.underlying I,(P.info? el).bind (·.zero) with
   |some (.int _),af z=>if z.oneCell' then af (.lku aj ok z x k) else ah
   |some .string,af z=>if z.oneCell' then af (.lku ai ok z x k) else ah
   |_,_=>ah)
  |_=>ah
 |.mapUpdate t m k v=>match P.underlying t with
  |some (.map I _)=>(match P.underlying I with
   |some (.int _)=>af (.mup aj m k v)
   |some .string=>af (.mup ai m k v)
   |_=>ah)
  |_=>ah
 |.range t x=>match P.underlying t with|some .string=>af (.rng x)|_=>ah
 |.next x ai=>af (.nxt x)
 |.call c=>Sy P c
 |_=>ah
def Py:Op->Option SI
 |.call c=>(match c.callee with
  |.value (.func f)=>af (.call f c.args.toList)
  |.value (.tmp t)=>af (.callv (.tmp t) c.args.toList)
  |_=>ah)
 |_=>ah
def yM (P:Program) (op:Op):SI:=match Py op with
 |some i=>i
 |none=>(match dk P op with|some s=>.op s|none=>.op .bad)
def Zi.still:Zi->Bool
 |.mv _|.pick _ _ _|.build _ _|.nilc _|.bin _ _ _|.eqs _ _ _ _|.isnil _ _|.eqb _ _ _|.not _|.conv _ _|.fad _ _|.fld _ _ _ _|.iad _ _ _|.iada _ _ _ _|.idx _ _ _ _ _|.ext _ _|.max _ _|.min _ _|.sidx _ _|.mkf _ _|.bad=>ai
 |_=>aj
def SI.still:SI->Bool
 |.op s=>s.still
 |_=>aj
def sg (P:Program) (ops:Array Oper):List Oper->Option (List sP)
 |[]=>af []
 |o::r=>match sg P ops r with
  |some l=>(match o.guard with
   |none=>af (⟨o.dst,yM P o.op,ah⟩::l)
   |some (j,want)=>(match (ops[j]?).bind (·.dst) with
    |some t=>af (⟨o.dst,yM P o.op,af (t,want)⟩::l)
    |none=>ah))
  |none=>ah
def MH (ops:Array Oper) (l:List sP):Option (List (Nat×Nat)):=
 let B:=KN ops.toList []
 if (dl ops.size).all λj=>((ops[j]?).all λoj=>oj.after.toList.all λe=> !Ah .any e||decide (e.on<j))&&
     (dl j).all λi=>aN (B.getD j 0) i||(match ops[i]?,ops[j]? with|some oi,af oj=>oi.apart ops oj|_,_=>aj)
 then af ((dl ops.size).flatMap λj=>(dl j).filterMap λi=>
  if aN (B.getD j 0) i||(match l[i]?,l[j]? with|some a,af b=>a.op.still||b.op.still|_,_=>aj) then ah else af (i,j))
 else ah
def DV (ops:Array Oper) (I:Bool):Option (FuncId×List Operand×Nat):=match ops.toList,I with
 |[p,q],aj=>(match p.op,p.guard,p.dst,q.op,q.guard,q.dst with
  |.makeFunc (.func f) first caps,ah,af t,.defer c,ah,ah=>(match c.callee,c.args.toList with
   |.value (.tmp t'),[]=>if aC t t'&&first.isEmpty then af (f,caps.toList,t) else ah
   |_,_=>ah)
  |_,_,_,_,_,_=>ah)
 |_,_=>ah
def cq (P:Program) (nt:Nat):Code->SC
 |.skip=>.skip
 |.region _ ops I=>if ops.toList.all λo=>match o.dst with|some d=>decide (d<nt)|none=>ai then
   (match DV ops I with
   |some (f,caps,t)=>.defer f caps t
   |none=>(match sg P ops ops.toList with
    |some l=>(match MH ops l with|some prs=>.reg l prs|none=>.bad)
    |none=>.bad)) else .bad
 |.seq a b=>.seq (cq P nt a) (cq P nt b)
 |.cond (.tmp c) a b=>.cond c (cq P nt a) (cq P nt b)
 |.cond (.const (.bool ai)) a _=>cq P nt a
 |.cond (.const (.bool aj)) _ b=>cq P nt b
 |.block id b=>.block id (cq P nt b)
 |.loop b=>.loop (cq P nt b)
 |.exit id=>.exit id
 |.ret=>.ret
 |_=>.bad
def vJ (P:Program):List ResultVar->Option (List RV)
 |[]=>af []
 |.tmp t::r=>match vJ P r with|some l=>af (.tmp t::l)|none=>ah
 |.cell a t::r=>match vJ P r,fy P t,Eb P t with|some l,af sz,af ag=>af (.cell a sz ag::l)|_,_,_=>ah
def zX (P:Program) (f:FuncId):Option SF:=
 match P.funcs[f]? with
 |some fn=>if fn.name== "runtime.NumGoroutine" then ah else (match fn.body,vJ P fn.results.toList with
  |some c,af r=>af ⟨cq P fn.ntmps c,r,fn.ntmps⟩
  |_,_=>ah)
 |none=>ah
inductive Xp where
 |mk (op n:Int) (name:List UInt8) (l:List Xp)
inductive Sx where
 |mk (op line:Int) (name arg:List UInt8) (index:List Xp) (expr:Xp) (body els:List Sx)
def Xp.op:Xp->Int|.mk a _ _ _=>a
def Xp.n:Xp->Int|.mk _ a _ _=>a
def Xp.name:Xp->List UInt8|.mk _ _ a _=>a
def Xp.l:Xp->List Xp|.mk _ _ _ a=>a
def Sx.op:Sx->Int|.mk a _ _ _ _ _ _ _=>a
def Sx.line:Sx->Int|.mk _ a _ _ _ _ _ _=>a
def Sx.name:Sx->List UInt8|.mk _ _ a _ _ _ _ _=>a
def Sx.arg:Sx->List UInt8|.mk _ _ _ a _ _ _ _=>a
def Sx.index:Sx->List Xp|.mk _ _ _ _ a _ _ _=>a
def Sx.expr:Sx->Xp|.mk _ _ _ _ _ a _ _=>a
def Sx.body:Sx->List Sx|.mk _ _ _ _ _ _ a _=>a
def Sx.els:Sx->List Sx|.mk _ _ _ _ _ _ _ a=>a
inductive Ty where
 |int (k:IntKind)
 |bool
 |str
 |sl (t:Ty)
 |st (t:Ty)
 |pr (a b:Ty)
 |un
 |ex
 |sm
 deriving DecidableEq
@[reducible] def Ty.den:Ty->Type
  |.int _=>Int
  |.bool=>Bool
  |.str=>List UInt8
  |.sl t=>List t.den
  |.st t=>t.den
  |.pr a b=>a.den×b.den
  |.un=>Unit
  |.ex=>Xp
  |.sm=>Sx
def Ty.size:Ty->Nat
 |.st t=>t.size
 |.pr a b=>a.size+b.size
 |.un=>0
 |.ex=>4
 |.sm=>11
 |_=>1
def Ty.zero:(t:Ty)->t.den
 |.int _=>(0:Int)
 |.bool=>aj
 |.str=>[]
 |.sl _=>[]
 |.st t=>t.zero
 |.pr a b=>(a.zero,b.zero)
 |.un=>()
 |.ex=>.mk 0 0 [] []
 |.sm=>.mk 0 0 [] [] [] (.mk 0 0 [] []) [] []
def Ty.one:Ty->Bool
 |.int _=>ai
 |.bool=>ai
 |.str=>ai
 |.sl _=>ai
 |_=>aj
def M2:Ty:=.pr (.int .i64) (.pr (.int .i64) (.pr .str (.sl .ex)))
def MA:Ty:=.pr (.int .i64) (.pr (.int .i64) (.pr .str (.pr .str (.pr (.sl .ex) (.pr .ex (.pr (.sl .sm) (.sl .sm)))))))
def NT (e:Xp):M2.den:=(e.op,e.n,e.name,e.l)
def em (x:M2.den):Xp:=.mk x.1 x.2.1 x.2.2.1 x.2.2.2
def NS (e:Sx):MA.den:=(e.op,e.line,e.name,e.arg,e.index,e.expr,e.body,e.els)
def nU (x:MA.den):Sx:=.mk x.1 x.2.1 x.2.2.1 x.2.2.2.1 x.2.2.2.2.1 x.2.2.2.2.2.1 x.2.2.2.2.2.2.1 x.2.2.2.2.2.2.2
mutual
def wT:Xp->List FV
 |.mk op n name l=>[.raw (.int .i64 op),.raw (.int .i64 n),.raw (.string ⟨name.toArray⟩),.sl (JQ l) l.length]
def JQ:List Xp->List FV
 |[]=>[]
 |x::r=>wT x++JQ r
end
mutual
def yB:Sx->List FV
 |.mk op line name arg index expr body els=>[.raw (.int .i64 op),.raw (.int .i64 line),.raw (.string ⟨name.toArray⟩),.raw (.string ⟨arg.toArray⟩),.sl (JQ index) index.length]++wT expr++[.sl (JP body) body.length,.sl (JP els) els.length]
def JP:List Sx->List FV
 |[]=>[]
 |x::r=>yB x++JP r
end
def bS:(T:Ty)->T.den->List FV
 |.int k,n=>[.raw (.int k n)]
 |.bool,b=>[.raw (.bool b)]
 |.str,s=>[.raw (.string ⟨s.toArray⟩)]
 |.sl t,xs=>[.sl (List.flatMap (bS t) xs) (al xs)]
 |.st t,v=>bS t v
 |.pr a b,v=>bS a v.1++bS b v.2
 |.un,_=>[]
 |.ex,v=>wT v
 |.sm,v=>yB v
def gO:(T:Ty)->T.den->FV
 |.int k,n=>.raw (.int k n)
 |.bool,b=>.raw (.bool b)
 |.str,s=>.raw (.string ⟨s.toArray⟩)
 |.sl t,xs=>.sl (List.flatMap (bS t) xs) (al xs)
 |.st t,v=>.agg (bS t v)
 |.pr a b,v=>.agg (bS a v.1++bS b v.2)
 |.un,_=>.agg []
 |.ex,v=>.agg (wT v)
 |.sm,v=>.agg (yB v)
def Lr:(T:Ty)->T.den->T.den->Bool
 |.int _,a,b=>decide ((a:Int)=b)
 |.bool,a,b=>(a:Bool)==b
 |.str,a,b=>decide ((a:List UInt8)=b)
 |.st t,a,b=>Lr t a b
 |.pr x y,a,b=>Lr x a.1 b.1&&Lr y a.2 b.2
 |_,_,_=>ai
def xc {S:Ty} (T:Ty) (v:S.den):Option T.den:=if h:S=T then af (h▸v) else ah
def fm (j:Int) (n:Nat):Bool:=cZ 0 j&&fX j n
def aJ {T:Ty} (xs:List T.den) (j:Int):T.den:=xs.getD j.toNat T.zero
def ct {α:Type} (xs:List α) (j:Int) (x:α):List α:=xs.set j.toNat x
def TQ {α:Type} (xs I:List α):List α:=I.take xs.length++xs.drop I.length
def jD (a b:Int):Int:=if fX a b then b else a
def Hm (a b:Int):Int:=if fX b a then b else a
def AD (s:List UInt8) (j:Int):Int:=aQ (s.getD j.toNat 0).toNat
def bcase {R:Type} (b:Bool) (t f:Option R):Option R:=match b with|true=>t|false=>f
def chk {R:Type} (b:Bool) (k:b=ai->Option R):Option R:=match b,k with|true,k=>k rfl|false,_=>ah
open Classical in
def FB {R:Type} (a b:Option R):Option R:=if a=b then a else ah
open Classical in
def same {α R:Type} (a b:α) (r:Option R):Option R:=if a=b then r else ah
def obind {α R:Type} (o:Option α) (k:α->Option R):Option R:=match o with|some x=>k x|none=>ah
def lt {α R:Type} (x:α) (k:α->Option R):Option R:=k x
def jn {α R:Type} (o:Option (R⊕α)) (k:α->Option R):Option R:=match o with|some (.inr x)=>k x|some (.inl r)=>af r|none=>ah
def iterN {σ R:Type} (step:σ->Option (σ⊕R)):Nat->σ->Option R
 |0,_=>ah
 |n+1,x=>match step x with
  |some (.inl y)=>iterN step n y
  |some (.inr r)=>af r
  |none=>ah
open Classical in
def iter {σ R:Type} (step:σ->Option (σ⊕R)) (x:σ):Option R:=
 if h:∃ n,(iterN step n x).isSome=ai then iterN step (Classical.choose h) x else ah
def fK {σ R:Type} (step:σ->Option (σ⊕R)) (x:σ):Option R:=iterN step 18446744073709551616 x
abbrev yh:Type 1:=∀ σ R:Type,(σ->Option (σ⊕R))->σ->Option R
def kK {R:Type} (a b:Option R):Prop:=∀ y,a=af y->b=af y
theorem kK.rfl {R:Type} {a:Option R}:kK a a:=λ_ h=>h
theorem kK.bcase {R:Type} {b:Bool} {t f t' f':Option R} (h1:kK t t') (h2:kK f f'):kK (AI.bcase b t f) (AI.bcase b t' f'):=by cases b<;>assumption
theorem kK.chk {R:Type} {b:Bool} {k k':Option R} (h:kK k k'):kK (AI.chk b λ_=>k) (AI.chk b λ_=>k'):=by
 cases b with
 |true=>exact h
 |false=>exact λ_ h=>by cases h
theorem kK.obind {α R:Type} {o o':Option α} {k k':α->Option R} (h:kK o o') (hk:∀ x,kK (k x) (k' x)):kK (AI.obind o k) (AI.obind o' k'):=by
 intro y I;cases o with
 |none=>cases I
 |some x=>rw[h x (by exact Eq.refl _)];exact hk x y I
theorem kK.lt {α R:Type} {x:α} {k k':α->Option R} (h:∀ y,kK (k y) (k' y)):kK (AI.lt x k) (AI.lt x k'):=h x
theorem kK.jn {α R:Type} {o o':Option (R⊕α)} {k k':α->Option R} (h:kK o o') (hk:∀ x,kK (k x) (k' x)):kK (AI.jn o k) (AI.jn o' k'):=by
 intro y I;cases o with
 |none=>cases I
 |some x=>
  rw[h x (by exact Eq.refl _)];cases x with
  |inl r=>exact I
  |inr a=>exact hk a y I
theorem kK.iterN {σ R:Type} {f g:σ->Option (σ⊕R)} (h:∀ x,kK (f x) (g x)):∀ (n:Nat) (x:σ),kK (AI.iterN f n x) (AI.iterN g n x)
 |0,_=>λ_ h=>by cases h
 |n+1,x=>by
  intro y I;cases hf:f x with
  |none=>rw[AI.iterN,hf] at I;cases I
  |some s=>
   rw[AI.iterN,hf] at I;rw[AI.iterN,h x s hf];cases s with
   |inl z=>exact kK.iterN h n z y I
   |inr r=>exact I
theorem I7 {σ R:Type} {f:σ->Option (σ⊕R)}:∀ {n:Nat} {x:σ} {r:R},iterN f n x=af r->iterN f (n+1) x=af r
 |0,x,r,h=>by cases h
 |n+1,x,r,h=>by
  cases hf:f x with
  |none=>rw[iterN,hf] at h;cases h
  |some s=>
   cases s with
   |inl y=>rw[iterN,hf] at h;rw[iterN,hf];exact I7 h
   |inr q=>rw[iterN,hf] at h;rw[iterN,hf];exact h
theorem zq {σ R:Type} {f:σ->Option (σ⊕R)} {n m:Nat} {x:σ} {r:R} (h:iterN f n x=af r) (hle:n<=m):iterN f m x=af r:=by
 induction hle with
 |refl=>exact h
 |step _ I=>exact I7 I
theorem zo {σ R:Type} {f:σ->Option (σ⊕R)} {n:Nat} {x:σ} {r:R} (h:iterN f n x=af r):iter f x=af r:=by
 have J:∃ n,(iterN f n x).isSome=ai:=⟨n,by rw[h];exact Eq.refl _⟩
 unfold iter;rw[dif_pos J];have hc:=Classical.choose_spec J;obtain⟨M,I⟩:=iR.1 hc;rw[I];rcases Nat.le_total n (Classical.choose J) with hl|hl
 .rw[zq h hl] at I;exact I.symm
 .rw[zq I hl] at h;exact h
theorem kK.iter {σ R:Type} {f g:σ->Option (σ⊕R)} {x:σ} (h:∀ x,kK (f x) (g x)):kK (fK f x) (AI.iter g x):=λy I=>zo (kK.iterN h _ x y I)
def orE {R:Type} (a b:Option R):Option R:=match a with|some y=>af y|none=>b
def fuel:Nat:=Classical.choose (⟨100000,rfl⟩:∃ n:Nat,n=100000)
theorem jX:fuel=100000:=Classical.choose_spec (⟨100000,rfl⟩:∃ n:Nat,n=100000)
def Hf (a:Ty):Ty->Ty
 |.un=>a
 |.int k=>.pr a (.int k)
 |.bool=>.pr a .bool
 |.str=>.pr a .str
 |.sl t=>.pr a (.sl t)
 |.st t=>.pr a (.st t)
 |.pr x y=>.pr a (.pr x y)
 |.ex=>.pr a .ex
 |.sm=>.pr a .sm
def spr:Ty->Ty->Ty
 |.un,b=>b
 |.int k,b=>Hf (.int k) b
 |.bool,b=>Hf .bool b
 |.str,b=>Hf .str b
 |.sl t,b=>Hf (.sl t) b
 |.st t,b=>Hf (.st t) b
 |.pr x y,b=>Hf (.pr x y) b
 |.ex,b=>Hf .ex b
 |.sm,b=>Hf .sm b
def QK (a:Ty):(b:Ty)->a.den->b.den->(Hf a b).den
 |.un,x,_=>x
 |.int _,x,y=>(x,y)
 |.bool,x,y=>(x,y)
 |.str,x,y=>(x,y)
 |.sl _,x,y=>(x,y)
 |.st _,x,y=>(x,y)
 |.pr _ _,x,y=>(x,y)
 |.ex,x,y=>(x,y)
 |.sm,x,y=>(x,y)
def fsN (a:Ty):(b:Ty)->(Hf a b).den->a.den
 |.un,z=>z
 |.int _,z=>z.1
 |.bool,z=>z.1
 |.str,z=>z.1
 |.sl _,z=>z.1
 |.st _,z=>z.1
 |.pr _ _,z=>z.1
 |.ex,z=>z.1
 |.sm,z=>z.1
def snN (a:Ty):(b:Ty)->(Hf a b).den->b.den
 |.un,_=>()
 |.int _,z=>z.2
 |.bool,z=>z.2
 |.str,z=>z.2
 |.sl _,z=>z.2
 |.st _,z=>z.2
 |.pr _ _,z=>z.2
 |.ex,z=>z.2
 |.sm,z=>z.2
def Uq:(a b:Ty)->a.den->b.den->(spr a b).den
 |.un,_,_,y=>y
 |.int k,b,x,y=>QK (.int k) b x y
 |.bool,b,x,y=>QK .bool b x y
 |.str,b,x,y=>QK .str b x y
 |.sl t,b,x,y=>QK (.sl t) b x y
 |.st t,b,x,y=>QK (.st t) b x y
 |.pr u v,b,x,y=>QK (.pr u v) b x y
 |.ex,b,x,y=>QK .ex b x y
 |.sm,b,x,y=>QK .sm b x y
def OW:(a b:Ty)->(spr a b).den->a.den
 |.un,_,_=>()
 |.int k,b,z=>fsN (.int k) b z
 |.bool,b,z=>fsN .bool b z
 |.str,b,z=>fsN .str b z
 |.sl t,b,z=>fsN (.sl t) b z
 |.st t,b,z=>fsN (.st t) b z
 |.pr u v,b,z=>fsN (.pr u v) b z
 |.ex,b,z=>fsN .ex b z
 |.sm,b,z=>fsN .sm b z
def Lu:(a b:Ty)->(spr a b).den->b.den
 |.un,_,z=>z
 |.int k,b,z=>snN (.int k) b z
 |.bool,b,z=>snN .bool b z
 |.str,b,z=>snN .str b z
 |.sl t,b,z=>snN (.sl t) b z
 |.st t,b,z=>snN (.st t) b z
 |.pr u v,b,z=>snN (.pr u v) b z
 |.ex,b,z=>snN .ex b z
 |.sm,b,z=>snN .sm b z
theorem tR (a b:Ty) (x:a.den) (y:b.den):OW a b (Uq a b x y)=x:=by cases a<;>cases b<;>rfl
theorem vm (a b:Ty) (x:a.den) (y:b.den):Lu a b (Uq a b x y)=y:=by cases a<;>cases b<;>rfl
inductive TV where
 |f (T:Ty) (v:T.den)
 |fel (T:Ty) (xs:List T.den) (j:Int) (h:fm j xs.length=ai) (off:Nat)
 |pel (id sz:Nat) (j:Int) (off:Nat)
 |ptr (id off:Nat)
 |row (id:Nat)
 |csl (id sz n:Nat)
 |emp
 |nil
 |mp (id:Nat)
 |agg (l:List TV)
 |tup (l:List TV)
 |clo (g:FuncId) (l:List TV)
 |undef
 |np
 |anyb
 |rtl (id:Nat) (j:Int)
inductive iD where
 |rows (ty:TypeId) (p:Bool) (T:Ty) (xs:List T.den)
 |cells (ty:TypeId) (l:List TV)
 |dead (p:Bool) (sz n:Nat)
 |mp (K V:Ty) (es:List (K.den×V.den))
abbrev iU:=PT TV
abbrev bk:=PT iD
def cst:Value->Option TV
 |.int k n=>af (.f (.int k) n)
 |.bool b=>af (.f .bool b)
 |.string s=>af (.f .str s.data.toList)
 |.slice ah 0 0=>af .nil
 |.pointer ah=>af .np
 |_=>ah
def Kp:List Value->Option (List TV)
 |[]=>af []
 |v::r=>match cst v,Kp r with|some x,af l=>af (x::l)|_,_=>ah
def aja:Value->Option TV
 |.agg vs=>if KJ vs.toList then (match Kp vs.toList with|some l=>af (.agg l)|none=>ah) else ah
 |v=>cst v
def cellsOf:Nat->(T:Ty)->T.den->Option (List TV)
 |0,_,_=>ah
 |n+1,.st t,v=>cellsOf n t v
 |n+1,.pr a b,v=>match cellsOf n a v.1,cellsOf n b v.2 with|some x,af y=>af (x++y)|_,_=>ah
 |_+1,.un,_=>af []
 |n+1,.ex,v=>cellsOf n M2 (NT v)
 |n+1,.sm,v=>cellsOf n MA (NS v)
 |_+1,.int k,v=>af [.f (.int k) v]
 |_+1,.bool,v=>af [.f .bool v]
 |_+1,.str,v=>af [.f .str v]
 |_+1,.sl t,v=>af [.f (.sl t) v]
def TV.isC:TV->Bool
 |.f T _=>T.one
 |.fel _ _ _ _ _=>ai
 |.pel _ _ _ _=>ai
 |.ptr _ _=>ai
 |.row _=>ai
 |.csl _ _ _=>ai
 |.emp=>ai
 |.nil=>ai
 |.np=>ai
 |.mp _=>ai
 |.clo _ _=>ai
 |_=>aj
def kD:List TV->Bool
 |[]=>ai
 |x::r=>x.isC&&kD r
def TV.cs (v:TV):Option (List TV):=match v with
 |.agg l=>if kD l then af l else ah
 |.f T x=>cellsOf 40 T x
 |x=>if x.isC then af [x] else ah
def kV (i:Nat):Nat:=1<<<i
def iP (h:bk) (T:Ty):TV->Option (T.den×Nat)
 |.f _ v=>match xc T v with|some x=>af (x,0)|none=>ah
 |.emp=>(match T with|.sl _=>af ([],0)|_=>ah)
 |.nil=>(match T with|.sl _=>af ([],0)|_=>ah)
 |.row id=>match h.get id with
  |some (.rows _ _ S xs)=>(match xc (S:=.sl S) T xs with|some x=>af (x,kV id)|none=>ah)
  |_=>ah
 |_=>ah
def fc (h:bk):Nat->(T:Ty)->List TV->Option (T.den×Nat×List TV)
 |0,_,_=>ah
 |n+1,.st t,l=>fc h n t l
 |n+1,.pr a b,l=>match fc h n a l with
  |some (x,m,r)=>(match fc h n b r with|some (y,m',I)=>af ((x,y),m|||m',I)|none=>ah)
  |none=>ah
 |_+1,.un,l=>af ((),0,l)
 |n+1,.ex,l=>match fc h n M2 l with|some (x,m,r)=>af (em x,m,r)|none=>ah
 |n+1,.sm,l=>match fc h n MA l with|some (x,m,r)=>af (nU x,m,r)|none=>ah
 |_+1,.int k,l=>match l with|c::r=>(match iP h (.int k) c with|some (x,m)=>af (x,m,r)|none=>ah)|[]=>ah
 |_+1,.bool,l=>match l with|c::r=>(match iP h .bool c with|some (x,m)=>af (x,m,r)|none=>ah)|[]=>ah
 |_+1,.str,l=>match l with|c::r=>(match iP h .str c with|some (x,m)=>af (x,m,r)|none=>ah)|[]=>ah
 |_+1,.sl t,l=>match l with|c::r=>(match iP h (.sl t) c with|some (x,m)=>af (x,m,r)|none=>ah)|[]=>ah
def D' (h:bk) (T:Ty) (v:TV):Option (T.den×Nat):=match v with
 |.agg l=>if T.one then ah else (match fc h 40 T l with|some (x,m,[])=>af (x,m)|_=>ah)
 |x=>iP h T x
def oq:Nat->(T:Ty)->T.den->Nat->Nat->Bool->Option TV
 |0,_,_,_,_,_=>ah
 |n+1,.st t,v,off,sz,ag=>if aC off 0&&aC sz t.size&&ag then af (.f (.st t) v) else oq n t v off sz ag
 |n+1,.pr a b,v,off,sz,ag=>if gk off a.size then oq n a v.1 off sz ag else oq n b v.2 (off-a.size) sz ag
 |_+1,.un,_,_,_,_=>ah
 |n+1,.ex,v,off,sz,ag=>if aC off 0&&aC sz 4&&ag then af (.f .ex v) else oq n M2 (NT v) off sz ag
 |n+1,.sm,v,off,sz,ag=>if aC off 0&&aC sz 11&&ag then af (.f .sm v) else oq n MA (NS v) off sz ag
 |_+1,.int k,v,off,sz,ag=>if aC off 0&&aC sz 1&& !ag then af (.f (.int k) v) else ah
 |_+1,.bool,v,off,sz,ag=>if aC off 0&&aC sz 1&& !ag then af (.f .bool v) else ah
 |_+1,.str,v,off,sz,ag=>if aC off 0&&aC sz 1&& !ag then af (.f .str v) else ah
 |_+1,.sl t,v,off,sz,ag=>if aC off 0&&aC sz 1&& !ag then af (.f (.sl t) v) else ah
def gV (h:bk) (x:TV):Nat->(T:Ty)->T.den->Nat->Nat->Option (T.den×Nat)
 |0,_,_,_,_=>ah
 |n+1,.st t,v,off,sz=>match (if aC off 0&&aC sz t.size then D' h (.st t) x else ah) with
  |some y=>af y
  |none=>gV h x n t v off sz
 |n+1,.pr a b,v,off,sz=>if gk off a.size then (match gV h x n a v.1 off sz with|some (y,m)=>af ((y,v.2),m)|none=>ah) else (match gV h x n b v.2 (off-a.size) sz with|some (y,m)=>af ((v.1,y),m)|none=>ah)
 |_+1,.un,_,_,_=>ah
 |n+1,.ex,v,off,sz=>match (if aC off 0&&aC sz 4 then D' h .ex x else ah) with
  |some y=>af y
  |none=>(match gV h x n M2 (NT v) off sz with|some (y,m)=>af (em y,m)|none=>ah)
 |n+1,.sm,v,off,sz=>match (if aC off 0&&aC sz 11 then D' h .sm x else ah) with
  |some y=>af y
  |none=>(match gV h x n MA (NS v) off sz with|some (y,m)=>af (nU y,m)|none=>ah)
 |_+1,.int k,_,off,sz=>if aC off 0&&aC sz 1 then iP h (.int k) x else ah
 |_+1,.bool,_,off,sz=>if aC off 0&&aC sz 1 then iP h .bool x else ah
 |_+1,.str,_,off,sz=>if aC off 0&&aC sz 1 then iP h .str x else ah
 |_+1,.sl t,_,off,sz=>if aC off 0&&aC sz 1 then iP h (.sl t) x else ah
def za (h:bk) (T:Ty):Nat->List TV->Option (List T.den×Nat)
 |0,[]=>af ([],0)
 |0,_::_=>ah
 |n+1,l=>match fc h 40 T l with
  |some (x,m,r)=>(match za h T n r with|some (xs,m')=>af (x::xs,m|||m')|none=>ah)
  |none=>ah
def s_:Ty->List Value
 |.int k=>[.int k 0]
 |.bool=>[.bool aj]
 |.str=>[.string ⟨#[]⟩]
 |.sl _=>[.slice ah 0 0]
 |.st t=>s_ t
 |.pr a b=>s_ a++s_ b
 |.un=>[]
 |.ex=>[.int .i64 0,.int .i64 0,.string ⟨#[]⟩,.slice ah 0 0]
 |.sm=>[.int .i64 0,.int .i64 0,.string ⟨#[]⟩,.string ⟨#[]⟩,.slice ah 0 0,.int .i64 0,.int .i64 0,.string ⟨#[]⟩,.slice ah 0 0,.slice ah 0 0,.slice ah 0 0]
def SS:List Value->List Value->Bool
 |[],[]=>ai
 |x::xs,y::I=>ajh x y&&SS xs I
 |_,_=>aj
def Ty.flat:Ty->Bool
 |.int _=>ai
 |.bool=>ai
 |.str=>ai
 |.st t=>t.flat
 |.pr a b=>a.flat&&b.flat
 |.un=>ai
 |_=>aj
def q_:List TypeDesc->Option Ty
 |[]=>af .un
 |.int k::r=>match q_ r with|some t=>af (.pr (.int k) t)|none=>ah
 |.bool::r=>match q_ r with|some t=>af (.pr .bool t)|none=>ah
 |.string::r=>match q_ r with|some t=>af (.pr .str t)|none=>ah
 |_=>ah
inductive PV where
 |d (T:Ty)
 |ptr (id off:Nat)
 |row (id:Nat)
 |csl (id sz n:Nat)
 |mp (id:Nat)
 |nil
 |emp
 |clo (q:FuncId) (id off:Nat)
 |agg (l:List PV)
inductive PB where
 |rows (ty:TypeId) (p:Bool) (T:Ty)
 |rowsP (ty:TypeId) (T:Ty)
 |cells (ty:TypeId) (l:List PV)
 |mp (K V:Ty)
 |gone
mutual
def PV.ty:PV->Ty
 |.d T=>T
 |.agg l=>PV.tyL l
 |.ptr _ _=>.un
 |.row _=>.un
 |.csl _ _ _=>.un
 |.clo _ _ _=>.un
 |.mp _=>.un
 |.nil=>.un
 |.emp=>.un
def PV.tyL:List PV->Ty
 |[]=>.un
 |p::r=>spr p.ty (PV.tyL r)
end
def PB.ty:PB->Ty
 |.rows _ _ T=>.sl T
 |.rowsP _ T=>.pr .bool (.sl T)
 |.cells _ l=>PV.tyL l
 |.mp K V=>.sl (.pr K V)
 |.gone=>.un
def PB.tyL:List PB->Ty
 |[]=>.un
 |p::r=>spr p.ty (PB.tyL r)
structure Tm where
 vs:List PV
 bs:List PB
def Tm.ty (t:Tm):Ty:=spr (PV.tyL t.vs) (PB.tyL t.bs)
mutual
def pE (g:Nat->Nat) (h:bk):(p:PV)->List TV->Option (p.ty.den×Nat×List TV)
 |.d T,l=>fc h 40 T l
 |.ptr i o,l=>match l with|.ptr i' o'::r=>if aC (g i) i'&&aC o o' then af ((),0,r) else ah|_=>ah
 |.row i,l=>match l with|.row i'::r=>if aC (g i) i' then af ((),0,r) else ah|_=>ah
 |.csl i s n,l=>match l with|.csl i' s' n'::r=>if aC (g i) i'&&aC s s'&&aC n n' then af ((),0,r) else ah|_=>ah
 |.clo q i o,l=>match l with|.clo q' [.ptr i' o']::r=>if aC q q'&&aC (g i) i'&&aC o o' then af ((),0,r) else ah|_=>ah
 |.mp i,l=>match l with|.mp i'::r=>if aC (g i) i' then af ((),0,r) else ah|_=>ah
 |.nil,l=>match l with|.nil::r=>af ((),0,r)|_=>ah
 |.emp,l=>match l with|.nil::r=>af ((),0,r)|.emp::r=>af ((),0,r)|_=>ah
 |.agg ps,l=>zD g h ps l
def zD (g:Nat->Nat) (h:bk):(ps:List PV)->List TV->Option ((PV.tyL ps).den×Nat×List TV)
 |[],l=>af ((),0,l)
 |p::r,l=>match pE g h p l with
  |some (x,m,l')=>(match zD g h r l' with|some (y,m',l'')=>af (Uq p.ty (PV.tyL r) x y,m|||m',l'')|none=>ah)
  |none=>ah
end
def xP (g:Nat->Nat) (h:bk):(p:PV)->TV->Option (p.ty.den×Nat)
 |.d T,v=>D' h T v
 |.agg ps,v=>if v.isC then ah else (match v.cs with
  |some l=>(match zD g h ps l with|some (x,m,[])=>af (x,m)|_=>ah)
  |none=>ah)
 |.ptr i o,v=>match pE g h (.ptr i o) [v] with|some (x,m,_)=>af (x,m)|none=>ah
 |.row i,v=>match pE g h (.row i) [v] with|some (x,m,_)=>af (x,m)|none=>ah
 |.csl i s n,v=>match pE g h (.csl i s n) [v] with|some (x,m,_)=>af (x,m)|none=>ah
 |.clo q i o,v=>match pE g h (.clo q i o) [v] with|some (x,m,_)=>af (x,m)|none=>ah
 |.mp i,v=>match pE g h (.mp i) [v] with|some (x,m,_)=>af (x,m)|none=>ah
 |.nil,v=>match pE g h .nil [v] with|some (x,m,_)=>af (x,m)|none=>ah
 |.emp,v=>match pE g h .emp [v] with|some (x,m,_)=>af (x,m)|none=>ah
def yr (g:Nat->Nat) (h:bk):(ps:List PV)->List TV->Option ((PV.tyL ps).den×Nat)
 |[],[]=>af ((),0)
 |p::r,v::vs=>match xP g h p v with
  |some (x,m)=>(match yr g h r vs with|some (y,m')=>af (Uq p.ty (PV.tyL r) x y,m|||m')|none=>ah)
  |none=>ah
 |[],_::_=>ah
 |_::_,[]=>ah
def Fd (g:Nat->Nat) (h:bk) (i:Nat):(b:PB)->Option (b.ty.den×Nat)
 |.rows ty p T=>match h.get (g i) with
  |some (.rows ty' I S xs)=>if ty==ty'&&p==I then (match xc (S:=.sl S) (.sl T) xs with|some x=>af (x,0)|none=>ah) else ah
  |_=>ah
 |.rowsP ty T=>match h.get (g i) with
  |some (.rows ty' I S xs)=>if ty==ty' then (match xc (S:=.sl S) (.sl T) xs with|some x=>af ((I,x),0)|none=>ah) else ah
  |_=>ah
 |.cells ty ps=>match h.get (g i) with
  |some (.cells ty' l)=>if ty==ty' then (match zD g h ps l with|some (x,m,[])=>af (x,m)|_=>ah) else ah
  |_=>ah
 |.mp K V=>match h.get (g i) with
  |some (.mp K' V' es)=>(match xc (S:=.sl (.pr K' V')) (.sl (.pr K V)) es with|some x=>af (x,0)|none=>ah)
  |_=>ah
 |.gone=>af ((),0)
def Bc (g:Nat->Nat) (h:bk):Nat->(bs:List PB)->Option ((PB.tyL bs).den×Nat)
 |_,[]=>af ((),0)
 |i,b::r=>match Fd g h i b with
  |some (x,m)=>(match Bc g h (i+1) r with|some (y,m')=>af (Uq b.ty (PB.tyL r) x y,m|||m')|none=>ah)
  |none=>ah
mutual
def p_ (g:Nat->Nat):(p:PV)->p.ty.den->Option (List TV)
 |.d T,x=>cellsOf 40 T x
 |.ptr i o,_=>af [.ptr (g i) o]
 |.row i,_=>af [.row (g i)]
 |.csl i s n,_=>af [.csl (g i) s n]
 |.mp i,_=>af [.mp (g i)]
 |.clo q i o,_=>af [.clo q [.ptr (g i) o]]
 |.nil,_=>af [.nil]
 |.emp,_=>af [.emp]
 |.agg ps,x=>qX g ps x
def qX (g:Nat->Nat):(ps:List PV)->(PV.tyL ps).den->Option (List TV)
 |[],_=>af []
 |p::r,x=>match p_ g p (OW p.ty (PV.tyL r) x) with
  |some a=>(match qX g r (Lu p.ty (PV.tyL r) x) with|some b=>af (a++b)|none=>ah)
  |none=>ah
end
def tJ (g:Nat->Nat):(p:PV)->p.ty.den->Option TV
 |.d T,x=>af (.f T x)
 |.ptr i o,_=>af (.ptr (g i) o)
 |.row i,_=>af (.row (g i))
 |.csl i s n,_=>af (.csl (g i) s n)
 |.mp i,_=>af (.mp (g i))
 |.clo q i o,_=>af (.clo q [.ptr (g i) o])
 |.nil,_=>af .nil
 |.emp,_=>af .emp
 |.agg ps,x=>match qX g ps x with|some l=>af (.agg l)|none=>ah
def qe (g:Nat->Nat):(ps:List PV)->(PV.tyL ps).den->Option (List TV)
 |[],_=>af []
 |p::r,x=>match tJ g p (OW p.ty (PV.tyL r) x) with
  |some a=>(match qe g r (Lu p.ty (PV.tyL r) x) with|some b=>af (a::b)|none=>ah)
  |none=>ah
def CV (g:Nat->Nat):(b:PB)->b.ty.den->Option (Option iD)
 |.rows ty p T,x=>af (af (.rows ty p T x))
 |.rowsP ty T,x=>af (af (.rows ty x.1 T x.2))
 |.cells ty ps,x=>match qX g ps x with|some l=>af (af (.cells ty l))|none=>ah
 |.mp K V,x=>af (af (.mp K V x))
 |.gone,_=>af ah
def vw:iD->iD
 |.rows _ p T xs=>.dead p T.size xs.length
 |.cells _ _=>.dead ai 0 0
 |.mp _ _ _=>.dead ai 0 0
 |.dead p sz n=>.dead p sz n
def kill (h:bk) (i:Nat):bk:=match h.get i with
 |some b=>h.set i (af (vw b))
 |none=>h
def oJ (g:Nat->Nat):(bs:List PB)->(PB.tyL bs).den->Option (List (Option iD))
 |[],_=>af []
 |b::r,x=>match CV g b (OW b.ty (PB.tyL r) x) with
  |some c=>(match oJ g r (Lu b.ty (PB.tyL r) x) with|some l=>af (c::l)|none=>ah)
  |none=>ah
def AK (g:Nat->Nat):Nat->List (Option iD)->bk->bk
 |_,[],h=>h
 |i,af c::r,h=>AK g (i+1) r (h.set (g i) (af c))
 |i,ah::r,h=>AK g (i+1) r (kill h (g i))
def MG (g:Nat->Nat) (bs:List PB) (x:(PB.tyL bs).den) (h:bk):Option bk:=match oJ g bs x with
 |some l=>af (AK g 0 l h)
 |none=>ah
def tu {K V:Ty} (k:K.den):List (K.den×V.den)->Option V.den
 |[]=>ah
 |(k',v)::r=>if Lr K k k' then af v else tu k r
def C3 {K V:Ty} (k:K.den) (v:V.den):List (K.den×V.den)->List (K.den×V.den)
 |[]=>[(k,v)]
 |(k',I)::r=>if Lr K k k' then (k,v)::r else (k',I)::C3 k v r
def Ol {K V:Ty} (k:K.den) (es:List (K.den×V.den)):Bool:=match tu k es with|some _=>ai|none=>aj
def tm {K V:Ty} (k:K.den) (es:List (K.den×V.den)) (z:V.den):V.den:=match tu k es with|some v=>v|none=>z
def am5 (T:Ty):Nat->Ty
 |0=>.un
 |1=>T
 |n+2=>.pr T (am5 T (n+1))
def kwT:Ty:=.st (am5 .str 22)
def kwV:kwT.den:=([118,97,114],[118,111,108,97,116,105,108,101],[109,117,116,101,120],[114,119,108,111,99,107],[99,111,110,100],[102,117,116,117,114,101],[116,104,114,101,97,100],[105,102],[101,108,115,101],[119,104,105,108,101],[108,111,99,107],[114,101,97,100],[119,114,105,116,101],[116,114,97,110,115,97,99,116,105,111,110],[97,116,111,109,105,99],[119,97,105,116],[110,111,116,105,102,121],[110,111,116,105,102,121,97,108,108],[115,112,97,119,110],[106,111,105,110],[115,101,116],[103,101,116])
@[simp] theorem dy {R:Type} (t f:Option R):bcase ai t f=t:=Eq.trans rfl rfl
@[simp] theorem dQ {R:Type} (t f:Option R):bcase aj t f=f:=Eq.trans rfl rfl
@[simp] theorem chk_t {R:Type} (k:ai=ai->Option R):chk ai k=k rfl:=Eq.trans rfl rfl
theorem cC {R:Type} {b:Bool} (h:b=ai) (k:Option R):chk b (λ_=>k)=k:=by cases b with|true=>rfl|false=>cases h
@[simp] theorem cX {α R:Type} (x:α) (k:α->Option R):obind (af x) k=k x:=Eq.trans rfl rfl
@[simp] theorem l_ {α R:Type} (x:α) (k:α->Option R):jn (af (.inr x)) k=k x:=Eq.trans rfl rfl
@[simp] theorem jn_l {α R:Type} (r:R) (k:α->Option R):jn (af (.inl r)) k=af r:=Eq.trans rfl rfl
theorem aew {σ R:Type} {f:σ->Option (σ⊕R)} {n:Nat} {x:σ} {r:R} (h:iterN f n x=af r) (hn:n<=18446744073709551616):fK f x=af r:=zq h hn
theorem wN {σ R:Type} {f:σ->Option (σ⊕R)} (n:Nat) (hn:n<18446744073709551616) (st:Nat->σ) {r:R} (h0:∀ i,i<n->f (st i)=af (.inl (st (i+1)))) (h1:f (st n)=af (.inr r)):fK f (st 0)=af r:=by
 have key:∀ k i,i+k=n->iterN f (k+1) (st i)=af r:=by
  intro k;induction k with
  |zero=>intro i hi;have:i=n:=by omega
         subst this;simp only[iterN,h1]
  |succ k I=>intro i hi;rw[iterN,h0 i (by omega)];exact I (i+1) (by omega)
 exact aew (key n 0 (by omega)) (by omega)
@[simp] theorem ab6 {a b:Int}:cZ a b=ai↔a<=b:=by unfold cZ;simp
@[simp] theorem ab5 {a b:Int}:fX a b=ai↔a<b:=by unfold fX;simp
theorem qY {a b:Int} (h:a<=b):cZ a b=ai:=ab6.2 h
theorem ux {a b:Int} (h:a<b):fX a b=ai:=ab5.2 h
theorem ab7 {a b:Int} (h:b<a):cZ a b=aj:=by unfold cZ;simp;omega
theorem vx {a b:Int} (h:b<=a):fX a b=aj:=by unfold fX;simp;omega
theorem ame {j:Int} {n:Nat} (h0:0<=j) (h1:j<n):fm j n=ai:=by unfold fm;rw[qY h0,ux h1];rfl
theorem c6 {j n:Nat} (h1:j<n):fm (j:Int) n=ai:=ame (by omega) (by omega)
theorem xx {n b:Nat} (h0:n<=1099511627776) (h1:n*b<=1099511627776):bc n b=ai:=by
 unfold bc;rw[bE h0,bE h1];rfl
theorem ah4 {n:Int} (h0: -9223372036854775808<=n) (h1:n<=9223372036854775807):bn .i64 n=n:=by
 rw[HV];unfold Mu;simp only[];rw[qY h0,qY h1];rfl
theorem nL {i n:Nat} (h:i<n) (hn:n<=1099511627776):bn .i64 ((i:Int)+1)=((i+1:Nat):Int):=by
 rw[ah4 (by omega) (by omega)];omega
theorem uw (a b:Nat):jD (aQ a) (aQ b)=((max a b:Nat):Int):=by
 unfold jD;by_cases h:a<b
 .rw[ux (by simp;omega),aE rfl];simp;omega
 .rw[vx (by simp;omega)];simp;omega
theorem uF {T:Ty} (xs:List T.den) (i:Nat):aJ xs (i:Int)=xs.getD i T.zero:=by unfold aJ;simp
theorem lP (xs:List (List Int)) (i:Nat):aJ (T:=.sl (.int .i64)) xs (i:Int)=xs.getD i []:=uF (T:=.sl (.int .i64)) xs i
theorem aj4 (xs:List Int) (i:Nat):aJ (T:=.int .i64) xs (i:Int)=xs.getD i 0:=uF (T:=.int .i64) xs i
theorem eC {α:Type} (xs:List α) (i:Nat) (x:α):ct xs (i:Int) x=xs.set i x:=by unfold ct;simp
structure cr where
 pre:Tm
 post:Tm
 m:pre.ty.den->Option post.ty.den
mutual
def ahu:PV->List TV->PT Nat->PT Nat×List TV
 |.d T,l,σ=>(σ,l.drop T.size)
 |.ptr i _,l,σ=>match l with|.ptr a _::r=>(σ.set i (af a),r)|l=>(σ,l.drop 1)
 |.row i,l,σ=>match l with|.row a::r=>(σ.set i (af a),r)|l=>(σ,l.drop 1)
 |.csl i _ _,l,σ=>match l with|.csl a _ _::r=>(σ.set i (af a),r)|l=>(σ,l.drop 1)
 |.mp i,l,σ=>match l with|.mp a::r=>(σ.set i (af a),r)|l=>(σ,l.drop 1)
 |.clo _ i _,l,σ=>match l with|.clo _ [.ptr a _]::r=>(σ.set i (af a),r)|l=>(σ,l.drop 1)
 |.nil,l,σ=>(σ,l.drop 1)
 |.emp,l,σ=>(σ,l.drop 1)
 |.agg ps,l,σ=>VW ps l σ
def VW:List PV->List TV->PT Nat->PT Nat×List TV
 |[],l,σ=>(σ,l)
 |p::r,l,σ=>match ahu p l σ with|(σ',l')=>VW r l' σ'
end
def an0 (p:PV) (v:TV) (σ:PT Nat):PT Nat:=match p with
 |.d _=>σ
 |p=>match v.cs with|some l=>(ahu p l σ).1|none=>σ
def acj:List PV->List TV->PT Nat->PT Nat
 |p::r,v::vs,σ=>acj r vs (an0 p v σ)
 |_,_,σ=>σ
def VX (h:bk):Nat->List PB->PT Nat->PT Nat
 |_,[],σ=>σ
 |i,b::r,σ=>VX h (i+1) r (match b with
  |.cells _ ps=>(match σ.get i with
   |some a=>(match h.get a with|some (.cells _ l)=>(VW ps l σ).1|_=>σ)
   |none=>σ)
  |_=>σ)
def im (σ:PT Nat) (i:Nat):Nat:=match σ.get i with|some a=>a|none=>0
def Z7 (σ:PT Nat):Nat->Nat->Nat->Option Nat
 |0,_,acc=>af acc
 |n+1,i,acc=>match σ.get i with
  |some a=>if aN acc a then ah else Z7 σ n (i+1) (acc|||kV a)
  |none=>ah
def idn:Nat->PT Nat
 |0=>.leaf
 |n+1=>(idn n).set n (af n)
def W_ (σ:PT Nat):Nat->Bool
 |0=>ai
 |n+1=>(match σ.get n with|some a=>aC a n|none=>aj)&&W_ σ n
structure ai8 (t:Tm) where
 x:t.ty.den
 m:Nat
 σ:PT Nat
 sm:Nat
def EM (np:Nat) (t:Tm) (vs:List TV) (h:bk):Option (ai8 t):=
 Rq (VX h 0 t.bs (VX h 0 t.bs (acj t.vs vs (idn np)))) λσ=>
 match Z7 σ t.bs.length 0 0 with
 |some sm=>(match yr (im σ) h t.vs vs with
  |some (x,m)=>(match Bc (im σ) h 0 t.bs with
   |some (y,m')=>if DS (m|||m') sm&&W_ σ np then af ⟨Uq _ _ x y,m|||m',σ,sm⟩ else ah
   |none=>ah)
  |none=>ah)
 |none=>ah
def PT.updI {α:Type} (f:Nat->α->α):Nat->Nat->PT α->PT α
 |_,_,.leaf=>.leaf
 |a,b,.node v l r=>.node (match v with|some x=>af (f b x)|none=>ah) (PT.updI f (2*a) (a+b) l) (PT.updI f (2*a) (2*a+b) r)
def eK (m:Nat) (h:bk):bk:=if aC m 0 then h else PT.updI (λi b=>if aN m i then vw b else b) 1 0 h
def Ux:Operand->Bool
 |.const (.agg _)=>ai
 |_=>aj
def fP (e:iU):Operand->Option TV
 |.tmp t=>e.get t
 |.const v=>aja v
 |.func g=>af (.clo g [])
 |.global g=>match G g with|some _=>af (.fel kwT [kwV] 0 (Eq.refl ai) 0)|none=>ah
def F3 (e:iU):List Operand->Option (List TV)
 |[]=>af []
 |x::xs=>match fP e x with|some y=>(match F3 e xs with|some I=>af (y::I)|none=>ah)|none=>ah
def JH (cells:List TV) (e:iU):List (Nat×Nat×Operand)->Option (List TV)
 |[]=>af cells
 |(off,sz,x)::r=>match fP e x with
  |some v=>(match v.cs with
   |some cs=>if cs.length==sz&&eQ (off+sz) cells.length then JH (splice cells off cs) e r else ah
   |none=>ah)
  |none=>ah
def T4 (l:List TV) (off sz:Nat):Bool->Option TV
 |false=>if aC sz 1 then l[off]? else ah
 |true=>if eQ (off+sz) l.length then af (.agg ((l.drop off).take sz)) else ah
def eJ (h:bk) (id:Nat):Option (Bool×Nat×Nat):=match h.get id with
 |some (.rows _ p T xs)=>af (p,T.size,xs.length)
 |some (.dead p sz n)=>af (p,sz,n)
 |_=>ah
def lenOf (h:bk):TV->Option Nat
 |.f (.sl _) xs=>af (al xs)
 |.emp=>af 0
 |.nil=>af 0
 |.row id=>match eJ h id with|some (_,_,n)=>af n|none=>ah
 |.csl _ _ n=>af n
 |_=>ah
mutual
def LB (h:bk):TV->Bool
 |.row id=>(eJ h id).isSome
 |.rtl id _=>(eJ h id).isSome
 |.agg l=>kX h l
 |.tup l=>kX h l
 |.clo _ l=>kX h l
 |.f _ _=>ai
 |.fel _ _ _ _ _=>ai
 |.pel _ _ _ _=>ai
 |.ptr _ _=>ai
 |.csl _ _ _=>ai
 |.emp=>ai
 |.nil=>ai
 |.mp _=>ai
 |.undef=>ai
 |.np=>ai
 |.anyb=>ai
def kX (h:bk):List TV->Bool
 |[]=>ai
 |x::r=>LB h x&&kX h r
end
mutual
def LD (n:Nat):TV->Bool
 |.row id=>gk id n
 |.rtl id _=>gk id n
 |.pel id _ _ _=>gk id n
 |.ptr id _=>gk id n
 |.csl id _ _=>gk id n
 |.mp id=>gk id n
 |.agg l=>rG n l
 |.tup l=>rG n l
 |.clo _ l=>rG n l
 |.f _ _=>ai
 |.fel _ _ _ _ _=>ai
 |.emp=>ai
 |.nil=>ai
 |.undef=>ai
 |.np=>ai
 |.anyb=>ai
def rG (n:Nat):List TV->Bool
 |[]=>ai
 |x::r=>LD n x&&rG n r
end
def Db (t:Tm) (x:t.ty.den):Option (List TV×bk):=
 match qe (λi=>i) t.vs (OW _ _ x) with
 |some vs=>(match MG (λi=>i) t.bs (Lu _ _ x) PT.leaf with
  |some h=>if kX h vs&&rG t.bs.length vs&&PT.all (λ_ b=>match b with|.cells _ l=>kX h l&&rG t.bs.length l|_=>ai) 1 0 h then af (vs,h) else ah
  |none=>ah)
 |none=>ah
abbrev KO (R:Type):=TV->Nat->Nat->bk->Nat->Option R
def Qp:List TV->TV
 |[x]=>x
 |l=>.tup l
def BT:List PB->Bool
 |[]=>ai
 |.gone::_=>aj
 |_::r=>BT r
def Ii:List PB->Bool
 |[]=>ai
 |.rows _ _ _::r=>Ii r
 |_::_=>aj
def uf (h h2:bk) (g:Nat->Nat):Nat->Bool
 |0=>ai
 |n+1=>(match eJ h (g n) with
  |some (p,s,k)=>(match eJ h2 (g n) with|some (I,s',k')=>(p==I)&&aC s s'&&aC k k'|none=>aj)
  |none=>ai)&&uf h h2 g n
def Xu {R:Type} (con:FuncId->Option cr) (f:FuncId) (l:List TV) (h:bk) (nx:Nat) (K:KO R):Option R:=
 match con f with
 |some c=>(match EM 0 c.pre l h with
  |some ⟨x,m,σ,sm⟩=>(match Db c.pre x with
   |some _=>obind (c.m x) λy=>(match Db c.post y with
    |some _=>if eQ c.pre.bs.length c.post.bs.length&&BT c.pre.bs then
      let np:=c.pre.bs.length
      let I:=c.post.bs.length-np
      let g:=λi=>if gk i np then im σ i else nx+(i-np)
      (match qe g c.post.vs (OW _ _ y) with
      |some rs=>if !(aC m 0)&&aC c.post.bs.length 0&&(PV.tyL c.post.vs).flat then K (Qp rs) m 0 h nx else
       (match MG g c.post.bs (Lu _ _ y) (eK m h) with
       |some h2=>chk (uf h h2 g np) λ_=>K (Qp rs) (sm|||m) (sm|||m|||(((1<<<I)-1)<<<nx)) h2 (nx+I)
       |none=>ah)
      |none=>ah) else if aC c.post.bs.length 0&&Ii c.pre.bs then
      let np:=c.pre.bs.length
      let g:=λi=>if gk i np then im σ i else nx+(i-np)
      (match qe g c.post.vs (OW _ _ y) with
      |some rs=>(match MG g c.pre.bs (Lu _ _ x) (eK m h) with
       |some h2=>K (Qp rs) (sm|||m) m h2 nx
       |none=>ah)
      |none=>ah) else ah
    |none=>ah)
   |none=>ah)
  |none=>ah)
 |none=>ah
def ajg {R:Type} (op:BinOp) (x y:TV) (q:TV->Option R):Option R:=
 match x,y with
 |.f (.int k) a,.f (.int k') b=>if k==k' then
   (match op with
   |.add=>q (.f (.int k) (bn k (a+b)))
   |.sub=>q (.f (.int k) (bn k (a-b)))
   |.mul=>q (.f (.int k) (bn k (a*b)))
   |.rem=>chk (!decide ((b:Int)=0)) λ_=>q (.f (.int k) (Ak a b))
   |.quo=>chk (!decide ((b:Int)=0)) λ_=>q (.f (.int k) (bn k (Int.tdiv a b)))
   |.eql=>q (.f .bool (decide ((a:Int)=b)))
   |.neq=>q (.f .bool (!decide ((a:Int)=b)))
   |.lss=>q (.f .bool (fX a b))
   |.leq=>q (.f .bool (cZ a b))
   |.gtr=>q (.f .bool (fX b a))
   |.geq=>q (.f .bool (cZ b a))
   |_=>ah)
  else ah
 |.f .str a,.f .str b=>match op with
   |.eql=>q (.f .bool (decide ((a:List UInt8)=b)))
   |.neq=>q (.f .bool (!decide ((a:List UInt8)=b)))
   |_=>ah
 |_,_=>ah
def X9:Bool->Ty->Bool
 |false,.int _=>ai
 |true,.str=>ai
 |_,_=>aj
abbrev itK:Ty:=.st (.pr .str (.int .i64))
def isIt:Ty->Bool
 |.st (.pr .str (.int .i64))=>ai
 |_=>aj
def Uo (K:Ty):Bool:= !isIt K
def P3:List ((List UInt8×Int)×Unit)->List UInt8
 |[]=>[]
 |e::_=>e.1.1
def Ou:List ((List UInt8×Int)×Unit)->Nat
 |[]=>0
 |e::_=>aS e.1.2
def itE:(K V:Ty)->List (K.den×V.den)->Option (List UInt8×Nat)
 |.st (.pr .str (.int .i64)),.un,es=>af (P3 es,Ou es)
 |_,_,_=>ah
def mpE:(K V:Ty)->List (K.den×V.den)->Bool
 |.un,.un,[]=>ai
 |_,_,_=>aj
def yU (T:Ty):List TV->Option (List T.den)
 |[]=>af []
 |.f S v::r=>match xc (S:=S) T v with
  |some x=>(match yU T r with|some l=>af (x::l)|none=>ah)
  |none=>ah
 |_::_=>ah
def acm:List TV->Option ((T:Ty)×List T.den)
 |.f T v::r=>match yU T (.f T v::r) with|some l=>af ⟨T,l⟩|none=>ah
 |_=>ah
def amg (n sz:Nat) (v:TV):Bool->Option ((T:Ty)×List T.den)
 |true=>ah
 |false=>if aC sz 1&& !v.isC then (match v.cs with|some l=>if aC l.length n then acm l else ah|none=>ah) else ah
def arrB (n sz off:Nat):Option iD->Option ((T:Ty)×List T.den)
 |some (.cells _ l)=>if aC sz 1&&aC off 0&&aC l.length n then acm l else ah
 |_=>ah
def ahn:Ty->Nat
 |.pr .un t=>ahn t+1
 |_=>0
def D2:Option Ty->Option Nat
 |some (.pr .un t)=>af (ahn t)
 |_=>ah
def ahr {R:Type} (ty:TypeId) (sz bytes:Nat) (b y:TV) (h:bk) (nx:Nat) (K:KO R):Option R:=match y with
 |.csl id2 sz2 m=>(match h.get id2 with
  |some (.cells _ l2)=>if aC sz2 sz&&aC l2.length (m*sz)&& !(aC m 0) then (match b with
   |.csl id sz1 n=>(match h.get id with
    |some (.cells ty1 l)=>if aC sz1 sz&&ty1==ty&&aC l.length (n*sz)&& !(aC id id2) then
      chk (bc (n+m) bytes) λ_=>K (.csl nx sz (n+m)) (kV id|||kV id2) (kV id|||kV nx) ((h.set id (af (.dead ai 0 0))).set nx (af (.cells ty (l++l2)))) (nx+1) else ah
    |_=>ah)
   |.nil=>chk (bc m bytes) λ_=>K (.csl nx sz m) (kV id2) (0|||kV nx) ((eK 0 h).set nx (af (.cells ty l2))) (nx+1)
   |_=>ah) else ah
  |_=>ah)
 |_=>ah
def pkT (ok:Bool) (v b:TV):TV:=match ok with|true=>.tup [v,b]|false=>v
def d_ {R:Type} (con:FuncId->Option cr) (b8:TypeId->Option Ty) (o:SI) (e:iU) (h:bk) (nx:Nat) (K:KO R):Option R:=
 match o with
 |.call f args=>match F3 e args with|some l=>Xu con f l h nx K|none=>ah
 |.callv x args=>match fP e x,F3 e args with
  |some (.clo f cap),af l=>Xu con f (l++cap) h nx K
  |_,_=>ah
 |.op s=>match s with
  |.mksl ty sz bytes z l c=>match D2 (b8 ty) with
   |some n=>(match Kp z,fP e l,fP e c with
    |some J,af (.f (.int _) a),af (.f (.int _) b)=>chk (cZ 0 a&&cZ a b&&bc (aS b) bytes&&decide ((a:Int)=aQ n)) λ_=>K (.csl nx sz n) 0 (0|||kV nx) ((eK 0 h).set nx (af (.cells ty (aG n J).flatten))) (nx+1)
    |_,_,_=>ah)
   |none=>match b8 ty,fP e l,fP e c with
   |some T,af (.f (.int _) a),af (.f (.int _) b)=>if aC sz T.size&&SS z (s_ T) then
     chk (cZ 0 a&&cZ a b&&bc (aS b) bytes) λ_=>K (.row nx) 0 (kV nx) (h.set nx (af (.rows ty aj T (aG (aS a) T.zero)))) (nx+1) else ah
   |_,_,_=>ah
  |.bsl ty sz len z parts=>match D2 (b8 ty) with
   |some _=>(match Kp z with
    |some J=>(match JH ((aG len J).flatten) e parts with
     |some cs=>if aC len 0 then ah else K (.csl nx sz len) 0 (0|||kV nx) ((eK 0 h).set nx (af (.cells ty cs))) (nx+1)
     |none=>ah)
    |none=>ah)
   |none=>match b8 ty,Kp z with
   |some T,af J=>if aC sz T.size then (match JH ((aG len J).flatten) e parts with
    |some cs=>(match za h T len cs with
     |some (xs,m)=>K (.row nx) m (m|||kV nx) ((eK m h).set nx (af (.rows ty (aC len 0) T xs))) (nx+1)
     |none=>ah)
    |none=>ah) else ah
   |_,_=>ah
  |.app ty sz bytes s x=>match D2 (b8 ty) with
   |some _=>(match fP e s,fP e x with
    |some b,af y=>ahr ty sz bytes b y h nx K
    |_,_=>ah)
   |none=>match b8 ty,fP e s,fP e x with
   |some T,af b,af y=>if aC sz T.size then (match D' h (.sl T) y with
    |some (I,m)=>(match b with
     |.row id=>(match h.get id with
      |some (.rows ty' p S xs)=>(match xc (S:=.sl S) (.sl T) xs with
       |some xs=>if ty'==ty&& !(aN m id) then
         chk (bc (al xs+al I) bytes) λ_=>K (.row nx) (kV id|||m) (kV id|||kV nx) ((h.set id (af (.dead p sz (al xs)))).set nx (af (.rows ty p T (xs++I)))) (nx+1)
        else ah
       |none=>ah)
      |_=>ah)
     |.emp=>chk (bc (al I) bytes) λ_=>K (.row nx) m (kV nx) (h.set nx (af (.rows ty ai T I))) (nx+1)
     |.nil=>chk (bc (al I) bytes) λ_=>K (.row nx) m (kV nx) (h.set nx (af (.rows ty ai T I))) (nx+1)
     |_=>ah)
    |none=>ah) else ah
   |_,_,_=>ah
  |.copy sz d x=>match fP e d,fP e x with
   |some (.row id),af y=>(match h.get id with
    |some (.rows ty p T xs)=>if aC sz T.size then (match D' h (.sl T) y with
     |some (I,m)=>if !(aN m id)&& !p then
       K (.f (.int .i64) (aQ (iZ (al I) (al xs)))) (kV id|||m) (kV id) (h.set id (af (.rows ty p T (TQ xs I)))) nx else ah
     |none=>ah) else ah
    |_=>ah)
   |_,_=>ah
  |.clr sz z x=>match fP e x with
   |some (.rtl id j)=>(match h.get id with
    |some (.rows ty p T xs)=>if (aC sz T.size&&SS z (s_ T))&&mJ z then
      chk (cZ 0 j&&fX j (al xs)) λ_=>K (.tup []) (kV id) (0|||kV id) ((eK 0 h).set id (af (.rows ty p T (dF (aS j) xs++aG (al xs-aS j) T.zero)))) nx
     else ah
    |_=>ah)
   |_=>ah
  |.mv x=>match fP e x with|some v=>K v 0 0 h nx|none=>ah
  |.pick c a b=>match fP e c with
   |some (.f .bool t)=>bcase t (match fP e a with|some v=>K v 0 0 h nx|none=>ah) (match fP e b with|some v=>K v 0 0 h nx|none=>ah)
   |_=>ah
  |.alloc ty z=>match Kp z with
   |some l=>K (.ptr nx 0) 0 (kV nx) (h.set nx (af (.cells ty l))) (nx+1)
   |none=>ah
  |.box ty x=>match fP e x with
   |some v=>(match v.cs with|some l=>K (.ptr nx 0) 0 (kV nx) (h.set nx (af (.cells ty l))) (nx+1)|none=>ah)
   |none=>ah
  |.build z parts=>match Kp z with
   |some l=>(match JH l e parts with|some cs=>K (.agg cs) 0 0 h nx|none=>ah)
   |none=>ah
  |.load sz ag x=>match fP e x with
   |some (.ptr id off)=>(match h.get id with
    |some (.cells _ l)=>(match T4 l off sz ag with|some v=>K v (kV id) 0 h nx|none=>ah)
    |_=>ah)
   |some (.pel id sz' j off)=>(match h.get id with
    |some (.rows _ _ T xs)=>if aC sz' T.size then chk (fm j xs.length) λ_=>(match oq 40 T (aJ xs j) off sz ag with|some v=>K v (kV id) 0 h nx|none=>ah) else ah
    |some (.cells _ l)=>(match ag with
     |true=>ah
     |false=>if aC sz 1&&aC sz' 1&&aC off 0 then (match acm l with
      |some ⟨T,xs⟩=>chk (fm j l.length) λ_=>K (.f T (aJ xs j)) (kV id) 0 h nx
      |none=>ah) else ah)
    |_=>ah)
   |some (.fel T xs j _ off)=>(match oq 40 T (aJ xs j) off sz ag with|some v=>K v 0 0 h nx|none=>ah)
   |_=>ah
  |.store sz x v=>match fP e x,fP e v with
   |some (.ptr id off),af y=>(match h.get id with
    |some (.cells ty l)=>(match y.cs with
     |some cs=>if cs.length==sz&&eQ (off+sz) l.length then K .undef (kV id) (kV id) (h.set id (af (.cells ty (splice l off cs)))) nx else ah
     |none=>ah)
    |_=>ah)
   |some (.pel id sz' j off),af y=>(match h.get id with
    |some (.rows ty p T xs)=>if aC sz' T.size then chk (fm j xs.length) λ_=>(match gV h y 40 T (aJ xs j) off sz with
     |some (z,m)=>if aN m id then ah else K .undef (m|||kV id) (m|||kV id) ((eK m h).set id (af (.rows ty p T (ct xs j z)))) nx
     |none=>ah) else ah
    |some (.cells ty l)=>if aC sz 1&&(aC sz' 1&&aC off 0) then chk (fm j l.length) λ_=>(match y.cs with
     |some cs=>if aC cs.length 1 then K .undef (kV id) (kV id) (h.set id (af (.cells ty (splice l j.toNat cs)))) nx else ah
     |none=>ah) else ah
    |_=>ah)
   |_,_=>ah
  |.nilc x=>match fP e x with
   |some (.ptr id off)=>K (.ptr id off) 0 0 h nx
   |some (.pel id sz j off)=>K (.pel id sz j off) 0 0 h nx
   |some (.fel T xs j hj off)=>K (.fel T xs j hj off) 0 0 h nx
   |some (.clo g cap)=>K (.clo g cap) 0 0 h nx
   |_=>ah
  |.bin op x y=>match fP e x,fP e y with
   |some u,af v=>ajg op u v λr=>K r 0 0 h nx
   |_,_=>ah
  |.eqs neg ds x y=>match q_ ds,fP e x,fP e y with
   |some T,af u,af v=>if u.isC||v.isC||Ux x||Ux y then ah else (match u.cs,v.cs with
    |some lu,af lv=>(match fc PT.leaf 40 T lu,fc PT.leaf 40 T lv with
     |some (a,_,[]),af (b,_,[])=>K (.f .bool (Lr T a b !=neg)) 0 0 h nx
     |_,_=>ah)
    |_,_=>ah)
   |_,_,_=>ah
  |.isnil neg x=>match fP e x with
   |some .nil=>K (.f .bool (!neg)) 0 0 h nx
   |some .emp=>K .anyb 0 0 h nx
   |some (.f (.sl _) xs)=>bcase (aC (al xs) 0) (K .anyb 0 0 h nx) (K (.f .bool neg) 0 0 h nx)
   |some (.row id)=>(match h.get id with
    |some (.rows _ aj _ _)=>K (.f .bool neg) 0 0 h nx
    |_=>ah)
   |_=>ah
  |.eqb neg x y=>match fP e x,fP e y with
   |some (.f .bool a),af (.f .bool b)=>K (.f .bool ((a==b) !=neg)) 0 0 h nx
   |_,_=>ah
  |.not x=>match fP e x with|some (.f .bool b)=>K (.f .bool (!b)) 0 0 h nx|_=>ah
  |.conv k x=>match fP e x with|some (.f (.int _) n)=>K (.f (.int k) (bn k n)) 0 0 h nx|_=>ah
  |.slc sz x lo hi mx=>match fP e x with
   |some v=>(match lo,hi,mx with
    |none,af (.const (.int _ 0)),af (.const (.int _ 0))=>if (lenOf h v).isSome then K .emp 0 0 h nx else ah
    |none,af b,ah=>(match v,fP e b with
     |.f (.sl T) xs,af (.f (.int _) j)=>if aC sz T.size then chk (cZ 0 j&&cZ j (al xs)) λ_=>K (.f (.sl T) (dF (aS j) xs)) 0 0 h nx else ah
     |.row id,af (.f (.int _) j)=>(match h.get id with
      |some (.rows ty p T xs)=>if aC sz T.size then
        chk (cZ 0 j&&fX j (al xs)) λ_=>K (.row nx) (kV id) (kV id|||kV nx) ((h.set id (af (.dead p sz (al xs)))).set nx (af (.rows ty aj T (dF (aS j) xs)))) (nx+1)
       else ah
      |_=>ah)
     |_,_=>ah)
    |some b,ah,ah=>(match v,fP e b with
     |.f (.sl T) xs,af (.f (.int _) j)=>if aC sz T.size then chk (cZ 0 j&&cZ j (al xs)) λ_=>K (.f (.sl T) (List.drop (aS j) xs)) 0 0 h nx else ah
     |.row id,af (.f (.int _) j)=>(match h.get id with
      |some (.rows _ _ T xs)=>if aC sz T.size then chk (cZ 0 j&&fX j (al xs)) λ_=>K (.rtl id j) 0 0 h nx else ah
      |_=>ah)
     |_,_=>ah)
    |_,_,_=>ah)
   |none=>ah
  |.fad off x=>match fP e x with
   |some (.ptr id o)=>K (.ptr id (o+off)) 0 0 h nx
   |some (.pel id sz j o)=>K (.pel id sz j (o+off)) 0 0 h nx
   |some (.fel T xs j hj o)=>K (.fel T xs j hj (o+off)) 0 0 h nx
   |_=>ah
  |.fld off sz ag x=>match fP e x with
   |some (.agg l)=>(match T4 l off sz ag with|some v=>K v 0 0 h nx|none=>ah)
   |some (.f T v)=>if T.one then ah else (match oq 40 T v off sz ag with|some v=>K v 0 0 h nx|none=>ah)
   |_=>ah
  |.iad sz x i=>match fP e x,fP e i with
   |some (.row id),af (.f (.int _) j)=>(match h.get id with
    |some (.rows _ _ T xs)=>if aC sz T.size then chk (fm j xs.length) λ_=>K (.pel id sz j 0) 0 0 h nx else ah
    |_=>ah)
   |some (.f (.sl T) xs),af (.f (.int _) j)=>if aC sz T.size then chk (fm j (al xs)) λhj=>K (.fel T xs j hj 0) 0 0 h nx else ah
   |some (.csl id sz' n),af (.f (.int _) j)=>if aC sz' sz then chk (cZ 0 j&&fX j n) λ_=>K (.ptr id (aS j*sz)) 0 0 h nx else ah
   |_,_=>ah
  |.iada n sz x i=>match fP e x,fP e i with
   |some (.ptr id off),af (.f (.int _) j)=>(match arrB n sz off (h.get id) with
    |some _=>chk (cZ 0 j&&fX j n) λ_=>K (.pel id sz j off) 0 0 h nx
    |none=>chk (cZ 0 j&&fX j n) λ_=>K (.ptr id (off+aS j*sz)) 0 0 h nx)
   |_,_=>ah
  |.idx n sz ag x i=>match fP e x,fP e i with
   |some v,af (.f (.int _) j)=>(match amg n sz v ag with
    |some ⟨T,xs⟩=>chk (cZ 0 j&&fX j n) λ_=>K (.f T (aJ xs j)) 0 0 h nx
    |none=>(match v with
     |.agg l=>chk (cZ 0 j&&fX j n) λ_=>(match T4 l (aS j*sz) sz ag with|some v=>K v 0 0 h nx|none=>ah)
     |.f T v=>if T.one then ah else chk (cZ 0 j&&fX j n) λ_=>(match oq 40 T v (aS j*sz) sz ag with|some v=>K v 0 0 h nx|none=>ah)
     |_=>ah))
   |_,_=>ah
  |.ext x i=>match fP e x with|some (.tup l)=>(match l[i]? with|some v=>K v 0 0 h nx|none=>ah)|_=>ah
  |.len x=>match fP e x with
   |some v=>(match lenOf h v with|some n=>K (.f (.int .i64) (aQ n)) 0 0 h nx|none=>ah)
   |none=>ah
  |.lens x=>match fP e x with
   |some (.f .str s)=>K (.f (.int .i64) (aQ (al s))) 0 0 h nx
   |_=>ah
  |.max x y=>match fP e x,fP e y with
   |some (.f (.int k) a),af (.f (.int k') b)=>if k==k' then K (.f (.int k) (jD a b)) 0 0 h nx else ah
   |_,_=>ah
  |.min x y=>match fP e x,fP e y with
   |some (.f (.int k) a),af (.f (.int k') b)=>if k==k' then K (.f (.int k) (Hm a b)) 0 0 h nx else ah
   |_,_=>ah
  |.sidx x i=>match fP e x,fP e i with
   |some (.f .str s),af (.f (.int _) j)=>chk (fm j (al s)) λ_=>K (.f (.int .u8) (AD s j)) 0 0 h nx
   |_,_=>ah
  |.rng x=>match fP e x with
   |some (.f .str s)=>K (.ptr nx 0) 0 (0|||kV nx) ((eK 0 h).set nx (af (.mp itK .un [((s,0),())]))) (nx+1)
   |_=>ah
  |.nxt x=>match fP e x with
   |some (.ptr id 0)=>(match h.get id with
    |some (.mp K' V es)=>(match itE K' V es with
     |some (s,p)=>bcase (gk p (al s)) (chk (fX (AD s (aQ p)) 128) λ_=>K (.tup [.f .bool ai,.f (.int .i64) (aQ p),.f (.int .i32) (AD s (aQ p))]) (kV id) (0|||kV id) ((eK 0 h).set id (af (.mp itK .un [((s,aQ (p+1)),())]))) nx)
       (K (.tup [.f .bool aj]) (kV id) (0|||kV id) ((eK 0 h).set id (af (.mp itK .un [((s,aQ p),())]))) nx)
     |none=>ah)
    |_=>ah)
   |_=>ah
  |.mkm=>K (.mp nx) 0 (0|||kV nx) ((eK 0 h).set nx (af (.mp .un .un []))) (nx+1)
  |.lku str ok z x k=>match fP e x,fP e k with
   |some (.mp id),af (.f KT M)=>(match h.get id with
    |some (.mp K' V es)=>if X9 str KT&&Uo K' then (match mpE K' V es with
     |true=>(match cst z with|some v=>K (pkT ok v (.f .bool aj)) (kV id) 0 h nx|none=>ah)
     |false=>(match xc (S:=KT) K' M,cst z with
      |some kv',af (.f Z Y)=>(match xc (S:=Z) V Y with
       |some zv'=>K (pkT ok (.f V (tm kv' es zv')) (.f .bool (Ol kv' es))) (kV id) 0 h nx
       |none=>ah)
      |_,_=>ah)) else ah
    |_=>ah)
   |_,_=>ah
  |.mup str x k v=>match fP e x,fP e k,fP e v with
   |some (.mp id),af (.f KT M),af (.f VT U)=>(match h.get id with
    |some (.mp K' V es)=>if (X9 str KT&&VT.one)&&Uo K' then (match mpE K' V es with
     |true=>K .undef (kV id) (0|||kV id) ((eK 0 h).set id (af (.mp KT VT [(M,U)]))) nx
     |false=>(match xc (S:=KT) K' M,xc (S:=VT) V U with
      |some kv',af vv'=>K .undef (kV id) (0|||kV id) ((eK 0 h).set id (af (.mp K' V (C3 kv' vv' es)))) nx
      |_,_=>ah)) else ah
    |_=>ah)
   |_,_,_=>ah
  |.lenm x=>match fP e x with
   |some (.mp id)=>(match h.get id with
    |some (.mp K' _ es)=>if Uo K' then K (.f (.int .i64) (aQ es.length)) (kV id) 0 h nx else ah
    |_=>ah)
   |_=>ah
  |.mkf f caps=>match F3 e caps with|some l=>K (.clo f l) 0 0 h nx|none=>ah
  |_=>ah
def ZU {R:Type} (e:iU) (g:Option (Nat×Bool)) (K:Bool->iU->Option R):Option R:=match g with
 |none=>K ai e
 |some (t,want)=>match e.get t with
  |some (.f .bool b)=>(match want with
   |true=>bcase b (K ai (e.set t (af (.f .bool ai)))) (K aj (e.set t (af (.f .bool aj))))
   |false=>bcase b (K aj (e.set t (af (.f .bool ai)))) (K ai (e.set t (af (.f .bool aj)))))
  |some .undef=>K aj e
  |_=>ah
def EB (e:iU) (d:Option Nat) (v:TV):iU:=match d with
 |none=>e
 |some d=>e.set d (af v)
structure TS where
 e:iU
 h:bk
 nx:Nat
def Ly {R:Type} (con:FuncId->Option cr) (b8:TypeId->Option Ty):List sP->TS->List FPm->(TS->List FPm->Option R)->Option R
 |[],s,fs,K=>K s fs.reverse
 |o::r,s,fs,K=>ZU s.e o.guard λrun e=>match run with
  |true=>d_ con b8 o.op e s.h s.nx λv rd wr h nx=>if LB h v then Ly con b8 r ⟨EB e o.dst v,h,nx⟩ (⟨rd,wr⟩::fs) K else ah
  |false=>Ly con b8 r ⟨EB e o.dst .undef,s.h,s.nx⟩ (⟨0,0⟩::fs) K
inductive Adj where
 |nil (k:Nat) (ty:TypeId) (T:Ty)
 |cel (k:Nat) (off:Nat) (ty:TypeId) (T:Ty)
 |mpt (k:Nat) (K V:Ty)
 |pk (k:Nat) (off:Nat) (T:Ty)
 |ren (k:Nat) (off:Nat)
mutual
def Lt (id sz n:Nat):TV->TV
 |.csl i s m=>if aC i id&&aC s sz&&aC m n then .row id else .csl i s m
 |.agg l=>.agg (CD id sz n l)
 |.tup l=>.tup (CD id sz n l)
 |.clo g l=>.clo g (CD id sz n l)
 |.f T v=>.f T v
 |.fel T xs j h off=>.fel T xs j h off
 |.pel a b c d=>.pel a b c d
 |.ptr a b=>.ptr a b
 |.row a=>.row a
 |.rtl a j=>.rtl a j
 |.emp=>.emp
 |.nil=>.nil
 |.mp a=>.mp a
 |.undef=>.undef
 |.np=>.np
 |.anyb=>.anyb
def CD (id sz n:Nat):List TV->List TV
 |[]=>[]
 |x::r=>Lt id sz n x::CD id sz n r
end
def XV (id sz n:Nat):iD->iD
 |.cells ty l=>.cells ty (CD id sz n l)
 |.rows ty p T xs=>.rows ty p T xs
 |.dead p s m=>.dead p s m
 |.mp K V es=>.mp K V es
def amz (s:TS) (k off:Nat):Option (Nat×Nat×Nat):=match s.e.get k with
 |some (.csl id sz n)=>af (id,sz,n)
 |some (.agg l)=>(match l[off]? with|some (.csl id sz n)=>af (id,sz,n)|_=>ah)
 |some (.ptr a o)=>(match s.h.get a with
  |some (.cells _ l)=>(match l[o+off]? with|some (.csl id sz n)=>af (id,sz,n)|_=>ah)
  |_=>ah)
 |_=>ah
def pkS (s:TS) (T:Ty) (id sz n:Nat):Option TS:=match s.h.get id with
 |some (.cells ty l)=>if aC sz T.size then (match za s.h T n l with
  |some (xs,m)=>if aN m id then ah else af ⟨PT.updI (λ_ v=>Lt id sz n v) 1 0 s.e,(PT.updI (λ_ b=>XV id sz n b) 1 0 (eK m s.h)).set id (af (.rows ty aj T xs)),s.nx⟩
  |none=>ah) else ah
 |_=>ah
def aex:TV->Bool
 |.nil=>ai
 |.emp=>ai
 |_=>aj
def am4:Option TV->Option (Nat×Nat)
 |some (.ptr id o)=>af (id,o)
 |some (.csl id _ _)=>af (id,0)
 |_=>ah
def PI (s:TS):Adj->Option TS
 |.nil k ty T=>match s.e.get k with
  |some v=>if aex v then af ⟨s.e.set k (af (.row s.nx)),s.h.set s.nx (af (.rows ty ai T [])),s.nx+1⟩ else af s
  |none=>ah
 |.cel k off ty T=>match am4 (s.e.get k) with
  |some (id,o)=>(match s.h.get id with
   |some (.cells cty l)=>(match l[o+off]? with
    |some v=>if aex v then af ⟨s.e,(s.h.set s.nx (af (.rows ty ai T []))).set id (af (.cells cty (splice l (o+off) [.row s.nx]))),s.nx+1⟩ else af s
    |none=>ah)
   |_=>ah)
  |_=>ah
 |.mpt k K V=>match s.e.get k with
  |some (.mp id)=>(match s.h.get id with
   |some (.mp K' V' es)=>(match mpE K' V' es&&Uo K with
    |true=>af ⟨s.e,s.h.set id (af (.mp K V [])),s.nx⟩
    |false=>af s)
   |_=>ah)
  |_=>ah
 |.pk k off T=>match amz s k off with
  |some (id,sz,n)=>pkS s T id sz n
  |none=>ah
 |.ren k off=>match s.e.get k with
  |some (.ptr b o)=>(match s.h.get b with
   |some (.cells cty l)=>(match l[o+off]? with
    |some (.row id)=>(match s.h.get id with
     |some (.rows ty p T xs)=>af ⟨s.e,((s.h.set id (af (.dead p T.size xs.length))).set s.nx (af (.rows ty p T xs))).set b (af (.cells cty (splice l (o+off) [.row s.nx]))),s.nx+1⟩
     |_=>ah)
    |_=>ah)
   |_=>ah)
  |some (.row id)=>(match s.h.get id with
   |some (.rows ty p T xs)=>af ⟨s.e.set k (af (.row s.nx)),(s.h.set id (af (.dead p T.size xs.length))).set s.nx (af (.rows ty p T xs)),s.nx+1⟩
   |_=>ah)
  |_=>ah
def Y2 (s:TS):List Adj->Option TS
 |[]=>af s
 |a::r=>match PI s a with|some s'=>Y2 s' r|none=>ah
structure ZI where
 keep:List Nat
 ks:List Nat
 t:Tm
 pre:List Adj
abbrev ZI.D (A:ZI):Type:=A.t.ty.den
mutual
def uy:TV->Bool
 |.f _ _=>ai
 |.fel _ _ _ _ _=>ai
 |.emp=>ai
 |.nil=>ai
 |.undef=>ai
 |.np=>ai
 |.anyb=>ai
 |.agg l=>qA l
 |.tup l=>qA l
 |.pel _ _ _ _=>aj
 |.ptr _ _=>aj
 |.csl _ _ _=>aj
 |.row _=>aj
 |.rtl _ _=>aj
 |.mp _=>aj
 |.clo _ _=>aj
def qA:List TV->Bool
 |[]=>ai
 |x::r=>uy x&&qA r
end
def C' (am:Nat) (e:iU):List Nat->iU
 |[]=>PT.leaf
 |k::r=>match e.get k with|some v=>if uy v&& !(aN am k) then (C' am e r).set k (af v) else C' am e r|none=>C' am e r
def od (e:iU):List Nat->Option (List TV)
 |[]=>af []
 |k::r=>match e.get k with|some v=>(match od e r with|some l=>af (v::l)|none=>ah)|none=>ah
def XX (e:iU):List Nat->List TV->iU
 |k::r,v::l=>(XX e r l).set k (af v)
 |_,_=>e
def H6 (am:Nat) (e0 e:iU):List Nat->Bool
 |[]=>ai
 |k::r=>(match e0.get k with
  |some v=> !(uy v)||aN am k||(match e.get k with|some _=>ai|none=>aj)
  |none=>ai)&&H6 am e0 e r
def L2 (np:Nat) (A:ZI) (am:Nat) (I s:TS):Option A.D:=if eQ np A.t.bs.length&&H6 am I.e s.e A.keep then (match Y2 s A.pre with
 |some s=>(match od s.e A.ks with
  |some vs=>(match EM np A.t vs s.h with
   |some ⟨x,_,_,_⟩=>af x
   |none=>ah)
  |none=>ah)
 |none=>ah) else ah
def Hg (A:ZI) (am:Nat) (s:TS) (x:A.D):Option TS:=match Db A.t x with
 |some (vs,h)=>if aC vs.length A.ks.length then af ⟨XX (C' am s.e A.keep) A.ks vs,h,A.t.bs.length⟩ else ah
 |none=>ah
inductive TC where
 |skip
 |reg (ops:List sP) (prs:List (Nat×Nat))
 |seq (a b:TC)
 |jseq (A:ZI) (a b:TC)
 |cond (c:Nat) (a b:TC)
 |block (id:Nat) (b:TC)
 |jblock (A:ZI) (id:Nat) (b:TC)
 |loop (A:ZI) (b:TC)
 |exit (id:Nat)
 |ret
 |defer (f:FuncId) (caps:List Operand) (t:Nat)
 |adj (l:List Adj) (c:TC)
 |split (k off lo n:Nat) (c:TC)
 |unl (n:Nat) (b:TC)
 |bad
def PC:List sP->Nat->Nat
 |[],acc=>acc
 |o::r,acc=>PC r (match o.dst with|some d=>acc|||kV d|none=>acc)
def LF:List Nat->Nat->Nat
 |[],acc=>acc
 |k::r,acc=>LF r (acc|||kV k)
def oF:List Adj->Nat->Nat
 |[],acc=>acc
 |.nil k _ _::r,acc=>oF r (acc|||kV k)
 |.cel _ _ _ _::r,acc=>oF r acc
 |.mpt _ _ _::r,acc=>oF r acc
 |.pk _ _ _::r,acc=>oF r acc
 |.ren k _::r,acc=>oF r (acc|||kV k)
def TC.asg:TC->Nat->Nat
 |.reg ops _,acc=>PC ops acc
 |.seq a b,acc=>b.asg (a.asg acc)
 |.jseq A a b,acc=>b.asg (a.asg (LF A.ks acc))
 |.cond _ a b,acc=>b.asg (a.asg acc)
 |.block _ b,acc=>b.asg acc
 |.jblock A _ b,acc=>b.asg (LF A.ks acc)
 |.loop A b,acc=>b.asg (LF A.ks acc)
 |.defer _ _ t,acc=>acc|||kV t
 |.adj l c,acc=>c.asg (oF l acc)
 |.split _ _ _ _ c,acc=>c.asg acc
 |.unl _ b,acc=>b.asg acc
 |.skip,acc=>acc
 |.exit _,acc=>acc
 |.ret,acc=>acc
 |.bad,acc=>acc
inductive adi where
 |j (A:ZI)
 |a (l:List Adj)
 |s (k off lo n:Nat)
 |u (n:Nat)
def In (H:PT adi) (n:Nat) (c:TC):TC:=match H.get n with|some (.a l)=>.adj l c|some (.s k off lo m)=>.split k off lo m c|_=>c
def DW (H:PT adi):SC->Nat->TC×Nat
 |.skip,n=>(In H n .skip,n+1)
 |.reg o p,n=>(In H n (.reg o p),n+1)
 |.seq a b,n=>match DW H a (n+1) with
  |(a',k)=>(match DW H b k with|(b',k')=>((match H.get n with|some (.j A)=>.jseq A a' b'|_=>.seq a' b'),k'))
 |.cond c a b,n=>match DW H a (n+1) with
  |(a',k)=>(match DW H b k with|(b',k')=>(In H n (.cond c a' b'),k'))
 |.block id b,n=>match DW H b (n+1) with|(b',k)=>((match H.get n with|some (.j A)=>.jblock A id b'|_=>.block id b'),k)
 |.loop b,n=>match DW H b (n+1) with|(b',k)=>((match H.get n with|some (.j A)=>.loop A b'|some (.u m)=>.unl m b'|_=>.bad),k)
 |.exit id,n=>(In H n (.exit id),n+1)
 |.ret,n=>(In H n .ret,n+1)
 |.defer f c t,n=>(.defer f c t,n+1)
 |.bad,n=>(.bad,n+1)
def ab1 (s:TS) (k off:Nat):Option (IntKind×Int):=match s.e.get k with
 |some (.f (.int kd) v)=>af (kd,v)
 |some (.ptr a o)=>(match s.h.get a with
  |some (.cells _ l)=>(match l[o+off]? with|some (.f (.int kd) v)=>af (kd,v)|_=>ah)
  |_=>ah)
 |_=>ah
def T9 (s:TS) (k off:Nat) (kd:IntKind) (v:Int):Option TS:=match s.e.get k with
 |some (.f (.int _) _)=>af ⟨s.e.set k (af (.f (.int kd) v)),s.h,s.nx⟩
 |some (.ptr a o)=>(match s.h.get a with
  |some (.cells ty l)=>af ⟨s.e,s.h.set a (af (.cells ty (splice l (o+off) [.f (.int kd) v]))),s.nx⟩
  |_=>ah)
 |_=>ah
def spl {R:Type} (v:Int) (f:Nat->Option R):Nat->Nat->Option R
 |_,0=>ah
 |i,m+1=>bcase (decide ((v:Int)=aQ i)) (f i) (spl v f (i+1) m)
def ae5 {R:Type} (f:TS->(Ex->TS->Option R)->Option R):Nat->TS->(Ex->TS->Option R)->Option R
 |0,_,_=>ah
 |m+1,s,K=>f s λex s'=>match ex with
  |.normal=>ae5 f m s' K
  |ex=>K ex s'
def pi {R:Type} (np:Nat) (con:FuncId->Option cr) (b8:TypeId->Option Ty) (inert:FuncId->Bool):TC->TS->(Ex->TS->Option R)->Option R
 |.skip,s,K=>K .normal s
 |.reg ops prs,s,K=>Ly con b8 ops s [] λs' fs=>if F1 fs prs then K .normal s' else ah
 |.seq a b,s,K=>pi np con b8 inert a s λex s'=>match ex with|.normal=>pi np con b8 inert b s' K|ex=>K ex s'
 |.jseq A a b,s,K=>jn (pi np con b8 inert a s λex s'=>match ex with
   |.normal=>obind (L2 np A (a.asg 0) s s') λx=>af (.inr x)
   |ex=>obind (K ex s') λr=>af (.inl r)) λx=>(match Hg A (a.asg 0) s x with|some s'=>pi np con b8 inert b s' K|none=>ah)
 |.cond c a b,s,K=>match s.e.get c with
  |some (.f .bool t)=>bcase t (pi np con b8 inert a s K) (pi np con b8 inert b s K)
  |some .anyb=>FB (pi np con b8 inert a s K) (pi np con b8 inert b s K)
  |_=>ah
 |.block id b,s,K=>pi np con b8 inert b s λex s'=>match ex with
  |.exit i=>if aC i id then K .normal s' else K (.exit i) s'
  |ex=>K ex s'
 |.jblock A id b,s,K=>jn (pi np con b8 inert b s λex s'=>match ex with
   |.normal=>obind (L2 np A (b.asg 0) s s') λx=>af (.inr x)
   |.exit i=>if aC i id then obind (L2 np A (b.asg 0) s s') λx=>af (.inr x) else obind (K (.exit i) s') λr=>af (.inl r)
   |.ret=>obind (K .ret s') λr=>af (.inl r)) λx=>(match Hg A (b.asg 0) s x with|some s'=>K .normal s'|none=>ah)
 |.loop A b,s,K=>obind (L2 np A (b.asg 0) s s) λx=>iter (λx=>match Hg A (b.asg 0) s x with
   |some s'=>pi np con b8 inert b s' λex s'=>(match ex with
    |.normal=>obind (L2 np A (b.asg 0) s s') λy=>af (.inl y)
    |ex=>obind (K ex s') λr=>af (.inr r))
   |none=>ah) x
 |.exit id,s,K=>K (.exit id) s
 |.ret,s,K=>K .ret s
 |.defer f caps t,s,K=>match F3 s.e caps with
  |some l=>if inert f then K .normal ⟨s.e.set t (af (.clo f l)),s.h,s.nx⟩ else ah
  |none=>ah
 |.adj l c,s,K=>match Y2 s l with|some s'=>pi np con b8 inert c s' K|none=>ah
 |.split k off lo n c,s,K=>match ab1 s k off with
  |some (kd,v)=>spl v (λi=>match T9 s k off kd (aQ i) with|some s'=>pi np con b8 inert c s' K|none=>ah) lo n
  |none=>ah
 |.unl n b,s,K=>ae5 (λs K=>pi np con b8 inert b s K) n s K
 |.bad,_,_=>ah
def KW:Nat->List TV->iU
 |_,[]=>PT.leaf
 |k,x::r=>(KW (k+1) r).set k (af x)
def rvT (s:TS):RV->Option TV
 |.tmp t=>s.e.get t
 |.cell a sz ag=>match s.e.get a with
  |some (.ptr id off)=>(match s.h.get id with|some (.cells _ l)=>T4 l off sz ag|_=>ah)
  |_=>ah
def Ua (s:TS):List RV->Option (List TV)
 |[]=>af []
 |x::r=>match rvT s x with|some v=>(match Ua s r with|some l=>af (v::l)|none=>ah)|none=>ah
structure FT where
 pre:Tm
 post:Tm
 hints:PT adi
def Z3 (con:FuncId->Option cr) (b8:TypeId->Option Ty) (inert:FuncId->Bool) (F:Option SF) (D:FT) (x:D.pre.ty.den):Option D.post.ty.den:=
 match F with
 |some I=>(match Db D.pre x with
  |some (args,h)=>if eQ args.length I.nt&&eQ D.pre.bs.length D.post.bs.length then
    pi D.pre.bs.length con b8 inert (DW D.hints I.code 0).1 ⟨KW 0 args,h,D.pre.bs.length⟩ λex s=>(match ex with
    |.exit _=>ah
    |_=>(match Ua s I.res with
     |some l=>(match EM D.pre.bs.length D.post l s.h with
      |some ⟨y,_,_,_⟩=>(match Db D.post y with|some _=>af y|none=>ah)
      |none=>ah)
     |none=>ah)) else ah
  |none=>ah)
 |none=>ah
abbrev aM:Ty:=(.int .i64)
abbrev kE:Ty:=(.st (.pr .str (.pr aM (.pr aM (.pr .bool aM)))))
abbrev rU:Ty:=(.st (.pr .str .bool))
abbrev mh:Ty:=(.st (.pr .str aM))
abbrev oX:Ty:=(.st (.pr aM (.pr aM aM)))
abbrev nI:Ty:=(.st (.pr (.sl kE) (.pr (.sl rU) (.pr (.sl mh) (.pr (.sl .str) (.pr (.sl .str) (.sl oX)))))))
abbrev kL:Ty:=(.sl (.sl aM))
abbrev eY:Ty:=(.st (.pr aM (.pr (.sl aM) (.pr kL aM))))
abbrev qU:Ty:=(.st (.pr aM (.pr aM (.pr aM (.pr aM (.pr aM aM))))))
abbrev eh:Ty:=(.st (.pr aM (.sl aM)))
abbrev qb:Ty:=(.sl .bool)
abbrev ij:Ty:=(.st (.pr aM (.pr aM .bool)))
abbrev HM:Ty:=(.st (.pr (.sl eh) (.pr aM (.pr qb (.sl ij)))))
abbrev jt:Ty:=(.st (.pr aM (.pr aM (.pr aM (.pr aM (.pr aM (.pr (.sl aM) (.sl aM))))))))
abbrev Hd:Ty:=(.st (.pr aM (.pr aM (.pr .str (.pr aM (.pr aM .str))))))
abbrev s8:Ty:=(.st (.pr .str (.pr aM (.pr (.sl .str) (.sl .sm)))))
abbrev NC:Ty:=(.st (.pr (.sl Hd) (.sl s8)))
abbrev xi:Ty:=(.st (.pr aM (.sl qU)))
abbrev uP:Ty:=(.st (.pr nI (.sl xi)))
abbrev wh:Ty:=(.st (.pr HM (.pr (.sl aM) (.pr (.sl aM) (.sl eY)))))
abbrev iV:Ty:=(.st (.pr HM (.pr (.sl aM) (.pr (.sl aM) (.sl aM)))))
abbrev Eg:Ty:=(.sl (.int .u8))
abbrev yV:Ty:=(.st (.pr Eg aM))
abbrev gp:Ty:=(.st (.pr aM aM))
abbrev mK:Ty:=(.st (.pr nI (.sl jt)))
abbrev S7:=((List UInt8)×Int×Int×Bool×Int)
abbrev gZ:=(List S7)
abbrev gG:=(List ((List UInt8)×Bool))
abbrev fx:=((List UInt8)×Int)
abbrev ca:=(List (List UInt8))
abbrev dJ:=(gZ×gG×(List fx)×ca×ca×List (Int×Int×Int))
abbrev rS:=(gZ×gG×(List fx)×ca×ca×(List (Int×Int×Int))×ca×Int×Int)
abbrev gF:=(List (Int×List Int))
abbrev dz:=(Int×Int×Bool)
abbrev ph:=(gF×Int×(List Bool)×List dz)
abbrev ud:=(Int×(List Int)×(List (List Int))×Int)
abbrev jY:=(Int×Int×Int×Int×Int×Int)
abbrev gg:=(Int×Int×Int×Int×Int×(List Int)×List Int)
abbrev acs:=(Int×Int×(List UInt8)×Int×Int×List UInt8)
abbrev sq:=(List acs)
abbrev sk:=((List UInt8)×Int×ca×List Sx)
abbrev yW:=(Int×Int×Bool×Bool×Bool×Bool)
abbrev Ad:=(dJ×List (Int×List jY))
abbrev v9:=(Int×Int×Int×Int×Int)
abbrev eO:=(ph×(List Int)×(List Int)×List Int)
abbrev fR:=((List Int)×Int)
abbrev xh:=(ph×(List Int)×(List Int)×List ud)
abbrev HJ:=(Int×Int×(List UInt8)×(List UInt8)×Int×Int×List UInt8)
abbrev qV:=(sq×(List sk)×Int)
abbrev S8:=(Bool×List (List UInt8))
abbrev Ya23:=(Int×Int×ud×ud×Int×(List Int)×(List (List Int))×Int)
abbrev Ya24:=(ud×Int×Int×ud×Int×(List Int)×(List (List Int))×Int)
abbrev Ya25:=(ud×ud×Int×Int×Int×(List Int)×(List (List Int))×Int)
abbrev acu:=((List Sx)×yW×fR×Bool×List (List UInt8))
abbrev Ya27:=(Int×Int×ud×Int×(List Int)×(List (List Int))×Int)
abbrev Ya28:=(ud×Int×Int×Int×(List Int)×(List (List Int))×Int)
abbrev Ya29:=(Int×Int×Int×(List Int)×(List (List Int))×Int)
abbrev Y5:=(Int×yW×fR×Bool×List (List UInt8))
abbrev act:=(Sx×yW×fR×Bool×List (List UInt8))
abbrev aga:=((Int×Int)×qV×(Bool×List Sx)×ca×List (List UInt8))
abbrev Mm:=(Sx×rS×List jY)
abbrev Ec:=(xh×gg×Bool)
abbrev acr:=((Sx×Int×Int×Int)×rS×List jY)
abbrev ag9:=((Int×Int)×yW×fR×Bool×List (List UInt8))
abbrev ag8:=(fx×yW×fR×Bool×List (List UInt8))
abbrev Y4:=(yW×fR×S8×List Sx)
abbrev ag7:=(Xp×yW×fR×Bool×List (List UInt8))
abbrev Ya42:=(ud×ud×ud×Int×Int)
abbrev acq:=((List Sx)×rS×List jY)
abbrev aX {α:Type} (l:List α):Int:=aQ (al l)
abbrev cA (n:Int):Int:=bn .i64 (n+1)
abbrev aF {R α:Type} (x:α):Option (R⊕α):=af (bX x)
abbrev cK {R α:Type} (x:R):Option (R⊕α):=af (oY x)
abbrev bH {R:Type} (T:Ty) (l:List T.den) (j:Int) (k:T.den->Option R):Option R:=chk (fm j (al l)) λ_=>lt (aJ (T:=T) l j) k
abbrev kJ {R:Type} (T:Ty) (l:List T.den) (j:Int) (k:T.den->Option R):Option R:=chk (fm j (al l)) λ_=>chk (fm j (al l)) λ_=>lt (aJ (T:=T) l j) k
abbrev vQ {R α:Type} (j:Int) (l:List α) (k:Option R):Option R:=chk (fm j (al l)) λ_=>k
abbrev bF {R:Type} (b:Bool) (k:Option R):Option R:=chk b λ_=>k
abbrev bd {R:Type} (a b:Int) (t f:Option R):Option R:=bcase (decide (a=b)) t f
abbrev il {R:Type} (a b:Int) (t f:Option R):Option R:=bcase (!decide (a=b)) t f
abbrev bB {R:Type} (a b:Int) (t f:Option R):Option R:=bcase (fX a b) t f
abbrev j7 {R:Type} (a b:Int) (t f:Option R):Option R:=bcase (cZ a b) t f
def ck {R:Type} (b:Bool) (k:Option R):Option R:=chk b λ_=>chk b λ_=>k
def ey (s:Sx):Sx:=nU (Sx.op s,Sx.line s,Sx.name s,Sx.arg s,Sx.index s,em (Xp.op (Sx.expr s),Xp.n (Sx.expr s),Xp.name (Sx.expr s),Xp.l (Sx.expr s)),Sx.body s,Sx.els s)
def kA (x:Unit):Option ca:=
 (af ([[118,97,114],[118,111,108,97,116,105,108,101],[109,117,116,101,120],[114,119,108,111,99,107],[99,111,110,100],[102,117,116,117,114,101],[116,104,114,101,97,100],[105,102],[101,108,115,101],[119,104,105,108,101],[108,111,99,107],[114,101,97,100],[119,114,105,116,101],[116,114,97,110,115,97,99,116,105,111,110],[97,116,111,109,105,99],[119,97,105,116],[110,111,116,105,102,121],[110,111,116,105,102,121,97,108,108],[115,112,97,119,110],[106,111,105,110],[115,101,116],[103,101,116]]))
def jM (x:List UInt8):Option (Bool):=
 (obind (kA ()) λJ=>(iter (σ:=Int) (λI=>(bB I (aX J) (bH (.str) J I λM=>(bcase (decide ((M:List UInt8)=x)) (aF ai) (cK (cA I)))) (aF aj))) 0))
def lz (x:Int):Option (Bool):=
 (jn (α:=Bool) (j7 97 x (j7 x 122 (aF ai) (j7 65 x (aF (cZ x 90)) (aF aj))) (j7 65 x (aF (cZ x 90)) (aF aj))) λI=>(af I))
def rz (x:Int):Option (Bool):=
 (jn (α:=Bool) (j7 48 x (aF (cZ x 57)) (aF aj)) λI=>(af I))
def py (x:Int):Option (Bool):=
 (jn (α:=Bool) (obind (lz x) λJ=>(bcase J (aF ai) (obind (rz x) λI=>(bcase I (aF ai) (aF (decide ((x:Int)=95))))))) λM=>(af M))
def fk (x:List UInt8):Option (Bool):=
 (jn (α:=Bool) (bB (aX x) 1 (aF ai) (bB 12 (aX x) (aF ai) (vQ 0 x (obind (lz (AD x 0)) λU=>(bcase (!U) (aF ai) (obind (jM x) λM=>(aF M))))))) λY=>(bcase Y (af aj) (iter (σ:=Int) (λI=>(bB I (aX x) (vQ I x (obind (py (AD x I)) λJ=>(bcase (!J) (aF aj) (cK (cA I))))) (aF ai))) 0)))
def fY (x:Bool):Option (Int):=
 (bcase x (af 1) (af 0))
def ur (x:Int×Int):Option (Int×Bool):=
 (bd x.1 4 (af ((bn .i64 (0-x.2)),ai)) (bd x.1 5 (obind (fY (decide ((x.2:Int)=0))) λI=>(af (I,ai))) (af (0,aj))))
def sA (x:Int×Int×Int):Option (Int×Bool):=
 (bd x.1 6 (af ((bn .i64 (x.2.1+x.2.2)),ai)) (bd x.1 7 (af ((bn .i64 (x.2.1-x.2.2)),ai)) (bd x.1 8 (af ((bn .i64 (x.2.1*x.2.2)),ai)) (bd x.1 9 (bd x.2.2 0 (af (0,ai)) (bF (!decide ((x.2.2:Int)=0)) (af ((bn .i64 (Int.tdiv x.2.1 x.2.2)),ai)))) (bd x.1 10 (bd x.2.2 0 (af (0,ai)) (bF (!decide ((x.2.2:Int)=0)) (af ((Ak x.2.1 x.2.2),ai)))) (bd x.1 11 (obind (fY (decide ((x.2.1:Int)=x.2.2))) λy1=>(af (y1,ai))) (bd x.1 12 (obind (fY (!decide ((x.2.1:Int)=x.2.2))) λy2=>(af (y2,ai))) (bd x.1 13 (obind (fY (fX x.2.1 x.2.2)) λy3=>(af (y3,ai))) (bd x.1 14 (obind (fY (cZ x.2.1 x.2.2)) λy4=>(af (y4,ai))) (bd x.1 15 (obind (fY (fX x.2.2 x.2.1)) λy5=>(af (y5,ai))) (bd x.1 16 (obind (fY (cZ x.2.2 x.2.1)) λZ=>(af (Z,ai))) (bd x.1 17 (jn (α:=Int×Bool) (il x.2.1 0 (obind (fY (!decide ((x.2.2:Int)=0))) λY=>(aF (Y,ai))) (obind (fY aj) λU=>(aF (U,ai)))) λx7=>(af x7)) (bd x.1 18 (jn (α:=Int×Bool) (il x.2.1 0 (obind (fY ai) λJ=>(aF (J,ai))) (obind (fY (!decide ((x.2.2:Int)=0))) λI=>(aF (I,ai)))) λM=>(af M)) (af (0,aj)))))))))))))))
def rx (x:Int×Int):Option (Int):=
 (bB x.2 1 (af 0) (bF (!decide ((x.2:Int)=0)) (jn (α:=Int) (bB (Ak x.1 x.2) 0 (aF (bn .i64 ((Ak x.1 x.2)+x.2))) (aF (Ak x.1 x.2))) λI=>(af I))))
def mq (x:Int):Option (Int):=
 (jn (α:=Bool) (bd x 1 (aF ai) (aF (decide ((x:Int)=2)))) λM=>(bcase M (af 0) (jn (α:=Bool) (j7 3 x (aF (cZ x 5)) (aF aj)) λJ=>(bcase J (af 1) (jn (α:=Bool) (j7 6 x (aF (cZ x 18)) (aF aj)) λI=>(bcase I (af 2) (af (-1))))))))
def md (rr02_ShapedExpr:Xp->Option (Bool)) (x:Xp):Option (Bool):=
 (jn (α:=Bool×Xp) (bd (Xp.op x) 2 (aF (ai,em ((Xp.op x),(Xp.n x),(Xp.name x),(Xp.l x)))) (aF ((decide (((Xp.op x):Int)=3)),em ((Xp.op x),(Xp.n x),(Xp.name x),(Xp.l x))))) λI=>(jn (α:=Bool×Xp) (obind (mq (Xp.op I.2)) λy3=>(il y3 (aQ (al (Xp.l I.2))) (aF (ai,em ((Xp.op I.2),(Xp.n I.2),(Xp.name I.2),(Xp.l I.2)))) (bcase ((I.1==(!decide (((Xp.name I.2):List UInt8)=([])))) !=ai) (aF (ai,em ((Xp.op I.2),(Xp.n I.2),(Xp.name I.2),(Xp.l I.2)))) (bcase I.1 (obind (fk (Xp.name I.2)) λZ=>(bcase (!Z) (aF (ai,em ((Xp.op I.2),(Xp.n I.2),(Xp.name I.2),(Xp.l I.2)))) (bB (Xp.n I.2) 0 (aF (ai,em ((Xp.op I.2),(Xp.n I.2),(Xp.name I.2),(Xp.l I.2)))) (il (Xp.op I.2) 1 (aF ((!decide (((Xp.n I.2):Int)=0)),em ((Xp.op I.2),(Xp.n I.2),(Xp.name I.2),(Xp.l I.2)))) (aF (aj,em ((Xp.op I.2),(Xp.n I.2),(Xp.name I.2),(Xp.l I.2)))))))) (bB (Xp.n I.2) 0 (aF (ai,em ((Xp.op I.2),(Xp.n I.2),(Xp.name I.2),(Xp.l I.2)))) (il (Xp.op I.2) 1 (aF ((!decide (((Xp.n I.2):Int)=0)),em ((Xp.op I.2),(Xp.n I.2),(Xp.name I.2),(Xp.l I.2)))) (aF (aj,em ((Xp.op I.2),(Xp.n I.2),(Xp.name I.2),(Xp.l I.2)))))))))) λM=>(bcase M.1 (af aj) (iter (σ:=Int×Xp) (λJ=>(bB J.1 (aQ (al (Xp.l J.2))) (bH (.ex) (Xp.l J.2) J.1 λU=>(obind (rr02_ShapedExpr U) λY=>(bcase (!Y) (aF aj) (cK ((cA J.1),em ((Xp.op J.2),(Xp.n J.2),(Xp.name J.2),(Xp.l J.2))))))) (aF ai))) (0,em ((Xp.op M.2),(Xp.n M.2),(Xp.name M.2),(Xp.l M.2)))))))
def ig:Nat->Xp->Option (Bool)
 |0,_=>ah
 |n+1,x=>md (ig n) x
theorem sH (n:Nat) (x:Xp):ig (n+1) x=md (ig n) x:=rfl
def ji (x:Xp):Option (Bool):=ig fuel x
def px (x:Xp):Option (Bool):=
 (jn (α:=Bool) (bd (Xp.op x) 0 (bd (Xp.n x) 0 (bcase (decide (((Xp.name x):List UInt8)=([]))) (aF (decide (((aQ (al (Xp.l x))):Int)=0))) (aF aj)) (aF aj)) (aF aj)) λI=>(af I))
def kl (rr02_ShapedStmt:Sx->Option (Bool)) (rr02_ShapedStmts:(List Sx)->Option (Bool)) (x:Sx):Option (Bool):=
 (jn (α:=Bool×Sx) (bB (Sx.op x) 1 (aF (ai,ey x)) (aF ((fX 15 (Sx.op x)),ey x))) λx1=>(bcase x1.1 (af aj) (jn (α:=Bool×Sx) (bd (Sx.op x1.2) 2 (aF (ai,ey x1.2)) (bd (Sx.op x1.2) 3 (aF (ai,ey x1.2)) (bd (Sx.op x1.2) 7 (aF (ai,ey x1.2)) (aF ((decide (((Sx.op x1.2):Int)=8)),ey x1.2))))) λY=>(jn (α:=Bool×Sx) (bcase Y.1 (bcase (!decide (((Sx.name Y.2):List UInt8)=([]))) (aF (ai,ey Y.2)) (bcase (!Y.1) (obind (fk (Sx.name Y.2)) λy4=>(aF ((!y4),ey Y.2))) (aF (aj,ey Y.2)))) (bcase (!Y.1) (obind (fk (Sx.name Y.2)) λy5=>(aF ((!y5),ey Y.2))) (aF (aj,ey Y.2)))) λU=>(bcase U.1 (af aj) (jn (α:=Bool×Sx) (bd (Sx.op U.2) 15 (obind (fk (Sx.arg U.2)) λy7=>(bcase (!y7) (aF (ai,ey U.2)) (il (Sx.op U.2) 15 (aF ((!decide (((Sx.arg U.2):List UInt8)=([]))),ey U.2)) (aF (aj,ey U.2))))) (il (Sx.op U.2) 15 (aF ((!decide (((Sx.arg U.2):List UInt8)=([]))),ey U.2)) (aF (aj,ey U.2)))) λM=>(bcase M.1 (af aj) (jn (α:=Bool×Sx) (bB 1 (aQ (al (Sx.index M.2))) (aF (ai,ey M.2)) (il (Sx.op M.2) 1 (bB 0 (aQ (al (Sx.index M.2))) (aF (ai,ey M.2)) (bd (aQ (al (Sx.index M.2))) 1 (bH (.ex) (Sx.index M.2) 0 λz9=>(obind (ji z9) λy10=>(aF ((!y10),ey M.2)))) (aF (aj,ey M.2)))) (bd (aQ (al (Sx.index M.2))) 1 (bH (.ex) (Sx.index M.2) 0 λz11=>(obind (ji z11) λy12=>(aF ((!y12),ey M.2)))) (aF (aj,ey M.2))))) λx8=>(bcase x8.1 (af aj) (jn (α:=Bool×Sx) (bd (Sx.op x8.2) 1 (aF (ai,ey x8.2)) (bd (Sx.op x8.2) 2 (aF (ai,ey x8.2)) (bd (Sx.op x8.2) 3 (aF (ai,ey x8.2)) (aF ((decide (((Sx.op x8.2):Int)=14)),ey x8.2))))) λI=>(jn (α:=Bool×Sx) (bcase I.1 (obind (ji (em ((Xp.op (Sx.expr I.2)),(Xp.n (Sx.expr I.2)),(Xp.name (Sx.expr I.2)),(Xp.l (Sx.expr I.2))))) λy15=>(bcase (!y15) (aF (ai,ey I.2)) (bcase (!I.1) (obind (px (em ((Xp.op (Sx.expr I.2)),(Xp.n (Sx.expr I.2)),(Xp.name (Sx.expr I.2)),(Xp.l (Sx.expr I.2))))) λy16=>(aF ((!y16),ey I.2))) (aF (aj,ey I.2))))) (bcase (!I.1) (obind (px (em ((Xp.op (Sx.expr I.2)),(Xp.n (Sx.expr I.2)),(Xp.name (Sx.expr I.2)),(Xp.l (Sx.expr I.2))))) λy17=>(aF ((!y17),ey I.2))) (aF (aj,ey I.2)))) λZ=>(bcase Z.1 (af aj) (jn (α:=Bool×Sx) (j7 2 (Sx.op Z.2) (aF ((cZ (Sx.op Z.2) 8),ey Z.2)) (aF (aj,ey Z.2))) λJ=>(jn (α:=Bool×Sx) (bcase (!J.1) (bB 0 (aQ (al (Sx.body J.2))) (aF (ai,ey J.2)) (il (Sx.op J.2) 2 (aF ((fX 0 (aQ (al (Sx.els J.2)))),ey J.2)) (aF (aj,ey J.2)))) (il (Sx.op J.2) 2 (aF ((fX 0 (aQ (al (Sx.els J.2)))),ey J.2)) (aF (aj,ey J.2)))) λx19=>(bcase x19.1 (af aj) (jn (α:=Bool) (obind (rr02_ShapedStmts (Sx.body x19.2)) λy21=>(bcase y21 (obind (rr02_ShapedStmts (Sx.els x19.2)) λy22=>(aF y22)) (aF aj))) λx20=>(af x20)))))))))))))))))
def jE (rr02_ShapedStmt:Sx->Option (Bool)) (rr02_ShapedStmts:(List Sx)->Option (Bool)) (x:List Sx):Option (Bool):=
 (iter (σ:=Int) (λI=>(bB I (aX x) (vQ I x (obind (rr02_ShapedStmt (aJ (T:=.sm) x I)) λJ=>(bcase (!J) (aF aj) (cK (cA I))))) (aF ai))) 0)
mutual
def eH:Nat->Sx->Option (Bool)
 |0,_=>ah
 |n+1,x=>kl (eH n) (dK n) x
def dK:Nat->(List Sx)->Option (Bool)
 |0,_=>ah
 |n+1,x=>jE (eH n) (dK n) x
end
theorem zF (n:Nat) (x:Sx):eH (n+1) x=kl (eH n) (dK n) x:=rfl
theorem yS (n:Nat) (x:List Sx):dK (n+1) x=jE (eH n) (dK n) x:=rfl
def nR (x:List Sx):Option (Bool):=dK fuel x
def kg (x:Int×Int×(List UInt8)×Int×Int×List UInt8):Option (Bool):=
 (jn (α:=Bool×Int×Int×(List UInt8)×Int×Int×List UInt8) (bB x.1 1 (aF (ai,x)) (bB 6 x.1 (aF (ai,x)) (obind (fk x.p2) λU=>(bcase (!U) (aF (ai,x)) (bB x.p3 0 (aF (ai,x)) (il x.1 1 (aF ((!decide ((x.p3:Int)=0)),x)) (aF (aj,x)))))))) λI=>(bcase I.1 (af aj) (jn (α:=Bool×Int×Int×(List UInt8)×Int×Int×List UInt8) (bd I.2.1 5 (obind (fk I.q6) λM=>(bcase (!M) (aF (ai,I.2)) (il I.2.1 5 (aF ((!decide ((I.q6:List UInt8)=([]))),I.2)) (aF (aj,I.2))))) (il I.2.1 5 (aF ((!decide ((I.q6:List UInt8)=([]))),I.2)) (aF (aj,I.2)))) λJ=>(bcase J.1 (af aj) (jn (α:=Bool) (bB (-9223372036854775808) J.p5 (bd J.p5 0 (aF ai) (bd J.2.1 1 (aF ai) (aF (decide ((J.2.1:Int)=2))))) (aF aj)) λY=>(af Y))))))
def pO (x:sq×List sk):Option (Bool):=
 (iter (σ:=Int×sq×List sk) (λM=>(bB M.1 (aX M.2.1) (bH Hd M.2.1 M.1 λz2=>(obind (kg z2) λy3=>(bcase (!y3) (aF aj) (cK ((cA M.1),M.2))))) (obind (iter (σ:=Int×sq×List sk) (λJ=>(bB J.1 (aX J.2.2) (bH s8 J.2.2 J.1 λz5=>(iter (σ:=Int×(sq×List sk)×(List UInt8)×Int×ca×List Sx) (λI=>(bB I.1 (aX I.p4) (bH (.str) I.p4 I.1 λz7=>(obind (fk z7) λy8=>(bcase (!y8) (aF (bX aj)) (cK ((cA I.1),I.2))))) (obind (jn (α:=Bool×sq×List sk) (obind (fk I.p2) λY=>(bcase (!Y) (aF (ai,I.2.1)) (obind (nR I.q5) λU=>(aF ((!U),I.2.1))))) λZ=>(bcase Z.1 (aF aj) (cK ((cA J.1),Z.2)))) λr=>af (bX r)))) (0,J.2,z5))) (aF (fX 0 (aX J.2.2))))) (0,M.2)) λr=>af (bX r)))) (0,x))
def je (x:ca×List UInt8):Option (Int):=
 (iter (σ:=Int) (λI=>(bB I (aX x.1) (bH (.str) x.1 I λJ=>(bcase (decide ((J:List UInt8)=x.2)) (aF I) (cK (cA I)))) (aF (-1)))) 0)
def ie (x:sq×List UInt8):Option (Int):=
 (iter (σ:=Int) (λI=>(bB I (aX x.1) (bH Hd x.1 I λJ=>(bcase (decide ((J.2.2.1:List UInt8)=x.2)) (aF I) (cK (cA I)))) (aF (-1)))) 0)
def gU (x:(List sk)×List UInt8):Option (Int):=
 (iter (σ:=Int) (λI=>(bB I (aX x.1) (bH s8 x.1 I λJ=>(bcase (decide ((J.1:List UInt8)=x.2)) (aF I) (cK (cA I)))) (aF (-1)))) 0)
def pN (x:(sq×List sk)×Int×List UInt8):Option (Int):=
 (jn (α:=Bool×sq×List sk) (j7 0 x.2.1 (bB x.2.1 (aX x.1.2) (bH s8 x.1.2 x.2.1 λz2=>(obind (je (z2.2.2.1,x.2.2)) λy3=>(aF ((cZ 0 y3),x.1)))) (aF (aj,x.1))) (aF (aj,x.1))) λI=>(bcase I.1 (af 8) (obind (ie (I.2.1,x.2.2)) λM=>(bB M 0 (obind (gU (I.2.2,x.2.2)) λy5=>(j7 0 y5 (af 7) (af 0))) (vQ M I.2.1 (lt ((aJ (T:=Hd) I.2.1 M).1) λJ=>(bd J 1 (bH Hd I.2.1 M λZ=>(il Z.2.2.2.1 0 (af 2) (af 1))) (bd J 2 (af 1) (jn (α:=Bool×sq×List sk) (bd J 3 (aF ((decide ((J:Int)=3)),I.2)) (bd J 4 (aF ((decide ((J:Int)=4)),I.2)) (bd J 5 (aF ((decide ((J:Int)=5)),I.2)) (aF ((decide ((J:Int)=6)),I.2))))) λU=>(bcase U.1 (bH Hd U.2.1 M λY=>(af Y.1)) (af 9)))))))))))
def gD (x:(sq×List sk)×Int×(List UInt8)×Int×Int):Option (Int):=
 (obind (pN (x.1,x.2.1,x.p2)) λI=>(bd I 0 (af 5) (jn (α:=Bool) (il I x.p3 (aF (!decide ((I:Int)=x.q4))) (aF aj)) λJ=>(bcase J (af 6) (af 0)))))
def uD (rr04_Nodes:Xp->Option (Int×Int)) (x:Xp):Option (Int×Int):=
 (iter (σ:=(Int×Int×Int)×Xp) (λI=>(bB I.1.2.2 (aQ (al (Xp.l I.2))) (bH (.ex) (Xp.l I.2) I.1.2.2 λM=>(obind (rr04_Nodes M) λJ=>(cK (((bn .i64 (I.1.1+J.1)),(jD I.1.2.1 J.2),(cA I.1.2.2)),em ((Xp.op I.2),(Xp.n I.2),(Xp.name I.2),(Xp.l I.2)))))) (aF (I.1.1,(cA I.1.2.1))))) ((1,0,0),em ((Xp.op x),(Xp.n x),(Xp.name x),(Xp.l x))))
def nu:Nat->Xp->Option (Int×Int)
 |0,_=>ah
 |n+1,x=>uD (nu n) x
theorem yz (n:Nat) (x:Xp):nu (n+1) x=uD (nu n) x:=rfl
def BZ (x:Xp):Option (Int×Int):=nu fuel x
def uC (rr04_names:((sq×List sk)×Int×Xp)->Option (Int)) (x:(sq×List sk)×Int×Xp):Option (Int):=
 (jn (α:=Int×(sq×List sk)×Xp) (bd (Xp.op x.2.2) 2 (obind (gD (x.1,x.2.1,(Xp.name x.2.2),8,1)) λy2=>(aF (y2,x.1,em ((Xp.op x.2.2),(Xp.n x.2.2),(Xp.name x.2.2),(Xp.l x.2.2))))) (bd (Xp.op x.2.2) 3 (obind (gD (x.1,x.2.1,(Xp.name x.2.2),2,2)) λZ=>(aF (Z,x.1,em ((Xp.op x.2.2),(Xp.n x.2.2),(Xp.name x.2.2),(Xp.l x.2.2))))) (aF (0,x.1,em ((Xp.op x.2.2),(Xp.n x.2.2),(Xp.name x.2.2),(Xp.l x.2.2)))))) λM=>(iter (σ:=(Int×Int)×(sq×List sk)×Xp) (λI=>(jn (α:=Bool×(sq×List sk)×Xp) (bB I.1.2 (aQ (al (Xp.l I.2.2))) (aF ((decide ((I.1.1:Int)=0)),I.2.1,em ((Xp.op I.2.2),(Xp.n I.2.2),(Xp.name I.2.2),(Xp.l I.2.2)))) (aF (aj,I.2.1,em ((Xp.op I.2.2),(Xp.n I.2.2),(Xp.name I.2.2),(Xp.l I.2.2))))) λJ=>(bcase J.1 (bH (.ex) (Xp.l J.2.2) I.1.2 λU=>(obind (rr04_names (J.2.1,x.2.1,U)) λY=>(cK ((Y,(cA I.1.2)),J.2.1,em ((Xp.op J.2.2),(Xp.n J.2.2),(Xp.name J.2.2),(Xp.l J.2.2)))))) (aF I.1.1)))) ((M.1,0),M.2.1,em ((Xp.op M.2.2),(Xp.n M.2.2),(Xp.name M.2.2),(Xp.l M.2.2)))))
def nl:Nat->((sq×List sk)×Int×Xp)->Option (Int)
 |0,_=>ah
 |n+1,x=>uC (nl n) x
theorem yw (n:Nat) (x:(sq×List sk)×Int×Xp):nl (n+1) x=uC (nl n) x:=rfl
def BY (x:(sq×List sk)×Int×Xp):Option (Int):=nl fuel x
def mo (x:(sq×List sk)×Int×Xp):Option (Int):=
 (obind (ji (em ((Xp.op x.2.2),(Xp.n x.2.2),(Xp.name x.2.2),(Xp.l x.2.2)))) λU=>(bcase (!U) (af 3) (obind (BZ (em ((Xp.op x.2.2),(Xp.n x.2.2),(Xp.name x.2.2),(Xp.l x.2.2)))) λJ=>(jn (α:=Bool×(sq×List sk)×Xp) (bB 24 J.1 (aF (ai,x.1,em ((Xp.op x.2.2),(Xp.n x.2.2),(Xp.name x.2.2),(Xp.l x.2.2)))) (aF ((fX 6 J.2),x.1,em ((Xp.op x.2.2),(Xp.n x.2.2),(Xp.name x.2.2),(Xp.l x.2.2))))) λI=>(bcase I.1 (af 2) (obind (BY (I.2.1,x.2.1,em ((Xp.op I.2.2),(Xp.n I.2.2),(Xp.name I.2.2),(Xp.l I.2.2)))) λM=>(af M)))))))
def c5 (x:Bool):Option (Int):=
 (bcase x (af 7) (af 0))
def jd (x:Int×Int):Option (Int):=
 (il x.1 0 (af x.1) (af x.2))
def dZ (x:(Int×Int×List UInt8)×qV×(Bool×List Sx)×ca×List (List UInt8)):Option (Bool×qV×(Bool×List Sx)×ca×List (List UInt8)):=
 (iter (σ:=Int×qV×(Bool×List Sx)×ca×List (List UInt8)) (λI=>(bB I.1 (aX I.p2.2) (kJ (.sm) I.p2.2 I.1 λJ=>(jn (α:=Bool×qV×(Bool×List Sx)×ca×List (List UInt8)) (bd (Sx.op J) x.1.1 (bcase (decide ((x.1.2.2:List UInt8)=([]))) (aF (ai,I.2)) (aF ((decide (((Sx.name J):List UInt8)=x.1.2.2)),I.2))) (bd (Sx.op J) x.1.2.1 (bcase (decide ((x.1.2.2:List UInt8)=([]))) (aF (ai,I.2)) (aF ((decide (((Sx.name J):List UInt8)=x.1.2.2)),I.2))) (aF (aj,I.2)))) λM=>(bcase M.1 (aF (ai,M.2)) (cK ((cA I.1),M.2))))) (aF (aj,I.2)))) (0,x.2))
def mn (x:Sx×qV×(Bool×List Sx)×ca×List (List UInt8)):Option (Int×qV×(Bool×List Sx)×ca×List (List UInt8)):=
 (obind (dZ ((7,7,[]),x.2)) λy1=>(bF (aC (al x.q4) (al y1.q4)&&(aC (al x.p3) (al y1.p3)&&(((x.p2.1==y1.p2.1)&&ai)&&aC (al x.p2.2) (al y1.p2.2)&&ai))) (obind (dZ ((8,8,[]),y1.2)) λy2=>(bF (aC (al y1.q4) (al y2.q4)&&(aC (al y1.p3) (al y2.p3)&&(((y1.p2.1==y2.p2.1)&&ai)&&aC (al y1.p2.2) (al y2.p2.2)&&ai))) (obind (dZ ((3,3,[]),y2.2)) λy3=>(bF (aC (al y2.q4) (al y3.q4)&&(aC (al y2.p3) (al y3.p3)&&(((y2.p2.1==y3.p2.1)&&ai)&&aC (al y2.p2.2) (al y3.p2.2)&&ai))) (bd (Sx.op x.1) 1 (bd (aQ (al (Sx.index x.1))) 0 (obind (gD ((x.2.1.1,x.2.1.2.1),x.2.1.2.2,(Sx.name x.1),8,1)) λy4=>(obind (mo ((x.2.1.1,x.2.1.2.1),x.2.1.2.2,em ((Xp.op (Sx.expr x.1)),(Xp.n (Sx.expr x.1)),(Xp.name (Sx.expr x.1)),(Xp.l (Sx.expr x.1))))) λy5=>(obind (jd (y4,y5)) λy6=>(af (y6,y3.2))))) (obind (gD ((x.2.1.1,x.2.1.2.1),x.2.1.2.2,(Sx.name x.1),2,2)) λy7=>(bH (.ex) (Sx.index x.1) 0 λz8=>(obind (mo ((x.2.1.1,x.2.1.2.1),x.2.1.2.2,z8)) λy9=>(obind (mo ((x.2.1.1,x.2.1.2.1),x.2.1.2.2,em ((Xp.op (Sx.expr x.1)),(Xp.n (Sx.expr x.1)),(Xp.name (Sx.expr x.1)),(Xp.l (Sx.expr x.1))))) λy10=>(obind (jd (y9,y10)) λy11=>(obind (jd (y7,y11)) λy12=>(af (y12,y3.2))))))))) (jn (α:=Bool×qV×(Bool×List Sx)×Sx×(sq×List sk)×ca×List (List UInt8)) (bd (Sx.op x.1) 2 (aF ((decide (((Sx.op x.1):Int)=2)),y3.2.1,y3.p2,ey x.1,(x.2.1.1,x.2.1.2.1),y3.q3)) (aF ((decide (((Sx.op x.1):Int)=3)),y3.2.1,y3.p2,ey x.1,(x.2.1.1,x.2.1.2.1),y3.q3))) λM=>(bcase M.1 (obind (mo (M.p4,x.2.1.2.2,em ((Xp.op (Sx.expr M.p3)),(Xp.n (Sx.expr M.p3)),(Xp.name (Sx.expr M.p3)),(Xp.l (Sx.expr M.p3))))) λy14=>(af (y14,M.2.1,M.p2,M.q5))) (bd (Sx.op x.1) 4 (jn (α:=Int×qV×(Bool×List Sx)×ca×List (List UInt8)) (obind (gD (M.p4,x.2.1.2.2,(Sx.name M.p3),3,3)) λy16=>(bcase y1.1 (obind (c5 ai) λy17=>(obind (jd (y16,y17)) λy18=>(aF (y18,M.2.1,M.p2,M.q5)))) (obind (dZ ((4,4,(Sx.name M.p3)),M.2.1,M.p2,M.q5)) λy19=>(bF (aC (al M.q6) (al y19.q4)&&(aC (al M.p5) (al y19.p3)&&(((M.p2.1==y19.p2.1)&&ai)&&aC (al M.p2.2) (al y19.p2.2)&&ai))) (obind (c5 y19.1) λy20=>(obind (jd (y16,y20)) λy21=>(aF (y21,y19.2)))))))) λx15=>(af x15)) (jn (α:=Bool×qV×(Bool×List Sx)×Sx×(sq×List sk)×ca×List (List UInt8)) (bd (Sx.op x.1) 5 (aF ((decide (((Sx.op x.1):Int)=5)),M.2.1,M.p2,ey M.p3,M.q4)) (aF ((decide (((Sx.op x.1):Int)=6)),M.2.1,M.p2,ey M.p3,M.q4))) λJ=>(bcase J.1 (jn (α:=Int×qV×(Bool×List Sx)×ca×List (List UInt8)) (obind (gD (J.p4,x.2.1.2.2,(Sx.name J.p3),4,4)) λy24=>(bcase y1.1 (obind (c5 ai) λy25=>(obind (jd (y24,y25)) λy26=>(aF (y26,J.2.1,J.p2,J.q5)))) (obind (dZ ((5,6,(Sx.name J.p3)),J.2.1,J.p2,J.q5)) λy27=>(bF (aC (al J.q6) (al y27.q4)&&(aC (al J.p5) (al y27.p3)&&(((J.p2.1==y27.p2.1)&&ai)&&aC (al J.p2.2) (al y27.p2.2)&&ai))) (obind (c5 y27.1) λy28=>(obind (jd (y24,y28)) λy29=>(aF (y29,y27.2)))))))) λx23=>(af x23)) (bd (Sx.op x.1) 7 (obind (c5 y1.1) λy30=>(af (y30,J.2.1,J.p2,J.q5))) (bd (Sx.op x.1) 8 (jn (α:=Int×qV×(Bool×List Sx)×ca×List (List UInt8)) (bcase y1.1 (obind (c5 ai) λy32=>(aF (y32,J.2.1,J.p2,J.q5))) (obind (c5 y2.1) λy33=>(aF (y33,J.2.1,J.p2,J.q5)))) λx31=>(af x31)) (jn (α:=Bool×qV×(Bool×List Sx)×Sx×(sq×List sk)×ca×List (List UInt8)) (bd (Sx.op x.1) 9 (aF ((decide (((Sx.op x.1):Int)=9)),J.2.1,J.p2,ey J.p3,J.q4)) (bd (Sx.op x.1) 10 (aF ((decide (((Sx.op x.1):Int)=10)),J.2.1,J.p2,ey J.p3,J.q4)) (aF ((decide (((Sx.op x.1):Int)=11)),J.2.1,J.p2,ey J.p3,J.q4)))) λI=>(bcase I.1 (obind (gD (I.p4,x.2.1.2.2,(Sx.name I.p3),5,5)) λy35=>(il y35 0 (af (y35,I.2.1,I.p2,I.q5)) (obind (ie (I.p4.1,(Sx.name I.p3))) λy36=>(bH Hd I.p4.1 y36 λz37=>(obind (dZ ((4,4,z37.2.2.2.2.2),I.2.1,I.p2,I.q5)) λy38=>(bF (aC (al I.q6) (al y38.q4)&&(aC (al I.p5) (al y38.p3)&&(((I.p2.1==y38.p2.1)&&ai)&&aC (al I.p2.2) (al y38.p2.2)&&ai))) (jn (α:=Int×qV×(Bool×List Sx)×ca×List (List UInt8)) (bcase y1.1 (obind (c5 ai) λy40=>(aF (y40,y38.2))) (bcase (!y38.1) (obind (c5 ai) λy41=>(aF (y41,y38.2))) (bd (Sx.op I.p3) 9 (obind (c5 y2.1) λy42=>(aF (y42,y38.2))) (obind (c5 aj) λy43=>(aF (y43,y38.2)))))) λx39=>(af x39)))))))) (bd (Sx.op x.1) 12 (obind (gD (I.p4,x.2.1.2.2,(Sx.name I.p3),7,7)) λy44=>(il y44 0 (af (y44,I.2.1,I.p2,I.q5)) (obind (gU (I.p4.2,(Sx.name I.p3))) λy45=>(jn (α:=Bool×qV×(Bool×List Sx)×Sx×ca×List (List UInt8)) (bcase y1.1 (aF (ai,I.2.1,I.p2,ey I.p3,I.q5)) (bcase y2.1 (aF (ai,I.2.1,I.p2,ey I.p3,I.q5)) (bcase y3.1 (aF (ai,I.2.1,I.p2,ey I.p3,I.q5)) (bd y45 x.2.1.2.2 (aF (ai,I.2.1,I.p2,ey I.p3,I.q5)) (aF ((decide ((y45:Int)=0)),I.2.1,I.p2,ey I.p3,I.q5)))))) λU=>(bcase U.1 (af (7,U.2.1,U.p2,U.q4)) (obind (je (U.p4,(Sx.name U.p3))) λy47=>(j7 0 y47 (af (8,U.2.1,U.p2,U.q4)) (bF (bc (al U.p4+al ([(Sx.name U.p3)])) 16) (af (0,U.2.1,U.p2,(U.p4++([(Sx.name U.p3)])),U.q5)))))))))) (bd (Sx.op x.1) 13 (jn (α:=Int×qV×(Bool×List Sx)×ca×List (List UInt8)) (obind (gD (I.p4,x.2.1.2.2,(Sx.name I.p3),7,7)) λy49=>(bcase y1.1 (obind (c5 ai) λy50=>(obind (jd (y49,y50)) λy51=>(aF (y51,I.2.1,I.p2,I.q5)))) (bcase y2.1 (obind (c5 ai) λy52=>(obind (jd (y49,y52)) λy53=>(aF (y53,I.2.1,I.p2,I.q5)))) (obind (gU (I.p4.2,(Sx.name I.p3))) λy54=>(obind (c5 (decide ((y54:Int)=x.2.1.2.2))) λy55=>(obind (jd (y49,y55)) λy56=>(aF (y56,I.2.1,I.p2,I.q5)))))))) λx48=>(af x48)) (bd (Sx.op x.1) 14 (jn (α:=Int×qV×(Bool×List Sx)×Sx×(sq×List sk)×ca×List (List UInt8)) (obind (gD (I.p4,x.2.1.2.2,(Sx.name I.p3),6,6)) λy58=>(bcase y1.1 (obind (c5 ai) λy59=>(obind (jd (y58,y59)) λy60=>(aF (y60,I.2.1,I.p2,ey I.p3,I.q4)))) (obind (c5 y3.1) λy61=>(obind (jd (y58,y61)) λy62=>(aF (y62,I.2.1,I.p2,ey I.p3,I.q4)))))) λZ=>(jn (α:=Int×qV×(Bool×List Sx)×Sx×(sq×List sk)×ca×List (List UInt8)) (jn (α:=Bool×qV×(Bool×List Sx)×Sx×(sq×List sk)×ca×List (List UInt8)) (bd Z.1 0 (obind (je (Z.q6,(Sx.name Z.p3))) λy65=>(aF ((cZ 0 y65),Z.2.1,Z.p2,ey Z.p3,Z.q4))) (aF (aj,Z.2.1,Z.p2,ey Z.p3,Z.q4))) λx64=>(bcase x64.1 (aF (8,x64.2.1,x64.p2,ey x64.p3,x64.q4)) (aF (Z.1,x64.2.1,x64.p2,ey x64.p3,x64.q4)))) λY=>(bF (bc (al Y.q6+al ([(Sx.name Y.p3)])) 16) (obind (mo (Y.p4,x.2.1.2.2,em ((Xp.op (Sx.expr Y.p3)),(Xp.n (Sx.expr Y.p3)),(Xp.name (Sx.expr Y.p3)),(Xp.l (Sx.expr Y.p3))))) λy66=>(obind (jd (Y.1,y66)) λy67=>(af (y67,Y.2.1,Y.p2,Y.p5,(Y.q6++([(Sx.name Y.p3)]))))))))) (obind (gD (I.p4,x.2.1.2.2,(Sx.name I.p3),8,8)) λy68=>(obind (gD (I.p4,x.2.1.2.2,(Sx.arg I.p3),6,6)) λy69=>(obind (c5 y1.1) λy70=>(obind (jd (y69,y70)) λy71=>(obind (jd (y68,y71)) λy72=>(af (y72,I.2.1,I.p2,I.q5))))))))))))))))))))))))))
def mz (rr04_walk_all:((List Sx)×qV×(Bool×List Sx)×ca×List (List UInt8))->Option aga) (x:(List Sx)×qV×(Bool×List Sx)×ca×List (List UInt8)):Option aga:=
 (iter (σ:=Int×qV×(Bool×List Sx)×ca×List (List UInt8)) (λU=>(bB U.1 (aX x.1) (bH (.sm) x.1 U.1 λZ=>(obind (mn (ey Z,U.2)) λY=>(bF (aC (al U.q4) (al U.q4)&&(aC (al U.p3) (al U.p3)&&(((U.p2.1==Y.p2.1)&&ai)&&aC (al U.p2.2) (al Y.p2.2)&&ai))) (jn (α:=Int×qV×Sx×(Bool×List Sx)×ca×List (List UInt8)) (bB 6 (bn .i64 ((aX Y.p2.2)+1)) (aF (2,Y.2.1,ey Z,Y.2.2)) (aF (Y.1,Y.2.1,ey Z,Y.2.2))) λI=>(il I.1 0 (aF ((I.1,(Sx.line I.p2)),I.2.1,I.q3)) (bF (bc (al I.p3.2+al ([nU (0,0,[],[],([]:List Xp),em (0,0,[],([]:List Xp)),([]:List Sx),([]:List Sx))])) 176) (ck (fm (aX I.p3.2) (al (I.p3.2++([nU (0,0,[],[],([]:List Xp),em (0,0,[],([]:List Xp)),([]:List Sx),([]:List Sx))])))) (obind (rr04_walk_all ((Sx.body I.p2),I.2.1,(I.p3.1,(ct (I.p3.2++([nU (0,0,[],[],([]:List Xp),em (0,0,[],([]:List Xp)),([]:List Sx),([]:List Sx))])) (aX I.p3.2) (ey I.p2))),I.q4)) λM=>(bF (aC (al I.q5) (al I.q5)&&(aC (al I.p4) (al I.p4)&&(((I.p3.1==I.p3.1)&&ai)&&aC (al (ct (I.p3.2++([nU (0,0,[],[],([]:List Xp),em (0,0,[],([]:List Xp)),([]:List Sx),([]:List Sx))])) (aX I.p3.2) (ey I.p2))) (al (ct (I.p3.2++([nU (0,0,[],[],([]:List Xp),em (0,0,[],([]:List Xp)),([]:List Sx),([]:List Sx))])) (aX I.p3.2) (ey I.p2)))&&ai))) (jn (α:=(Int×Int)×qV×(Bool×List Sx)×ca×List (List UInt8)) (bd M.1.1 0 (obind (rr04_walk_all ((Sx.els I.p2),M.2)) λy7=>(bF (aC (al M.q4) (al M.q4)&&(aC (al M.p3) (al M.p3)&&(((M.p2.1==M.p2.1)&&ai)&&aC (al M.p2.2) (al M.p2.2)&&ai))) (aF y7))) (aF M)) λJ=>(bF (cZ 0 (bn .i64 ((aX J.p2.2)-1))&&fX (bn .i64 ((aX J.p2.2)-1)) (al J.p2.2)) (il J.1.1 0 (aF (J.1,J.2.1,(aj,(dF (aS (bn .i64 ((aX J.p2.2)-1))) J.p2.2)),J.q3)) (cK ((cA U.1),J.2.1,(aj,(dF (aS (bn .i64 ((aX J.p2.2)-1))) J.p2.2)),J.q3)))))))))))))) (aF ((0,0),U.2)))) (0,x.2))
def iJ:Nat->((List Sx)×qV×(Bool×List Sx)×ca×List (List UInt8))->Option aga
 |0,_=>ah
 |n+1,x=>mz (iJ n) x
theorem Ca (n:Nat) (x:(List Sx)×qV×(Bool×List Sx)×ca×List (List UInt8)):iJ (n+1) x=mz (iJ n) x:=rfl
def vU (x:(List Sx)×qV×(Bool×List Sx)×ca×List (List UInt8)):Option aga:=iJ fuel x
def uE (rr04_Count:(List Sx)->Option (Int)) (x:List Sx):Option (Int):=
 (iter (σ:=Int×Int) (λI=>(bB I.2 (aX x) (vQ I.2 x (lt (Sx.body (aJ (T:=.sm) x I.2)) λM=>(obind (rr04_Count M) λY=>(vQ I.2 x (lt (Sx.els (aJ (T:=.sm) x I.2)) λJ=>(obind (rr04_Count J) λU=>(cK ((bn .i64 ((bn .i64 (I.1+Y))+U)),(cA I.2))))))))) (aF I.1))) ((aX x),0))
def ny:Nat->(List Sx)->Option (Int)
 |0,_=>ah
 |n+1,x=>uE (ny n) x
theorem yA (n:Nat) (x:List Sx):ny (n+1) x=uE (ny n) x:=rfl
def B1 (x:List Sx):Option (Int):=ny fuel x
def ry (x:List acs):Option (Int×Int):=
 (iter (σ:=Int×Int×Int×Int×Int) (λI=>(bB I.q4 (aX x) (jn (α:=Int×Int×Int×Int) (bH Hd x I.q4 λJ=>(bF (cZ 0 I.q4&&cZ I.q4 (al x)) (obind (ie ((dF (aS I.q4) x),J.p2)) λy4=>(j7 0 y4 (cK (bX (4,J.2.1))) (bB 4 J.p3 (cK (bX (2,J.2.1))) (jn (α:=(Int×Int×Int×Int)×Int×Int×(List UInt8)×Int×Int×List UInt8) (jn (α:=Bool×Int×Int×(List UInt8)×Int×Int×List UInt8) (bd J.1 1 (aF ((decide ((J.1:Int)=1)),J)) (aF ((decide ((J.1:Int)=2)),J))) λY=>(bcase Y.1 (aF (((bn .i64 (I.1+(jD Y.p4 1))),I.2.1,I.p2,I.p3),Y.2)) (jn (α:=Bool×Int×Int×(List UInt8)×Int×Int×List UInt8) (bd J.1 3 (aF ((decide ((J.1:Int)=3)),Y.2)) (aF ((decide ((J.1:Int)=4)),Y.2))) λZ=>(bcase Z.1 (aF ((I.1,(cA I.2.1),I.p2,I.p3),Z.2)) (bd J.1 5 (aF ((I.1,I.2.1,(cA I.p2),I.p3),Z.2)) (aF ((I.1,I.2.1,I.p2,(cA I.p3)),Z.2))))))) λM=>(jn (α:=Bool×Int×Int×(List UInt8)×Int×Int×List UInt8) (bB 12 M.1.1 (aF (ai,M.2)) (bB 4 M.1.2.1 (aF (ai,M.2)) (bB 2 M.1.p2 (aF (ai,M.2)) (aF ((fX 2 M.1.q3),M.2))))) λU=>(bcase U.1 (cK (bX (2,U.p2))) (bd U.2.1 5 (bF (cZ 0 I.q4&&cZ I.q4 (al x)) (obind (ie ((dF (aS I.q4) x),U.q6)) λy9=>(bB y9 0 (cK (bX (5,U.p2))) (bH Hd x y9 λz10=>(il z10.1 3 (cK (bX (6,U.p2))) (aF M.1)))))) (aF M.1)))))))))) λx2=>(cK (x2.1,x2.2.1,x2.p2,x2.q3,(cA I.q4)))) (aF (0,0)))) (0,0,0,0,0))
def nQ (x:sq×List sk):Option (Int×Int):=
 (iter (σ:=Int×sq×List sk) (λJ=>(bB J.1 (aX J.2.2) (bH s8 J.2.2 J.1 λY=>(jn (α:=Bool×(sq×List sk)×(List UInt8)×Int×ca×List Sx) (obind (ie (J.2.1,Y.1)) λy4=>(j7 0 y4 (aF (ai,J.2,Y)) (bF (cZ 0 J.1&&cZ J.1 (al J.2.2)) (obind (gU ((dF (aS J.1) J.2.2),Y.1)) λy5=>(aF ((cZ 0 y5),J.2,Y)))))) λx3=>(bcase x3.1 (aF (4,x3.p3)) (cK ((cA J.1),x3.2.1))))) (obind (iter (σ:=Int×sq×List sk) (λU=>(bB U.1 (aX U.2.2) (bH s8 U.2.2 U.1 λz7=>(bB 4 (aX z7.p2) (aF (2,z7.2.1)) (iter (σ:=Int×(sq×List sk)×(List UInt8)×Int×ca×List Sx) (λI=>(bB I.1 (aX I.p4) (bH (.str) I.p4 I.1 λZ=>(jn (α:=Bool×(sq×List sk)×(List UInt8)×Int×ca×List Sx) (obind (ie (I.2.1.1,Z)) λy11=>(j7 0 y11 (aF (ai,I.2)) (obind (gU (I.2.1.2,Z)) λy12=>(j7 0 y12 (aF (ai,I.2)) (bF (cZ 0 I.1&&cZ I.1 (al I.p4)) (obind (je ((dF (aS I.1) I.p4),Z)) λy13=>(aF ((cZ 0 y13),I.2)))))))) λM=>(bcase M.1 (aF (bX (4,M.p3))) (cK ((cA I.1),M.2))))) (aF (oY ((cA U.1),I.2.1))))) (0,U.2,z7)))) (aF (0,0)))) (0,J.2)) λr=>af (bX r)))) (0,x))
def fw (x:sq×List sk):Option (Int×Int):=
 (obind (pO x) λy1=>(bcase (!y1) (af (3,0)) (obind (ry x.1) λY=>(il Y.1 0 (af Y) (bB 4 (aX x.2) (af (2,0)) (obind (nQ x) λU=>(il U.1 0 (af U) (iter (σ:=(Int×Int)×sq×List sk) (λJ=>(bB J.1.2 (aX J.2.2) (bH s8 J.2.2 J.1.2 λz5=>(obind (B1 z5.2.2.2) λy6=>(cK (((bn .i64 (J.1.1+y6)),(cA J.1.2)),J.2)))) (obind (bB 60 J.1.1 (af (2,0)) (iter (σ:=Int×(sq×List sk)×qV×(Bool×List Sx)×ca×List (List UInt8)) (λI=>(bB I.1 (aX I.2.1.2) (bH s8 I.2.1.2 I.1 λZ=>(obind (vU (Z.2.2.2,(I.p2.1,I.p2.2.1,I.1),I.q3)) λM=>(bF (aC (al I.q5) (al I.q5)&&(aC (al I.p4) (al I.p4)&&(((I.p3.1==I.p3.1)&&ai)&&aC (al I.p3.2) (al I.p3.2)&&ai))) (il M.1.1 0 (aF M.1) (cK ((cA I.1),I.2.1,M.2)))))) (aF (0,0)))) (0,J.2,(J.2.1,J.2.2,0),(ai,([]:List Sx)),([]:List (List UInt8)),([]:List (List UInt8))))) λr=>af (bX r)))) ((0,0),x)))))))))
def xL (rr06_sites:((Int×Int×List Sx)×List (Int×Int×Int))->Option (Int×List (Int×Int×Int))) (x:(Int×Int×List Sx)×List (Int×Int×Int)):Option (Int×List (Int×Int×Int)):=
 (iter (σ:=(Int×Int)×List (Int×Int×Int)) (λI=>(bB I.1.2 (aX x.1.2.2) (vQ I.1.2 x.1.2.2 (lt (Sx.line (aJ (T:=.sm) x.1.2.2 I.1.2)) λJ=>(bF (bc (al I.2+al ([(x.1.1,I.1.1,J)])) 24) (vQ I.1.2 x.1.2.2 (lt (Sx.body (aJ (T:=.sm) x.1.2.2 I.1.2)) λZ=>(obind (rr06_sites ((x.1.1,(cA I.1.1),Z),(I.2++([(x.1.1,I.1.1,J)])))) λM=>(bF (aC (al (I.2++([(x.1.1,I.1.1,J)]))) (al (I.2++([(x.1.1,I.1.1,J)])))&&ai) (vQ I.1.2 x.1.2.2 (lt (Sx.els (aJ (T:=.sm) x.1.2.2 I.1.2)) λY=>(obind (rr06_sites ((x.1.1,M.1,Y),M.2)) λU=>(bF (aC (al M.2) (al M.2)&&ai) (cK ((U.1,(cA I.1.2)),U.2))))))))))))) (aF (I.1.1,I.2)))) ((x.1.2.1,0),x.2))
def pG:Nat->((Int×Int×List Sx)×List (Int×Int×Int))->Option (Int×List (Int×Int×Int))
 |0,_=>ah
 |n+1,x=>xL (pG n) x
theorem Hu (n:Nat) (x:(Int×Int×List Sx)×List (Int×Int×Int)):pG (n+1) x=xL (pG n) x:=rfl
def IU (x:(Int×Int×List Sx)×List (Int×Int×Int)):Option (Int×List (Int×Int×Int)):=pG fuel x
def kq (x:gG×List UInt8):Option (Int):=
 (iter (σ:=Int) (λI=>(bB I (aX x.1) (bH rU x.1 I λJ=>(bcase (decide ((J.1:List UInt8)=x.2)) (aF I) (cK (cA I)))) (aF (-1)))) 0)
def ly (x:dJ×List UInt8):Option (Int):=
 (iter (σ:=Int×gZ×gG×(List fx)×ca×ca×List (Int×Int×Int)) (λI=>(bB I.1 (aX I.2.1) (bH kE I.2.1 I.1 λJ=>(bcase (decide ((J.1:List UInt8)=x.2)) (aF I.1) (cK ((cA I.1),I.2)))) (aF (-1)))) (0,x.1))
def uq (x:sq×List sk):Option dJ:=
 (obind (fw x) λy1=>(il y1.1 0 (af (([]:List S7),([]:List ((List UInt8)×Bool)),([]:List fx),([]:List (List UInt8)),([]:List (List UInt8)),([]:List (Int×Int×Int)))) (iter (σ:=Int×(sq×List sk)×gZ×gG×(List fx)×List (List UInt8)) (λU=>(bB U.1 (aX U.2.1.1) (bH Hd U.2.1.1 U.1 λY=>(jn (α:=(sq×List sk)×gZ×gG×(List fx)×List (List UInt8)) (jn (α:=Bool×(sq×List sk)×acs×gZ×gG×(List fx)×List (List UInt8)) (bd Y.1 1 (aF ((decide ((Y.1:Int)=1)),U.2.1,Y,U.2.2)) (aF ((decide ((Y.1:Int)=2)),U.2.1,Y,U.2.2))) λx5=>(bcase x5.1 (iter (σ:=Int×(sq×List sk)×acs×gZ×gG×(List fx)×List (List UInt8)) (λJ=>(bB J.1 (jD J.p2.p3 1) (bF (bc (al J.p3+al ([(J.p2.p2,J.1,J.p2.p3,(decide ((J.p2.1:Int)=2)),J.p2.p4)])) 48) (cK ((cA J.1),J.2.1,J.p2,(J.p3++([(J.p2.p2,J.1,J.p2.p3,(decide ((J.p2.1:Int)=2)),J.p2.p4)])),J.q4))) (aF (bX (J.2.1,J.q3))))) (0,x5.2)) (jn (α:=Bool×(sq×List sk)×acs×gZ×gG×(List fx)×List (List UInt8)) (bd Y.1 3 (aF ((decide ((Y.1:Int)=3)),x5.2)) (aF ((decide ((Y.1:Int)=4)),x5.2))) λI=>(bcase I.1 (bF (bc (al I.p4+al ([(I.p2.p2,(decide ((I.p2.1:Int)=4)))])) 24) (aF (I.2.1,I.p3,(I.p4++([(I.p2.p2,(decide ((I.p2.1:Int)=4)))])),I.q5))) (bd Y.1 5 (obind (kq (I.p4,I.p2.q5)) λy8=>(bF (bc (al I.p5+al ([(I.p2.p2,y8)])) 24) (aF (I.2.1,I.p3,I.p4,(I.p5++([(I.p2.p2,y8)])),I.q6)))) (bF (bc (al I.q6+al ([I.p2.p2])) 16) (aF (I.2.1,I.p3,I.p4,I.p5,(I.q6++([I.p2.p2])))))))))) λx4=>(cK ((cA U.1),x4)))) (obind (iter (σ:=Int×(sq×List sk)×gZ×gG×(List fx)×ca×ca×List (Int×Int×Int)) (λM=>(bB M.1 (aX M.2.1.2) (bH s8 M.2.1.2 M.1 λZ=>(bF (bc (al M.p6+al ([Z.1])) 16) (bH s8 M.2.1.2 M.1 λz11=>(obind (IU ((M.1,0,z11.2.2.2),M.q7)) λy12=>(bF (aC (al M.q7) (al M.q7)&&ai) (cK ((cA M.1),M.2.1,M.p2,M.p3,M.p4,M.p5,(M.p6++([Z.1])),y12.2))))))) (aF M.2.2))) (0,U.2.1,U.p2,U.p3,U.p4,U.q5,([]:List (List UInt8)),([]:List (Int×Int×Int)))) λr=>af (bX r)))) (0,x,([]:List S7),([]:List ((List UInt8)×Bool)),([]:List fx),([]:List (List UInt8))))))
def pu (x:gZ×gG×(List fx)×ca×ca×List (Int×Int×Int)):Option (ca×Bool):=
 (iter (σ:=Int×dJ×List (List UInt8)) (λJ=>(bB J.1 (aX J.2.1.1) (jn (α:=Int×dJ×List (List UInt8)) (bH kE J.2.1.1 J.1 λU=>(bF (bc (al J.2.2+al ([U.1])) 16) (bd U.p2 0 (il U.2.1 0 (cK (bX (([]:List (List UInt8)),aj))) (aF ((cA J.1),J.2.1,(J.2.2++([U.1]))))) (jn (α:=Bool×dJ×ca×(List UInt8)×Int×Int×Bool×Int) (bB U.p2 1 (aF (ai,J.2.1,(J.2.2++([U.1])),U)) (bB 4 U.p2 (aF (ai,J.2.1,(J.2.2++([U.1])),U)) (aF ((fX (bn .i64 ((aX J.2.1.1)-J.1)) U.p2),J.2.1,(J.2.2++([U.1])),U)))) λx4=>(bcase x4.1 (cK (bX (([]:List (List UInt8)),aj))) (iter (σ:=Int×dJ×ca×(List UInt8)×Int×Int×Bool×Int) (λM=>(bB M.1 M.p5 (bH kE M.2.1.1 (bn .i64 (J.1+M.1)) λZ=>(jn (α:=Bool×dJ×ca×(List UInt8)×Int×Int×Bool×Int) (il Z.2.1 M.1 (aF (ai,M.2)) (bcase (!decide ((Z.1:List UInt8)=M.p3)) (aF (ai,M.2)) (il Z.p2 M.p5 (aF (ai,M.2)) (il Z.q4 M.q7 (aF (ai,M.2)) (aF (Z.p3,M.2)))))) λx7=>(bcase x7.1 (aF (oY (bX (([]:List (List UInt8)),aj)))) (cK ((cA M.1),x7.2))))) (aF (bX ((bn .i64 (J.1+M.p5)),M.2.1,M.p2))))) (0,x4.2))))))) λx2=>(cK x2)) (obind (iter (σ:=Int×dJ×List (List UInt8)) (λY=>(bB Y.1 (aX Y.2.1.2.1) (bH rU Y.2.1.2.1 Y.1 λz9=>(bF (bc (al Y.2.2+al ([z9.1])) 16) (cK ((cA Y.1),Y.2.1,(Y.2.2++([z9.1])))))) (obind (iter (σ:=Int×dJ×List (List UInt8)) (λI=>(bB I.1 (aX I.2.1.p2) (bH mh I.2.1.p2 I.1 λz11=>(bF (bc (al I.2.2+al ([z11.1])) 16) (cK ((cA I.1),I.2.1,(I.2.2++([z11.1])))))) (obind (bF (bc (al I.2.2+al I.2.1.p3) 16) (bF (bc (al (I.2.2++I.2.1.p3)+al I.2.1.p4) 16) (af (((I.2.2++I.2.1.p3)++I.2.1.p4),ai)))) λr=>af (bX r)))) (0,Y.2)) λr=>af (bX r)))) (0,J.2)) λr=>af (bX r)))) (0,x,([]:List (List UInt8))))
def ic (x:gZ×gG×(List fx)×ca×ca×List (Int×Int×Int)):Option (Bool):=
 (jn (α:=Bool×gZ×gG×(List fx)×ca×ca×List (Int×Int×Int)) (bB 12 (aX x.1) (aF (ai,x)) (bB 4 (aX x.2.1) (aF (ai,x)) (bB 2 (aX x.p2) (aF (ai,x)) (bB 2 (aX x.p3) (aF (ai,x)) (bB (aX x.p4) 1 (aF (ai,x)) (bB 4 (aX x.p4) (aF (ai,x)) (aF ((fX 60 (aX x.q5)),x)))))))) λx1=>(bcase x1.1 (af aj) (obind (pu x1.2) λy2=>(bcase (!y2.2) (af aj) (iter (σ:=Int×gZ×gG×(List fx)×ca×ca×List (Int×Int×Int)) (λY=>(bB Y.1 (aX y2.1) (jn (α:=Bool×gZ×gG×(List fx)×ca×ca×List (Int×Int×Int)) (bH (.str) y2.1 Y.1 λz5=>(obind (fk z5) λy6=>(bcase (!y6) (aF (ai,Y.2)) (bF (cZ 0 Y.1&&cZ Y.1 (al y2.1)) (bH (.str) y2.1 Y.1 λz7=>(obind (je ((dF (aS Y.1) y2.1),z7)) λy8=>(aF ((cZ 0 y8),Y.2)))))))) λx4=>(bcase x4.1 (aF aj) (cK ((cA Y.1),x4.2)))) (obind (iter (σ:=Int×gZ×gG×(List fx)×ca×ca×List (Int×Int×Int)) (λM=>(bB M.1 (aX M.p3) (bH mh M.p3 M.1 λz10=>(jn (α:=Bool×gZ×gG×(List fx)×ca×ca×List (Int×Int×Int)) (bB z10.2 0 (aF (ai,M.2)) (j7 (aX M.p2) z10.2 (aF (ai,M.2)) (bH rU M.p2 z10.2 λz12=>(aF (z12.2,M.2))))) λx11=>(bcase x11.1 (aF aj) (cK ((cA M.1),x11.2))))) (obind (iter (σ:=Int×gZ×gG×(List fx)×ca×ca×List (Int×Int×Int)) (λI=>(bB I.1 (aX I.q6) (jn (α:=gZ×gG×(List fx)×ca×ca×List (Int×Int×Int)) (bH oX I.q6 I.1 λZ=>(jn (α:=Bool×dJ×Int×Int×Int) (bB Z.1 0 (aF (ai,I.2,Z)) (aF ((cZ (aX I.p5) Z.1),I.2,Z))) λU=>(bcase U.1 (cK (bX aj)) (jn (α:=Bool×dJ×Int×Int×Int) (bd I.1 0 (aF (ai,U.2)) (bH oX U.2.1.q5 (bn .i64 (I.1-1)) λz18=>(aF ((!decide ((z18.1:Int)=U.p2)),U.2)))) λJ=>(bcase J.1 (jn (α:=Bool×gZ×gG×(List fx)×ca×ca×List (Int×Int×Int)) (il J.p3 0 (aF (ai,J.2.1)) (bB 0 I.1 (bH oX J.2.1.q5 (bn .i64 (I.1-1)) λz20=>(aF ((fX J.p2 z20.1),J.2.1))) (aF (aj,J.2.1)))) λx19=>(bcase x19.1 (cK (bX aj)) (aF x19.2))) (bH oX J.2.1.q5 (bn .i64 (I.1-1)) λz21=>(il J.p3 (cA z21.2.1) (cK (bX aj)) (aF J.2.1)))))))) λx14=>(cK ((cA I.1),x14))) (aF ai))) (0,M.2)) λr=>af (bX r)))) (0,Y.2)) λr=>af (bX r)))) (0,x1.2))))))
def jL (x:Int×Int×Int×Int×Int×Int):Option (List Int):=
 (jn (α:=Bool×Int×Int×Int×Int×Int×Int) (bd x.1 1 (aF ((decide ((x.1:Int)=1)),x)) (bd x.1 6 (aF ((decide ((x.1:Int)=6)),x)) (bd x.1 10 (aF ((decide ((x.1:Int)=10)),x)) (aF ((decide ((x.1:Int)=27)),x))))) λM=>(bcase M.1 (af ([M.p2])) (jn (α:=Bool×Int×Int×Int×Int×Int×Int) (bd x.1 2 (aF ((decide ((x.1:Int)=2)),M.2)) (aF ((decide ((x.1:Int)=3)),M.2))) λI=>(bcase I.1 (af ([I.p2,I.p3])) (bd x.1 4 (af ([I.p2,I.p3,I.p4])) (bd x.1 7 (af ([I.p2,I.p4])) (jn (α:=Bool×Int×Int×Int×Int×Int×Int) (bd x.1 8 (aF ((decide ((x.1:Int)=8)),I.2)) (aF ((decide ((x.1:Int)=26)),I.2))) λJ=>(bcase J.1 (af ([J.p3])) (bd x.1 9 (af ([J.p3,J.p4])) (af ([]:List Int)))))))))))
def pM (x:Int):Option (Bool):=
 (jn (α:=Bool) (j7 1 x (aF (cZ x 5)) (aF aj)) λI=>(af I))
def pw (x:(List jY)×Int):Option (Bool):=
 (iter (σ:=Int×Int) (λI=>(j7 I.2 (aX x.1) (jn (α:=Int) (jn (α:=Bool) (bB I.1 0 (aF ai) (aF (cZ (aX x.1) I.1))) λZ=>(bcase Z (cK (bX aj)) (bH qU x.1 I.1 λU=>(obind (pM U.1) λY=>(bcase (!Y) (cK (bX ai)) (bH qU x.1 I.1 λM=>(bd M.1 5 (bH qU x.1 I.1 λJ=>(aF J.2.1)) (aF (cA I.1))))))))) λx2=>(cK (x2,(cA I.2)))) (aF aj))) (x.2,0))
def ju (x:Int×Int):Option (Bool):=
 (jn (α:=Bool) (j7 0 x.1 (aF (fX x.1 x.2)) (aF aj)) λI=>(af I))
def nh (x:dJ×Int×Int):Option (Bool):=
 (jn (α:=Bool) (obind (ju (x.2.1,(aX x.1.1))) λU=>(bcase U (bH kE x.1.1 x.2.1 λM=>(bd M.2.1 0 (bH kE x.1.1 x.2.1 λJ=>(il J.2.2.1 0 (bH kE x.1.1 x.2.1 λI=>(aF (decide ((I.2.2.1:Int)=x.2.2)))) (aF aj))) (aF aj))) (aF aj))) λY=>(af Y))
def lH (x:dJ×Int×Int×Int×Int×Int×Int):Option (Bool):=
 (bd x.2.1 6 (jn (α:=Bool) (obind (ju (x.p3,(aX x.1.1))) λy2=>(bcase y2 (bH kE x.1.1 x.p3 λz3=>(aF (decide ((z3.2.2.1:Int)=0)))) (aF aj))) λx1=>(af x1)) (bd x.2.1 8 (jn (α:=Bool) (obind (ju (x.p2,(aX x.1.1))) λy5=>(bcase y5 (bH kE x.1.1 x.p2 λz6=>(aF (decide ((z6.2.2.1:Int)=0)))) (aF aj))) λx4=>(af x4)) (bd x.2.1 7 (obind (nh (x.1,x.p3,x.p5)) λy7=>(af y7)) (bd x.2.1 9 (obind (nh (x.1,x.p2,x.p5)) λy8=>(af y8)) (jn (α:=Bool×dJ×Int×Int×Int×Int×Int×Int) (bd x.2.1 11 (aF ((decide ((x.2.1:Int)=11)),x)) (aF ((decide ((x.2.1:Int)=12)),x))) λU=>(bcase U.1 (jn (α:=Bool) (obind (ju (U.p3,(aX U.2.1.2.1))) λy11=>(bcase y11 (bH rU U.2.1.2.1 U.p3 λZ=>(aF (!Z.2))) (aF aj))) λx10=>(af x10)) (jn (α:=Bool×dJ×Int×Int×Int×Int×Int×Int) (bd x.2.1 13 (aF ((decide ((x.2.1:Int)=13)),U.2)) (bd x.2.1 14 (aF ((decide ((x.2.1:Int)=14)),U.2)) (bd x.2.1 15 (aF ((decide ((x.2.1:Int)=15)),U.2)) (aF ((decide ((x.2.1:Int)=16)),U.2))))) λJ=>(bcase J.1 (jn (α:=Bool) (obind (ju (J.p3,(aX J.2.1.2.1))) λy15=>(bcase y15 (bH rU J.2.1.2.1 J.p3 λY=>(aF Y.2)) (aF aj))) λx14=>(af x14)) (jn (α:=Bool×dJ×Int×Int×Int×Int×Int×Int) (bd x.2.1 21 (aF ((decide ((x.2.1:Int)=21)),J.2)) (bd x.2.1 22 (aF ((decide ((x.2.1:Int)=22)),J.2)) (aF ((decide ((x.2.1:Int)=23)),J.2)))) λM=>(bcase M.1 (obind (ju (M.p3,(aX M.2.1.p2))) λy18=>(af y18)) (jn (α:=Bool×dJ×Int×Int×Int×Int×Int×Int) (bd x.2.1 24 (aF ((decide ((x.2.1:Int)=24)),M.2)) (aF ((decide ((x.2.1:Int)=25)),M.2))) λI=>(bcase I.1 (obind (ju (I.p3,(aX I.2.1.p4))) λy20=>(af y20)) (bd x.2.1 26 (obind (ju (I.p3,(aX I.2.1.p3))) λy21=>(af y21)) (bd x.2.1 27 (obind (ju (I.p4,(aX I.2.1.p3))) λy22=>(af y22)) (bd x.2.1 3 (jn (α:=Bool) (bd I.p6 4 (aF ai) (aF (decide ((I.p6:Int)=5)))) λx23=>(af x23)) (bd x.2.1 4 (jn (α:=Bool) (j7 6 I.p6 (aF (cZ I.p6 18)) (aF aj)) λx24=>(af x24)) (af ai)))))))))))))))))
def iy (x:dJ×Int×Int×List jY):Option (Bool):=
 (jn (α:=Bool×dJ×Int×List jY) (bB x.p2 0 (aF (ai,x.1,x.2.2)) (bB 32 x.p2 (aF (ai,x.1,x.2.2)) (aF ((decide (((aX x.q3):Int)=0)),x.1,x.2.2)))) λx1=>(bcase x1.1 (af aj) (iter (σ:=Int×dJ×Int×List jY) (λJ=>(bB J.1 (aX x.q3) (bH qU J.q3 J.1 λY=>(jn (α:=Bool×dJ×(Int×List jY)×Int×Int×Int×Int×Int×Int) (bB Y.1 1 (aF (ai,J.2.1,J.2.2,Y)) (bB 28 Y.1 (aF (ai,J.2.1,J.2.2,Y)) (bcase (((decide ((Y.1:Int)=28))==(decide ((J.1:Int)=(bn .i64 ((aX x.q3)-1))))) !=ai) (aF (ai,J.2.1,J.2.2,Y)) (obind (lH (J.2.1,Y)) λy5=>(bcase (!y5) (aF (ai,J.2.1,J.2.2,Y)) (obind (pw (J.q3,J.1)) λy6=>(aF ((!y6),J.2.1,J.2.2,Y)))))))) λI=>(bcase I.1 (aF aj) (jn (α:=Bool×dJ×(Int×List jY)×Int×Int×Int×Int×Int×Int) (bd I.p3 28 (il I.q8 (-1) (aF (ai,I.2)) (il I.p3 28 (obind (ju (I.q8,(aX I.2.1.q5))) λy8=>(bcase (!y8) (aF (ai,I.2)) (bH oX I.2.1.q5 I.q8 λz9=>(aF ((!decide ((z9.1:Int)=x.2.1)),I.2))))) (aF (aj,I.2)))) (il I.p3 28 (obind (ju (I.q8,(aX I.2.1.q5))) λy10=>(bcase (!y10) (aF (ai,I.2)) (bH oX I.2.1.q5 I.q8 λz11=>(aF ((!decide ((z11.1:Int)=x.2.1)),I.2))))) (aF (aj,I.2)))) λU=>(bcase U.1 (aF aj) (jn (α:=Bool×dJ×(Int×List jY)×Int×Int×Int×Int×Int×Int) (bd U.p3 5 (obind (ju (U.p4,(aX x.q3))) λy13=>(bcase (!y13) (aF (ai,U.2)) (bd U.p3 10 (obind (ju (U.p5,(aX x.q3))) λy14=>(aF ((!y14),U.2))) (aF (aj,U.2))))) (bd U.p3 10 (obind (ju (U.p5,(aX x.q3))) λy15=>(aF ((!y15),U.2))) (aF (aj,U.2)))) λZ=>(bcase Z.1 (aF aj) (obind (jL Z.q3) λy16=>(iter (σ:=Int×dJ×Int×List jY) (λM=>(bB M.1 (aX y16) (bH aM y16 M.1 λz18=>(obind (ju (z18,M.p2)) λy19=>(bcase (!y19) (aF (bX aj)) (cK ((cA M.1),M.2))))) (aF (oY ((cA J.1),M.2))))) (0,Z.2.1,Z.p2)))))))))) (aF ai))) (0,x1.2))))
def jK (x:dJ×List (Int×List jY)):Option (Bool):=
 (jn (α:=Bool×dJ×List (Int×List jY)) (obind (ic x.1) λY=>(bcase (!Y) (aF (ai,x)) (aF ((!decide (((aX x.2):Int)=(aX x.1.p4))),x)))) λJ=>(bcase J.1 (af aj) (iter (σ:=Int×dJ×List (Int×List jY)) (λI=>(bB I.1 (aX I.2.2) (bH xi I.2.2 I.1 λM=>(obind (iy (I.2.1,I.1,M)) λU=>(bcase (!U) (aF aj) (cK ((cA I.1),I.2))))) (aF ai))) (0,J.2))))
def cB (x:jY×rS×List jY):Option (rS×List jY):=
 (bF (bc (al x.2.2+al ([(x.1.1,x.1.2.1,x.1.p2,x.1.p3,x.1.p4,x.2.1.p7)])) 48) (af (x.2.1,(x.2.2++([(x.1.1,x.1.2.1,x.1.p2,x.1.p3,x.1.p4,x.2.1.p7)])))))
def qC (rr06_gen_value:((Xp×Int)×rS×List jY)->Option (rS×List jY)) (x:(Xp×Int)×rS×List jY):Option (rS×List jY):=
 (jn (α:=rS×List jY) (bd (Xp.op x.1.1) 1 (obind (cB ((1,x.1.2,0,0,(Xp.n x.1.1),0),x.2)) λy2=>(bF (aC (al x.2.2) (al x.2.2)&&ai) (aF y2))) (bd (Xp.op x.1.1) 2 (obind (je (x.2.1.p6,(Xp.name x.1.1))) λy3=>(j7 0 y3 (obind (cB ((2,x.1.2,y3,0,0,0),x.2)) λy4=>(bF (aC (al x.2.2) (al x.2.2)&&ai) (aF y4))) (obind (ly ((x.2.1.1,x.2.1.2.1,x.2.1.p2,x.2.1.p3,x.2.1.p4,x.2.1.p5),(Xp.name x.1.1))) λy5=>(obind (cB ((6,x.1.2,y5,0,0,0),x.2)) λy6=>(bF (aC (al x.2.2) (al x.2.2)&&ai) (aF y6)))))) (bd (Xp.op x.1.1) 3 (bH (.ex) (Xp.l x.1.1) 0 λz7=>(obind (rr06_gen_value ((z7,x.1.2),x.2)) λI=>(bF (aC (al x.2.2) (al x.2.2)&&ai) (obind (ly ((I.1.1,I.1.2.1,I.1.p2,I.1.p3,I.1.p4,I.1.p5),(Xp.name x.1.1))) λy9=>(bH kE I.1.1 y9 λz10=>(obind (cB ((7,x.1.2,y9,x.1.2,z10.2.2.1,0),I)) λy11=>(bF (aC (al I.2) (al I.2)&&ai) (aF y11)))))))) (bd (aQ (al (Xp.l x.1.1))) 1 (bH (.ex) (Xp.l x.1.1) 0 λz12=>(obind (rr06_gen_value ((z12,x.1.2),x.2)) λU=>(bF (aC (al x.2.2) (al x.2.2)&&ai) (obind (cB ((3,x.1.2,x.1.2,0,(Xp.op x.1.1),0),U)) λy14=>(bF (aC (al U.2) (al U.2)&&ai) (aF y14)))))) (bH (.ex) (Xp.l x.1.1) 0 λZ=>(obind (rr06_gen_value ((Z,x.1.2),x.2)) λM=>(bF (aC (al x.2.2) (al x.2.2)&&ai) (bH (.ex) (Xp.l x.1.1) 1 λY=>(obind (rr06_gen_value ((Y,(cA x.1.2)),M)) λJ=>(bF (aC (al M.2) (al M.2)&&ai) (obind (cB ((4,x.1.2,x.1.2,(cA x.1.2),(Xp.op x.1.1),0),J)) λy19=>(bF (aC (al J.2) (al J.2)&&ai) (aF y19))))))))))))) λx1=>(af x1))
def iO:Nat->((Xp×Int)×rS×List jY)->Option (rS×List jY)
 |0,_=>ah
 |n+1,x=>qC (iO n) x
theorem AS (n:Nat) (x:(Xp×Int)×rS×List jY):iO (n+1) x=qC (iO n) x:=rfl
def iN (x:(Xp×Int)×rS×List jY):Option (rS×List jY):=iO fuel x
def l8 (x:Sx×rS×List jY):Option (rS×List jY):=
 (bB 0 (aQ (al (Sx.index x.1))) (bH (.ex) (Sx.index x.1) 0 λz1=>(obind (iN ((z1,(aX x.2.1.p6)),x.2)) λM=>(bF (aC (al x.2.2) (al x.2.2)&&ai) (obind (iN ((em ((Xp.op (Sx.expr x.1)),(Xp.n (Sx.expr x.1)),(Xp.name (Sx.expr x.1)),(Xp.l (Sx.expr x.1))),(bn .i64 ((aX x.2.1.p6)+1))),M)) λJ=>(bF (aC (al M.2) (al M.2)&&ai) (obind (ly ((J.1.1,J.1.2.1,J.1.p2,J.1.p3,J.1.p4,J.1.p5),(Sx.name x.1))) λy4=>(bH kE J.1.1 y4 λz5=>(obind (cB ((9,y4,(bn .i64 ((aX x.2.1.p6)+1)),(aX x.2.1.p6),z5.2.2.1,0),J)) λy6=>(bF (aC (al J.2) (al J.2)&&ai) (af y6)))))))))) (obind (iN ((em ((Xp.op (Sx.expr x.1)),(Xp.n (Sx.expr x.1)),(Xp.name (Sx.expr x.1)),(Xp.l (Sx.expr x.1))),(aX x.2.1.p6)),x.2)) λI=>(bF (aC (al x.2.2) (al x.2.2)&&ai) (obind (je (I.1.p6,(Sx.name x.1))) λZ=>(j7 0 Z (obind (cB ((2,Z,(aX x.2.1.p6),0,0,0),I)) λy9=>(bF (aC (al I.2) (al I.2)&&ai) (af y9))) (obind (ly ((I.1.1,I.1.2.1,I.1.p2,I.1.p3,I.1.p4,I.1.p5),(Sx.name x.1))) λY=>(obind (cB ((8,Y,(aX x.2.1.p6),0,0,0),I)) λU=>(bF (aC (al I.2) (al I.2)&&ai) (af U)))))))))
def jy (x:(List UInt8)×rS×List jY):Option (Int×rS×List jY):=
 (iter (σ:=Int×rS×List jY) (λI=>(bB I.1 (aX I.2.1.p2) (bH mh I.2.1.p2 I.1 λJ=>(bcase (decide ((J.1:List UInt8)=x.1)) (aF I) (cK ((cA I.1),I.2)))) (aF ((-1),I.2)))) (0,x.2))
def qD (rr06_gen_stmts:acq->Option (rS×List jY)) (rr06_gen_stmt:Mm->Option (rS×List jY)) (rr06_gen_branches:Mm->Option (rS×List jY)) (rr06_gen_around:acr->Option (rS×List jY)) (x:(List Sx)×rS×List jY):Option (rS×List jY):=
 (iter (σ:=Int×rS×List jY) (λI=>(bB I.1 (aX x.1) (bH (.sm) x.1 I.1 λJ=>(obind (rr06_gen_stmt (J,I.2)) λM=>(bF (aC (al I.2.2) (al I.2.2)&&ai) (cK ((cA I.1),M))))) (aF I.2))) (0,x.2))
def r_ (rr06_gen_stmts:acq->Option (rS×List jY)) (rr06_gen_stmt:Mm->Option (rS×List jY)) (rr06_gen_branches:Mm->Option (rS×List jY)) (rr06_gen_around:acr->Option (rS×List jY)) (x:Sx×rS×List jY):Option (rS×List jY):=
 (jn (α:=rS×List jY) (bd (Sx.op x.1) 1 (obind (l8 (ey x.1,(x.2.1.1,x.2.1.2.1,x.2.1.p2,x.2.1.p3,x.2.1.p4,x.2.1.p5,x.2.1.p6,x.2.1.q8,(cA x.2.1.q8)),x.2.2)) λy2=>(bF (aC (al x.2.2) (al x.2.2)&&ai) (aF y2))) (jn (α:=Bool×rS×Sx×List jY) (bd (Sx.op x.1) 2 (aF ((decide (((Sx.op x.1):Int)=2)),(x.2.1.1,x.2.1.2.1,x.2.1.p2,x.2.1.p3,x.2.1.p4,x.2.1.p5,x.2.1.p6,x.2.1.q8,(cA x.2.1.q8)),ey x.1,x.2.2)) (aF ((decide (((Sx.op x.1):Int)=3)),(x.2.1.1,x.2.1.2.1,x.2.1.p2,x.2.1.p3,x.2.1.p4,x.2.1.p5,x.2.1.p6,x.2.1.q8,(cA x.2.1.q8)),ey x.1,x.2.2))) λI=>(bcase I.1 (obind (rr06_gen_branches (ey I.p2,I.2.1,I.q3)) λy4=>(bF (aC (al I.q3) (al I.q3)&&ai) (aF y4))) (bd (Sx.op x.1) 4 (obind (kq (I.2.1.2.1,(Sx.name I.p2))) λy5=>(obind (rr06_gen_around ((ey I.p2,11,12,y5),I.2.1,I.q3)) λy6=>(bF (aC (al I.q3) (al I.q3)&&ai) (aF y6)))) (bd (Sx.op x.1) 5 (obind (kq (I.2.1.2.1,(Sx.name I.p2))) λy7=>(obind (rr06_gen_around ((ey I.p2,13,14,y7),I.2.1,I.q3)) λy8=>(bF (aC (al I.q3) (al I.q3)&&ai) (aF y8)))) (bd (Sx.op x.1) 6 (obind (kq (I.2.1.2.1,(Sx.name I.p2))) λy9=>(obind (rr06_gen_around ((ey I.p2,15,16,y9),I.2.1,I.q3)) λy10=>(bF (aC (al I.q3) (al I.q3)&&ai) (aF y10)))) (bd (Sx.op x.1) 7 (obind (rr06_gen_around ((ey I.p2,17,18,0),I.2.1,I.q3)) λy11=>(bF (aC (al I.q3) (al I.q3)&&ai) (aF y11))) (bd (Sx.op x.1) 8 (obind (rr06_gen_around ((ey I.p2,19,20,0),I.2.1,I.q3)) λy12=>(bF (aC (al I.q3) (al I.q3)&&ai) (aF y12))) (bd (Sx.op x.1) 9 (obind (jy ((Sx.name I.p2),I.2.1,I.q3)) λU=>(bF (aC (al I.q3) (al U.2.2)&&ai) (obind (cB ((21,U.1,0,0,0,0),U.2)) λy14=>(bF (aC (al U.2.2) (al U.2.2)&&ai) (aF y14))))) (bd (Sx.op x.1) 10 (obind (jy ((Sx.name I.p2),I.2.1,I.q3)) λM=>(bF (aC (al I.q3) (al M.2.2)&&ai) (obind (cB ((22,M.1,0,0,0,0),M.2)) λy16=>(bF (aC (al M.2.2) (al M.2.2)&&ai) (aF y16))))) (bd (Sx.op x.1) 11 (obind (jy ((Sx.name I.p2),I.2.1,I.q3)) λJ=>(bF (aC (al I.q3) (al J.2.2)&&ai) (obind (cB ((23,J.1,0,0,0,0),J.2)) λy18=>(bF (aC (al J.2.2) (al J.2.2)&&ai) (aF y18))))) (bd (Sx.op x.1) 12 (obind (je (I.2.1.p4,(Sx.name I.p2))) λy19=>(obind (cB ((24,y19,0,0,0,0),I.2.1,I.q3)) λy20=>(bF (aC (al I.q3) (al I.q3)&&ai) (aF y20)))) (bd (Sx.op x.1) 13 (obind (je (I.2.1.p4,(Sx.name I.p2))) λy21=>(obind (cB ((25,y21,0,0,0,0),I.2.1,I.q3)) λy22=>(bF (aC (al I.q3) (al I.q3)&&ai) (aF y22)))) (bd (Sx.op x.1) 14 (obind (iN ((em ((Xp.op (Sx.expr I.p2)),(Xp.n (Sx.expr I.p2)),(Xp.name (Sx.expr I.p2)),(Xp.l (Sx.expr I.p2))),(aX x.2.1.p6)),I.2.1,I.q3)) λY=>(bF (aC (al I.q3) (al I.q3)&&ai) (obind (je (Y.1.p3,(Sx.name I.p2))) λy24=>(obind (cB ((26,y24,(aX x.2.1.p6),0,0,0),Y)) λy25=>(bF (aC (al Y.2) (al Y.2)&&ai) (aF y25)))))) (bd (Sx.op x.1) 15 (obind (je (I.2.1.p6,(Sx.name I.p2))) λy26=>(obind (je (I.2.1.p3,(Sx.arg I.p2))) λy27=>(obind (cB ((27,y26,y27,0,0,0),I.2.1,I.q3)) λZ=>(bF (aC (al I.q3) (al I.q3)&&ai) (aF Z))))) (aF (I.2.1,I.q3))))))))))))))))) λx1=>(af x1))
def mE (rr06_gen_stmts:acq->Option (rS×List jY)) (rr06_gen_stmt:Mm->Option (rS×List jY)) (rr06_gen_branches:Mm->Option (rS×List jY)) (rr06_gen_around:acr->Option (rS×List jY)) (x:Sx×rS×List jY):Option (rS×List jY):=
 (obind (iN ((em ((Xp.op (Sx.expr x.1)),(Xp.n (Sx.expr x.1)),(Xp.name (Sx.expr x.1)),(Xp.l (Sx.expr x.1))),(aX x.2.1.p6)),x.2)) λJ=>(bF (aC (al x.2.2) (al x.2.2)&&ai) (obind (cB ((10,(aX J.1.p6),0,0,0,0),J)) λZ=>(bF (aC (al J.2) (al J.2)&&ai) (obind (rr06_gen_stmts ((Sx.body x.1),Z)) λI=>(bF (aC (al Z.2) (al Z.2)&&ai) (bd (Sx.op x.1) 3 (obind (cB ((5,(aX x.2.2),0,0,0,0),(I.1.1,I.1.2.1,I.1.p2,I.1.p3,I.1.p4,I.1.p5,I.1.p6,x.2.1.p7,I.1.q8),I.2)) λU=>(bF (aC (al I.2) (al I.2)&&ai) (ck (fm (aX J.2) (al U.2)) (af (U.1,(ct U.2 (aX J.2) ((aJ (T:=qU) U.2 (aX J.2)).1,((aJ (T:=qU) U.2 (aX J.2)).2).1,(aX U.2),(((aJ (T:=qU) U.2 (aX J.2)).2).2).2))))))) (bd (aQ (al (Sx.els x.1))) 0 (ck (fm (aX J.2) (al I.2)) (af ((I.1.1,I.1.2.1,I.1.p2,I.1.p3,I.1.p4,I.1.p5,I.1.p6,x.2.1.p7,I.1.q8),(ct I.2 (aX J.2) ((aJ (T:=qU) I.2 (aX J.2)).1,((aJ (T:=qU) I.2 (aX J.2)).2).1,(aX I.2),(((aJ (T:=qU) I.2 (aX J.2)).2).2).2))))) (obind (cB ((5,0,0,0,0,0),(I.1.1,I.1.2.1,I.1.p2,I.1.p3,I.1.p4,I.1.p5,I.1.p6,x.2.1.p7,I.1.q8),I.2)) λM=>(bF (aC (al I.2) (al I.2)&&ai) (ck (fm (aX J.2) (al M.2)) (obind (rr06_gen_stmts ((Sx.els x.1),M.1,(ct M.2 (aX J.2) ((aJ (T:=qU) M.2 (aX J.2)).1,((aJ (T:=qU) M.2 (aX J.2)).2).1,(aX M.2),(((aJ (T:=qU) M.2 (aX J.2)).2).2).2)))) λY=>(bF (aC (al (ct M.2 (aX J.2) ((aJ (T:=qU) M.2 (aX J.2)).1,((aJ (T:=qU) M.2 (aX J.2)).2).1,(aX M.2),(((aJ (T:=qU) M.2 (aX J.2)).2).2).2))) (al (ct M.2 (aX J.2) ((aJ (T:=qU) M.2 (aX J.2)).1,((aJ (T:=qU) M.2 (aX J.2)).2).1,(aX M.2),(((aJ (T:=qU) M.2 (aX J.2)).2).2).2)))&&ai) (ck (fm (aX I.2) (al Y.2)) (af (Y.1,(ct Y.2 (aX I.2) ((aJ (T:=qU) Y.2 (aX I.2)).1,(aX Y.2),((aJ (T:=qU) Y.2 (aX I.2)).2).2))))))))))))))))))
def pd (rr06_gen_stmts:acq->Option (rS×List jY)) (rr06_gen_stmt:Mm->Option (rS×List jY)) (rr06_gen_branches:Mm->Option (rS×List jY)) (rr06_gen_around:acr->Option (rS×List jY)) (x:(Sx×Int×Int×Int)×rS×List jY):Option (rS×List jY):=
 (obind (cB ((x.1.2.1,x.1.q3,0,0,0,0),x.2)) λJ=>(bF (aC (al x.2.2) (al x.2.2)&&ai) (obind (rr06_gen_stmts ((Sx.body x.1.1),J)) λI=>(bF (aC (al J.2) (al J.2)&&ai) (obind (cB ((x.1.p2,x.1.q3,0,0,0,0),(I.1.1,I.1.2.1,I.1.p2,I.1.p3,I.1.p4,I.1.p5,I.1.p6,x.2.1.p7,I.1.q8),I.2)) λM=>(bF (aC (al I.2) (al I.2)&&ai) (af M)))))))
mutual
def dP:Nat->acq->Option (rS×List jY)
 |0,_=>ah
 |n+1,x=>qD (dP n) (eT n) (c9 n) (dL n) x
def eT:Nat->Mm->Option (rS×List jY)
 |0,_=>ah
 |n+1,x=>r_ (dP n) (eT n) (c9 n) (dL n) x
def c9:Nat->Mm->Option (rS×List jY)
 |0,_=>ah
 |n+1,x=>mE (dP n) (eT n) (c9 n) (dL n) x
def dL:Nat->acr->Option (rS×List jY)
 |0,_=>ah
 |n+1,x=>pd (dP n) (eT n) (c9 n) (dL n) x
end
def uo (x:(List Sx)×rS×List jY):Option (rS×List jY):=dP fuel x
def qw (x:sq×List sk):Option (Ad×Int×Int):=
 (obind (fw x) λy1=>(il y1.1 0 (af (((([]:List S7),([]:List ((List UInt8)×Bool)),([]:List fx),([]:List (List UInt8)),([]:List (List UInt8)),([]:List (Int×Int×Int))),([]:List (Int×List jY))),y1)) (obind (uq x) λy2=>(iter (σ:=(Int×Int)×(sq×List sk)×dJ×List (Int×List jY)) (λJ=>(bB J.1.2 (aX J.2.1.2) (bH s8 J.2.1.2 J.1.2 λz4=>(bH s8 J.2.1.2 J.1.2 λz5=>(obind (uo (z5.2.2.2,(J.p2.1,J.p2.2.1,J.p2.p2,J.p2.p3,J.p2.p4,J.p2.q5,z4.2.2.1,0,J.1.1),([]:List jY))) λU=>(bF (aC (al ([]:List jY)) (al ([]:List jY))&&ai) (obind (cB ((28,0,0,0,0,0),(U.1.1,U.1.2.1,U.1.p2,U.1.p3,U.1.p4,U.1.p5,U.1.p6,(-1),U.1.q8),U.2)) λy7=>(bF (aC (al U.2) (al U.2)&&ai) (iter (σ:=Int×(sq×List sk)×dJ×rS×Int×(List (Int×List jY))×List jY) (λM=>(bB M.1 (aX M.q6) (kJ qU M.q6 M.1 λz9=>(obind (jL z9) λY=>(iter (σ:=Int×(sq×List sk)×dJ×rS×Int×(List (Int×List jY))×List jY) (λI=>(bB I.1 (aX Y) (bH aM Y I.1 λZ=>(cK ((cA I.1),I.2.1,I.p2,I.p3,(jD I.p4 (cA Z)),I.q5))) (aF (oY ((cA M.1),I.2))))) (0,M.2)))) (obind (bF (bc (al M.p5+al ([(M.p4,M.q6)])) 32) (cK ((U.1.q8,(cA J.1.2)),M.2.1,M.p2,(M.p5++([(M.p4,M.q6)]))))) λr=>af (bX r)))) (0,J.2.1,J.p2,y7.1,(aX y7.1.p6),J.q3,y7.2)))))))) (aF (J.2.2,0,0)))) ((0,0),x,y2,([]:List (Int×List jY)))))))
def qu (x:(List Int)×Int):Option (Bool):=
 (iter (σ:=Int) (λI=>(bB I (aX x.1) (bH aM x.1 I λJ=>(bd J x.2 (aF ai) (cK (cA I)))) (aF aj))) 0)
def wG (x:(List Int)×Int):Option (List Int):=
 (iter (σ:=Int) (λI=>(jn (α:=Bool) (bB I (aX x.1) (bH aM x.1 I λM=>(aF (fX M x.2))) (aF aj)) λY=>(bcase Y (cK (cA I)) (obind (jn (α:=Bool) (bB I (aX x.1) (bH aM x.1 I λJ=>(aF (decide ((J:Int)=x.2)))) (aF aj)) λU=>(bcase U (af x.1) (bF (cZ 0 I&&cZ I (al x.1)) (bF (bc (al ([]:List Int)+al (dF (aS I) x.1)) 8) (bF (bc (al (([]:List Int)++(dF (aS I) x.1))+al ([x.2])) 8) (bF (cZ 0 I&&cZ I (al x.1)) (bF (bc (al ((([]:List Int)++(dF (aS I) x.1))++([x.2]))+al (List.drop (aS I) x.1)) 8) (af (((([]:List Int)++(dF (aS I) x.1))++([x.2]))++(List.drop (aS I) x.1)))))))))) λr=>af (bX r))))) 0)
def ru (x:(List Int)×List Int):Option (List Int):=
 (iter (σ:=(List Int)×Int) (λJ=>(bB J.2 (aX x.1) (bH aM x.1 J.2 λU=>(obind (wG (J.1,U)) λZ=>(cK (Z,(cA J.2))))) (obind (iter (σ:=(List Int)×Int) (λI=>(bB I.2 (aX x.2) (bH aM x.2 I.2 λM=>(obind (wG (I.1,M)) λY=>(cK (Y,(cA I.2))))) (aF I.1))) (J.1,0)) λr=>af (bX r)))) (([]:List Int),0))
def mm (x:Int):Option (Int):=
 (jn (α:=Bool) (bB x 1 (aF ai) (aF (fX 100 x))) λI=>(bcase I (af 0) (af x)))
def cg (x:Int×(List Int)×(List (List Int))×Int):Option ((Int×Int)×(List Int)×List (List Int)):=
 (bF (bc (al ([]:List Int)+al x.2.1) 8) (iter (σ:=Int×ud×(Int×Int)×(Int×Int)×(List Int)×List (List Int)) (λI=>(bB I.1 (aX I.2.1.p2) (bH (.sl aM) I.2.1.p2 I.1 λJ=>(bF (bc (al ([]:List Int)+al J) 8) (bF (bc (al I.q5+al ([(([]:List Int)++J)])) 24) (cK ((cA I.1),I.2.1,I.p2,I.p3,I.p4,(I.q5++([(([]:List Int)++J)]))))))) (aF I.q3))) (0,x,(0,0),(x.1,x.q3),(([]:List Int)++x.2.1),([]:List (List Int)))))
def wF (x:(jY×Int×Int)×(List Int)×List (List Int)):Option (((Int×Int)×Bool)×(List Int)×List (List Int)):=
 (obind (jL x.1.1) λy1=>(iter (σ:=Int×(List Int)×(List (List Int))×jY×(Int×Int)×Int×Int) (λI=>(bB I.1 (aX y1) (jn (α:=Bool×(List Int)×(List (List Int))×jY×(Int×Int)×Int×Int) (bH aM y1 I.1 λz4=>(bB z4 0 (aF (ai,I.2)) (bH aM y1 I.1 λz5=>(aF ((cZ (aX I.2.1) z5),I.2))))) λx3=>(bcase x3.1 ah (cK ((cA I.1),x3.2)))) (obind (jn (α:=(Int×Bool×List Int)×(List Int)×(List (List Int))×jY×(Int×Int)×Int×Int) (bd I.p3.1 5 (cK (((I.p3.2.1,I.p4.2),ai),I.2.1,I.p2)) (bd I.p3.1 1 (aF ((I.p3.p4,ai,([]:List Int)),I.2)) (bd I.p3.1 2 (kJ aM I.2.1 I.p3.p2 λz7=>(kJ (.sl aM) I.p2 I.p3.p2 λz8=>(aF ((z7,ai,z8),I.2)))) (bd I.p3.1 3 (obind (mm I.p3.p4) λy9=>(kJ aM I.2.1 I.p3.p2 λz10=>(obind (ur (y9,z10)) λU=>(kJ (.sl aM) I.p2 I.p3.p2 λz12=>(aF ((U.1,U.2,z12),I.2)))))) (obind (mm I.p3.p4) λy13=>(kJ aM I.2.1 I.p3.p2 λz14=>(kJ aM I.2.1 I.p3.p3 λz15=>(obind (sA (y13,z14,z15)) λM=>(kJ (.sl aM) I.p2 I.p3.p2 λZ=>(kJ (.sl aM) I.p2 I.p3.p3 λY=>(obind (ru (Z,Y)) λy19=>(aF ((M.1,M.2,y19),I.2))))))))))))) λJ=>(bF (bc (al ([]:List Int)+al J.1.2.2) 8) (ck (fm J.p3.2.1 (al J.2.1)) (ck (fm J.p3.2.1 (al J.p2)) (af ((((cA J.p4.1),J.p4.2),J.1.2.1),(ct J.2.1 J.p3.2.1 J.1.1),(ct J.p2 J.p3.2.1 (([]:List Int)++J.1.2.2)))))))) λr=>af (bX r)))) (0,x.2.1,x.2.2,x.1.1,x.1.2,0,0)))
def ng (x:(Int×List jY)×Int×(List Int)×(List (List Int))×Int):Option (ud×Bool):=
 (jn (α:=Bool×(Int×List jY)×ud×Int×Int) (il (aX x.p2) x.1.1 (aF (ai,x.1,x.2,0,0)) (aF ((!decide (((aX x.p3):Int)=x.1.1)),x.1,x.2,0,0))) λU=>(bcase U.1 (af ((0,([]:List Int),([]:List (List Int)),0),aj)) (obind (cg U.p2) λZ=>(iter (σ:=Int×(Int×List jY)×(Int×Int)×(Int×Int)×(List Int)×List (List Int)) (λJ=>(j7 J.1 (aX J.2.1.2) (jn (α:=Bool×(Int×List jY)×(Int×Int)×(Int×Int)×(List Int)×List (List Int)) (bB J.p2.1 0 (aF (ai,J.2)) (aF ((cZ (aX J.2.1.2) J.p2.1),J.2))) λI=>(bcase I.1 (aF ((0,([]:List Int),([]:List (List Int)),0),aj)) (bH qU I.2.1.2 I.p2.1 λY=>(obind (pM Y.1) λy6=>(bcase (!y6) (aF ((I.p2.1,I.p4,I.q5,I.p2.2),ai)) (bd J.1 (aX I.2.1.2) (aF ((0,([]:List Int),([]:List (List Int)),0),aj)) (obind (wF ((Y,I.p2),I.q4)) λM=>(bF (aC (al I.q5) (al M.2.2)&&(aC (al I.p4) (al M.2.1)&&ai)) (bcase (!M.1.2) (aF ((0,([]:List Int),([]:List (List Int)),0),aj)) (cK ((cA J.1),I.2.1,M.1.1,I.p3,M.2))))))))))) (aF ((0,([]:List Int),([]:List (List Int)),0),aj)))) (0,U.2.1,Z.1,U.q3,Z.2)))))
def rn (x:gZ×gG×(List fx)×ca×ca×List (Int×Int×Int)):Option ph:=
 (iter (σ:=Int×dJ×Int×Int×List (Int×List Int)) (λM=>(bB M.1 (aX M.2.1.2.1) (bF (bc (al M.q4+al ([((-1),([]:List Int))])) 32) (cK ((cA M.1),M.2.1,M.p2,M.p3,(M.q4++([((-1),([]:List Int))]))))) (obind (iter (σ:=Int×dJ×Int×Int×gF×List Bool) (λJ=>(bB J.1 (aX J.2.1.p3) (bF (bc (al J.q5+al ([aj])) 1) (cK ((cA J.1),J.2.1,J.p2,J.p3,J.p4,(J.q5++([aj]))))) (obind (iter (σ:=Int×dJ×Int×Int×gF×(List Bool)×List dz) (λI=>(bB I.1 (aX I.2.1.p4) (jn (α:=dJ×Int×Int×dz×gF×(List Bool)×List dz) (bd I.1 0 (aF (I.2.1,I.p2,I.p3,(1,0,aj),I.q4)) (aF (I.2.1,I.p2,I.p3,(0,0,aj),I.q4))) λU=>(bF (bc (al U.q6+al ([U.p3])) 24) (cK ((cA I.1),U.1,U.2.1,U.p2,U.p4,U.p5,(U.q6++([U.p3])))))) (aF (I.p4,I.p3,I.q5)))) (0,J.2.1,J.p2,J.p3,J.p4,J.q5,([]:List dz))) λr=>af (bX r)))) (0,M.2.1,M.p2,M.p3,M.q4,([]:List Bool))) λr=>af (bX r)))) (0,x,0,(-1),([]:List (Int×List Int))))
def rq (x:dJ×gF×Int×(List Bool)×List dz):Option (Bool):=
 (iter (σ:=Int×dJ×gF×Int×(List Bool)×List dz) (λI=>(bB I.1 (aX I.2.1.p2) (jn (α:=Bool×dJ×gF×Int×(List Bool)×List dz) (bH mh I.2.1.p2 I.1 λU=>(bB U.2 0 (aF (ai,I.2)) (bH mh I.2.1.p2 I.1 λM=>(aF ((cZ (aX I.2.1.2.1) M.2),I.2))))) λJ=>(bcase J.1 (aF aj) (cK ((cA I.1),J.2)))) (obind (jn (α:=Bool) (bd (aX I.p2) (aX I.2.1.2.1) (bd (aX I.p4) (aX I.2.1.p3) (aF (decide (((aX I.q5):Int)=(aX I.2.1.p4)))) (aF aj)) (aF aj)) λY=>(af Y)) λr=>af (bX r)))) (0,x))
def qr (x:Int×Int):Option (Bool):=
 (jn (α:=Bool) (j7 0 x.1 (aF (fX x.1 x.2)) (aF aj)) λI=>(af I))
def um (x:dJ×Int×Int):Option (Bool):=
 (jn (α:=Bool×gZ×gG×(List fx)×ca×ca×List (Int×Int×Int)) (bd x.2.1 1 (aF ((decide ((x.2.1:Int)=1)),x.1)) (bd x.2.1 2 (aF ((decide ((x.2.1:Int)=2)),x.1)) (bd x.2.1 5 (aF ((decide ((x.2.1:Int)=5)),x.1)) (bd x.2.1 12 (aF ((decide ((x.2.1:Int)=12)),x.1)) (bd x.2.1 13 (aF ((decide ((x.2.1:Int)=13)),x.1)) (bd x.2.1 14 (aF ((decide ((x.2.1:Int)=14)),x.1)) (aF ((decide ((x.2.1:Int)=15)),x.1)))))))) λx1=>(bcase x1.1 (af (decide ((x.2.2:Int)=(-1)))) (jn (α:=Bool×gZ×gG×(List fx)×ca×ca×List (Int×Int×Int)) (bd x.2.1 3 (aF ((decide ((x.2.1:Int)=3)),x1.2)) (aF ((decide ((x.2.1:Int)=4)),x1.2))) λZ=>(bcase Z.1 (obind (qr (x.2.2,(aX Z.2.1))) λy3=>(af y3)) (jn (α:=Bool×gZ×gG×(List fx)×ca×ca×List (Int×Int×Int)) (bd x.2.1 6 (aF ((decide ((x.2.1:Int)=6)),Z.2)) (aF ((decide ((x.2.1:Int)=7)),Z.2))) λU=>(bcase U.1 (jn (α:=Bool) (obind (qr (x.2.2,(aX U.p2))) λy6=>(bcase y6 (bH rU U.p2 x.2.2 λz7=>(aF (!z7.2))) (aF aj))) λx5=>(af x5)) (jn (α:=Bool×gZ×gG×(List fx)×ca×ca×List (Int×Int×Int)) (bd x.2.1 8 (aF ((decide ((x.2.1:Int)=8)),U.2)) (bd x.2.1 9 (aF ((decide ((x.2.1:Int)=9)),U.2)) (bd x.2.1 10 (aF ((decide ((x.2.1:Int)=10)),U.2)) (aF ((decide ((x.2.1:Int)=11)),U.2))))) λM=>(bcase M.1 (jn (α:=Bool) (obind (qr (x.2.2,(aX M.p2))) λy10=>(bcase y10 (bH rU M.p2 x.2.2 λz11=>(aF z11.2)) (aF aj))) λx9=>(af x9)) (jn (α:=Bool×gZ×gG×(List fx)×ca×ca×List (Int×Int×Int)) (bd x.2.1 16 (aF ((decide ((x.2.1:Int)=16)),M.2)) (bd x.2.1 17 (aF ((decide ((x.2.1:Int)=17)),M.2)) (bd x.2.1 18 (aF ((decide ((x.2.1:Int)=18)),M.2)) (aF ((decide ((x.2.1:Int)=19)),M.2))))) λJ=>(bcase J.1 (obind (qr (x.2.2,(aX J.p3))) λy13=>(af y13)) (jn (α:=Bool×gZ×gG×(List fx)×ca×ca×List (Int×Int×Int)) (bd x.2.1 20 (aF ((decide ((x.2.1:Int)=20)),J.2)) (aF ((decide ((x.2.1:Int)=21)),J.2))) λI=>(bcase I.1 (obind (qr (x.2.2,(aX I.p5))) λy15=>(af y15)) (jn (α:=Bool×gZ×gG×(List fx)×ca×ca×List (Int×Int×Int)) (bd x.2.1 22 (aF ((decide ((x.2.1:Int)=22)),I.2)) (aF ((decide ((x.2.1:Int)=23)),I.2))) λY=>(bcase Y.1 (obind (qr (x.2.2,(aX Y.p4))) λy17=>(af y17)) (af aj)))))))))))))))
def ko (x:dJ×ph×Int×Int×Int):Option (Bool):=
 (jn (α:=Bool×dJ×gF×Int×(List Bool)×List dz) (obind (rq (x.1,x.2.1)) λy2=>(bcase (!y2) (aF (ai,x.1,x.2.1)) (obind (qr (x.p2,(aX x.1.p4))) λy3=>(bcase (!y3) (aF (ai,x.1,x.2.1)) (obind (um (x.1,x.q3)) λy4=>(aF ((!y4),x.1,x.2.1))))))) λM=>(bcase M.1 (af aj) (bH ij M.q5 x.p2 λU=>(bd x.p3 1 (af (decide ((U.1:Int)=1))) (bd x.p3 17 (jn (α:=Bool) (bd U.1 4 (bd U.2.1 x.q4 (bH mh M.2.1.p2 x.q4 λz7=>(bH eh M.p2 z7.2 λz8=>(aF (decide ((z8.1:Int)=(-1)))))) (aF aj)) (aF aj)) λx6=>(af x6)) (il U.1 2 (af aj) (bd x.p3 6 (bH eh M.p2 x.q4 λz9=>(af (decide ((z9.1:Int)=(-1))))) (bd x.p3 10 (jn (α:=Bool) (bH eh M.p2 x.q4 λz11=>(bd z11.1 (-1) (bH eh M.p2 x.q4 λz12=>(aF (decide (((aX z12.2):Int)=0)))) (aF aj))) λx10=>(af x10)) (bd x.p3 8 (jn (α:=Bool) (bH eh M.p2 x.q4 λz14=>(bd z14.1 (-1) (bH eh M.p2 x.q4 λz15=>(obind (qu (z15.2,x.p2)) λy16=>(aF (!y16)))) (aF aj))) λx13=>(af x13)) (jn (α:=Bool×dJ×ph×Int×Int×Bool) (bd x.p3 7 (aF ((decide ((x.p3:Int)=7)),M.2.1,M.2.2,U)) (aF ((decide ((x.p3:Int)=11)),M.2.1,M.2.2,U))) λI=>(bcase I.1 (bH eh I.p2.1 x.q4 λz18=>(af (decide ((z18.1:Int)=x.p2)))) (bd x.p3 9 (bH eh I.p2.1 x.q4 λz19=>(obind (qu (z19.2,x.p2)) λy20=>(af y20))) (bd x.p3 12 (af (decide ((I.p2.2.1:Int)=(-1)))) (bd x.p3 13 (af (decide ((I.p2.2.1:Int)=x.p2))) (bd x.p3 14 (af (!I.q5)) (bd x.p3 15 (af I.q5) (jn (α:=Bool×dJ×gF×Int×(List Bool)×List dz) (bd x.p3 16 (aF ((decide ((x.p3:Int)=16)),I.2.1,I.p2)) (bd x.p3 18 (aF ((decide ((x.p3:Int)=18)),I.2.1,I.p2)) (aF ((decide ((x.p3:Int)=19)),I.2.1,I.p2)))) λJ=>(bcase J.1 (bH mh J.2.1.p2 x.q4 λz22=>(bH eh J.p2 z22.2 λz23=>(af (decide ((z23.1:Int)=x.p2))))) (bd x.p3 20 (jn (α:=Bool) (il x.q4 x.p2 (bH ij J.q5 x.q4 λz25=>(aF (decide ((z25.1:Int)=0)))) (aF aj)) λx24=>(af x24)) (bd x.p3 21 (jn (α:=Bool) (il x.q4 x.p2 (bH ij J.q5 x.q4 λz27=>(aF (decide ((z27.1:Int)=5)))) (aF aj)) λx26=>(af x26)) (bd x.p3 22 (bH (.bool) J.p4 x.q4 λZ=>(af (!Z))) (bd x.p3 23 (bH (.bool) J.p4 x.q4 λY=>(af Y)) (af ai)))))))))))))))))))))))
def nP (x:ph×Int):Option (List Int):=
 (iter (σ:=Int×ph×List Int) (λI=>(bB I.1 (aX I.2.1.q3) (jn (α:=ph×List Int) (jn (α:=Bool×ph×List Int) (bH ij I.2.1.q3 I.1 λU=>(bd U.1 3 (bH ij I.2.1.q3 I.1 λM=>(aF ((decide ((M.2.1:Int)=x.2)),I.2))) (aF (aj,I.2)))) λJ=>(bcase J.1 (bF (bc (al J.2.2+al ([I.1])) 8) (aF (J.2.1,(J.2.2++([I.1]))))) (aF J.2))) λY=>(cK ((cA I.1),Y))) (aF I.2.2))) (0,x.1,([]:List Int)))
def qp (x:(List Int)×Int):Option (List Int):=
 (iter (σ:=Int×List Int) (λI=>(bB I.1 (aX x.1) (jn (α:=List Int) (bH aM x.1 I.1 λM=>(il M x.2 (bH aM x.1 I.1 λJ=>(bF (bc (al I.2+al ([J])) 8) (aF (I.2++([J]))))) (aF I.2))) λU=>(cK ((cA I.1),U))) (aF I.2))) (0,([]:List Int)))
def iw (x:gF×Int×(List Bool)×List dz):Option (Int×gF×(List Bool)×List dz):=
 (bF (bc (al ([]:List Bool)+al x.p2) 1) (bF (bc (al ([]:List dz)+al x.q3) 24) (iter (σ:=Int×ph×Int×Int×gF×(List Bool)×List dz) (λI=>(bB I.1 (aX I.2.1.1) (bH eh I.2.1.1 I.1 λM=>(bH eh I.2.1.1 I.1 λJ=>(bF (bc (al ([]:List Int)+al J.2) 8) (bF (bc (al I.p4+al ([(M.1,(([]:List Int)++J.2))])) 32) (cK ((cA I.1),I.2.1,I.p2,I.p3,(I.p4++([(M.1,(([]:List Int)++J.2))])),I.q5)))))) (aF I.q3))) (0,x,0,x.2.1,([]:List (Int×List Int)),(([]:List Bool)++x.p2),(([]:List dz)++x.q3)))))
def ml (x:(Int×Int)×gF×(List Bool)×List dz):Option ((List Int)×gF×(List Bool)×List dz):=
 (iter (σ:=Int×gF×(List Bool)×(List dz)×Int×List Int) (λI=>(bB I.1 (aX I.p3) (jn (α:=gF×(List Bool)×(List dz)×Int×List Int) (jn (α:=Bool×gF×(List Bool)×(List dz)×Int×List Int) (kJ ij I.p3 I.1 λU=>(bd U.1 3 (kJ ij I.p3 I.1 λM=>(aF ((decide ((M.2.1:Int)=x.1.2)),I.2))) (aF (aj,I.2)))) λJ=>(bcase J.1 (bF (bc (al J.q5+al ([I.1])) 8) (aF (J.2.1,J.p2,J.p3,J.p4,(J.q5++([I.1]))))) (aF J.2))) λY=>(cK ((cA I.1),Y))) (aF (I.q5,I.2.1,I.p2,I.p3)))) (0,x.2.1,x.p2,x.q3,x.1.1,([]:List Int)))
def jJ (x:(Int×Int)×gF×(List Bool)×List dz):Option (List Int):=obind (ml x) λy=>same y.2 x.2 (af y.1)
def pt (x:dJ×ph×Int×Int×Int×Int):Option (ph×Int×Bool):=
 (obind (ko (x.1,x.2.1,x.p2,x.p3,x.p4)) λy1=>(bcase (!y1) (af ((([]:List (Int×List Int)),0,([]:List Bool),([]:List dz)),0,aj)) (obind (iw x.2.1) λU=>(jn (α:=Int×Int×Int×gF×(List Bool)×List dz) (bd x.p3 1 (ck (fm x.p2 (al U.q3)) (aF (0,U.1,0,U.2.1,U.p2,(ct U.q3 x.p2 (2,(aJ (T:=ij) U.q3 x.p2).2))))) (bd x.p3 2 (ck (fm x.p2 (al U.q3)) (aF (0,U.1,0,U.2.1,U.p2,(ct U.q3 x.p2 (5,(aJ (T:=ij) U.q3 x.p2).2))))) (jn (α:=Bool×dJ×Int×Int×gF×(List Bool)×List dz) (bd x.p3 6 (aF ((decide ((x.p3:Int)=6)),x.1,U.1,0,U.2)) (aF ((decide ((x.p3:Int)=10)),x.1,U.1,0,U.2))) λY=>(bcase Y.1 (ck (fm x.p4 (al Y.p4)) (aF (0,Y.p2,Y.p3,(ct Y.p4 x.p4 (x.p2,(aJ (T:=eh) Y.p4 x.p4).2)),Y.q5))) (jn (α:=Bool×dJ×Int×Int×gF×(List Bool)×List dz) (bd x.p3 7 (aF ((decide ((x.p3:Int)=7)),Y.2)) (aF ((decide ((x.p3:Int)=11)),Y.2))) λI=>(bcase I.1 (ck (fm x.p4 (al I.p4)) (aF (0,I.p2,I.p3,(ct I.p4 x.p4 ((-1),(aJ (T:=eh) I.p4 x.p4).2)),I.q5))) (bd x.p3 8 (kJ eh I.p4 x.p4 λz6=>(obind (ru (z6.2,[x.p2])) λy7=>(ck (fm x.p4 (al I.p4)) (aF (0,I.p2,I.p3,(ct I.p4 x.p4 ((aJ (T:=eh) I.p4 x.p4).1,y7)),I.q5))))) (bd x.p3 9 (kJ eh I.p4 x.p4 λz8=>(obind (qp (z8.2,x.p2)) λy9=>(ck (fm x.p4 (al I.p4)) (aF (0,I.p2,I.p3,(ct I.p4 x.p4 ((aJ (T:=eh) I.p4 x.p4).1,y9)),I.q5))))) (bd x.p3 12 (aF (0,x.p2,I.q3)) (bd x.p3 13 (aF (0,(-1),I.q3)) (bd x.p3 14 (ck (fm x.p2 (al I.q6)) (aF (0,I.p2,I.p3,I.p4,I.p5,(ct I.q6 x.p2 ((aJ (T:=ij) I.q6 x.p2).1,((aJ (T:=ij) I.q6 x.p2).2).1,ai))))) (bd x.p3 15 (ck (fm x.p2 (al I.q6)) (aF (0,I.p2,I.p3,I.p4,I.p5,(ct I.q6 x.p2 ((aJ (T:=ij) I.q6 x.p2).1,((aJ (T:=ij) I.q6 x.p2).2).1,aj))))) (bd x.p3 16 (bH mh I.2.1.p2 x.p4 λz10=>(ck (fm z10.2 (al I.p4)) (ck (fm x.p2 (al I.q6)) (ck (fm x.p2 (al (ct I.q6 x.p2 (3,(aJ (T:=ij) I.q6 x.p2).2)))) (aF (0,I.p2,I.p3,(ct I.p4 z10.2 ((-1),(aJ (T:=eh) I.p4 z10.2).2)),I.p5,(ct (ct I.q6 x.p2 (3,(aJ (T:=ij) I.q6 x.p2).2)) x.p2 ((aJ (T:=ij) (ct I.q6 x.p2 (3,(aJ (T:=ij) I.q6 x.p2).2)) x.p2).1,x.p4,((aJ (T:=ij) (ct I.q6 x.p2 (3,(aJ (T:=ij) I.q6 x.p2).2)) x.p2).2).2)))))))) (bd x.p3 17 (bH mh I.2.1.p2 x.p4 λz11=>(ck (fm z11.2 (al I.p4)) (ck (fm x.p2 (al I.q6)) (ck (fm x.p2 (al (ct I.q6 x.p2 (2,(aJ (T:=ij) I.q6 x.p2).2)))) (aF (0,I.p2,I.p3,(ct I.p4 z11.2 (x.p2,(aJ (T:=eh) I.p4 z11.2).2)),I.p5,(ct (ct I.q6 x.p2 (2,(aJ (T:=ij) I.q6 x.p2).2)) x.p2 ((aJ (T:=ij) (ct I.q6 x.p2 (2,(aJ (T:=ij) I.q6 x.p2).2)) x.p2).1,0,((aJ (T:=ij) (ct I.q6 x.p2 (2,(aJ (T:=ij) I.q6 x.p2).2)) x.p2).2).2)))))))) (bd x.p3 18 (obind (jJ ((I.p2,x.p4),I.q4)) λy12=>(bB 0 (aX y12) (bH aM y12 0 λz13=>(jn (α:=Int×Int×Int×gF×(List Bool)×List dz) (obind (qu (y12,x.q5)) λy15=>(bcase y15 (aF (x.q5,I.2.2)) (aF (z13,I.2.2)))) λM=>(ck (fm M.1 (al M.q5)) (aF (M.1,M.2.1,M.p2,M.p3,M.p4,(ct M.q5 M.1 (4,(aJ (T:=ij) M.q5 M.1).2))))))) (aF ((-1),I.2.2)))) (bd x.p3 19 (obind (jJ ((I.p2,x.p4),I.q4)) λy16=>(iter (σ:=Int×Int×Int×gF×(List Bool)×List dz) (λJ=>(bB J.1 (aX y16) (bH aM y16 J.1 λZ=>(ck (fm Z (al J.q5)) (cK ((cA J.1),J.2.1,J.p2,J.p3,J.p4,(ct J.q5 Z (4,(aJ (T:=ij) J.q5 Z).2)))))) (aF (bX ((aX y16),J.2))))) (0,I.2.2))) (bd x.p3 20 (ck (fm x.p4 (al I.q6)) (aF (0,I.p2,I.p3,I.p4,I.p5,(ct I.q6 x.p4 (1,(aJ (T:=ij) I.q6 x.p4).2))))) (bd x.p3 22 (ck (fm x.p4 (al I.p5)) (aF (0,I.p2,I.p3,I.p4,(ct I.p5 x.p4 ai),I.q6))) (aF (0,I.2.2)))))))))))))))))))) λx3=>(af ((x3.p3,x3.2.1,x3.q4),x3.1,ai))))))
def ul (x:dJ×List (Int×List jY)):Option xh:=
 (obind (jK x) λy1=>(bcase (!y1) (af ((([]:List (Int×List Int)),0,([]:List Bool),([]:List dz)),([]:List Int),([]:List Int),([]:List ud))) (obind (rn x.1) λy2=>(iter (σ:=Int×Ad×Int×ph×List Int) (λM=>(bB M.1 (aX M.2.1.1.1) (bH kE M.2.1.1.1 M.1 λZ=>(bF (bc (al M.q4+al ([Z.2.2.2.2])) 8) (cK ((cA M.1),M.2.1,M.p2,M.p3,(M.q4++([Z.2.2.2.2])))))) (obind (iter (σ:=Int×Ad×Int×ph×(List Int)×List Int) (λJ=>(bB J.1 (aX J.2.1.1.p3) (bF (bc (al J.q5+al ([0])) 8) (cK ((cA J.1),J.2.1,J.p2,J.p3,J.p4,(J.q5++([0]))))) (obind (iter (σ:=Int×Ad×Int×ph×(List Int)×(List Int)×List ud) (λI=>(bB I.1 (aX I.2.1.2) (vQ I.1 I.2.1.2 (lt ((aJ (T:=xi) I.2.1.2 I.1).1) λY=>(bF (cZ 0 Y&&cZ Y Y&&bc (aS Y) 8) (vQ I.1 I.2.1.2 (lt ((aJ (T:=xi) I.2.1.2 I.1).1) λU=>(bF (cZ 0 U&&cZ U U&&bc (aS U) 24) (bF (bc (al I.q6+al ([(0,(aG (aS Y) (0:Int)),(aG (aS U) ([]:List Int)),0)])) 64) (cK ((cA I.1),I.2.1,I.p2,I.p3,I.p4,I.p5,(I.q6++([(0,(aG (aS Y) (0:Int)),(aG (aS U) ([]:List Int)),0)]))))))))))) (aF I.q3))) (0,J.2.1,J.p2,J.p3,J.p4,J.q5,([]:List ud))) λr=>af (bX r)))) (0,M.2.1,M.p2,M.p3,M.q4,([]:List Int))) λr=>af (bX r)))) (0,x,0,y2,([]:List Int))))))
def wE (x:Ad×ph×(List Int)×(List Int)×List ud):Option (Bool):=
 (jn (α:=Bool×Ad×ph×(List Int)×(List Int)×List ud) (obind (jK x.1) λy2=>(bcase (!y2) (aF (ai,x)) (obind (rq (x.1.1,x.2.1)) λy3=>(bcase (!y3) (aF (ai,x)) (il (aX x.p2) (aX x.1.1.1) (aF (ai,x)) (il (aX x.p3) (aX x.1.1.p3) (aF (ai,x)) (aF ((!decide (((aX x.q4):Int)=(aX x.1.2))),x)))))))) λU=>(bcase U.1 (af aj) (iter (σ:=Int×Ad×ph×(List Int)×(List Int)×List ud) (λI=>(bB I.1 (aX I.2.1.2) (bH eY I.q5 I.1 λJ=>(jn (α:=Bool×Ad×ph×(List Int)×(List Int)×List ud) (bB J.1 0 (aF (ai,I.2)) (bH xi I.2.1.2 I.1 λz7=>(j7 (aX z7.2) J.1 (aF (ai,I.2)) (bH xi I.2.1.2 I.1 λZ=>(il (aX J.2.1) Z.1 (aF (ai,I.2)) (bH xi I.2.1.2 I.1 λY=>(aF ((!decide (((aX J.p2):Int)=Y.1)),I.2)))))))) λM=>(bcase M.1 (aF aj) (cK ((cA I.1),M.2))))) (aF ai))) (0,U.2))))
def wC (x:Int):Option (Int):=
 (jn (α:=Bool×List Int) (bB x 6 (aF (ai,[3,3,4,4,5,6,7,8,9,10,11,12,13,14,15,16,18,19,20,21,22,23,2])) (aF ((fX 28 x),[3,3,4,4,5,6,7,8,9,10,11,12,13,14,15,16,18,19,20,21,22,23,2]))) λI=>(bcase I.1 (af 0) (kJ aM I.2 (bn .i64 (x-6)) λJ=>(af J))))
def sx (x:jY×Int×(List Int)×(List (List Int))×Int):Option (Int):=
 (jn (α:=Bool×jY×Int×(List Int)×(List (List Int))×Int) (bd x.1.1 6 (aF ((decide ((x.1.1:Int)=6)),x)) (aF ((decide ((x.1.1:Int)=27)),x))) λI=>(bcase I.1 (af I.2.1.p2) (bd x.1.1 7 (bH aM I.p3 I.2.1.p3 λU=>(obind (rx (U,I.2.1.p4)) λZ=>(af (bn .i64 (I.2.1.p2+Z))))) (bd x.1.1 9 (bH aM I.p3 I.2.1.p3 λM=>(obind (rx (M,I.2.1.p4)) λY=>(af (bn .i64 (I.2.1.2.1+Y))))) (jn (α:=Bool×Int×Int×Int×Int×Int×Int) (bd x.1.1 10 (aF ((decide ((x.1.1:Int)=10)),I.2.1)) (bd x.1.1 17 (aF ((decide ((x.1.1:Int)=17)),I.2.1)) (bd x.1.1 18 (aF ((decide ((x.1.1:Int)=18)),I.2.1)) (bd x.1.1 19 (aF ((decide ((x.1.1:Int)=19)),I.2.1)) (bd x.1.1 20 (aF ((decide ((x.1.1:Int)=20)),I.2.1)) (aF ((decide ((x.1.1:Int)=28)),I.2.1))))))) λJ=>(bcase J.1 (af (-1)) (af J.p2)))))))
def nO (x:Ad×xh×Int):Option (gg×Bool):=
 (jn (α:=Bool×Ad×xh×Int×Int×Int×Int×Int) (obind (wE (x.1,x.2.1)) λy2=>(bcase (!y2) (aF (ai,x.1,x.2.1,0,0,0,0,0)) (bB x.2.2 0 (aF (ai,x.1,x.2.1,0,0,0,0,0)) (aF ((cZ (aX x.1.2) x.2.2),x.1,x.2.1,0,0,0,0,0))))) λZ=>(bcase Z.1 (af ((0,0,0,0,0,([]:List Int),([]:List Int)),aj)) (bH eY Z.p2.q3 x.2.2 λz3=>(bH xi Z.2.1.2 x.2.2 λz4=>(bH qU z4.2 z3.1 λM=>(bH ij Z.p2.1.q3 x.2.2 λz6=>(bd z6.1 1 (af ((x.2.2,1,(-1),0,(-1),([]:List Int),([]:List Int)),ai)) (bd z6.1 4 (bH ij Z.p2.1.q3 x.2.2 λz7=>(af ((x.2.2,17,z7.2.1,0,M.q5,([]:List Int),([]:List Int)),ai))) (bd z6.1 2 (obind (wC M.1) λy8=>(obind (sx (M,z3)) λy9=>(bd y8 0 (af ((0,0,0,0,0,([]:List Int),([]:List Int)),aj)) (jn (α:=v9×ud×jY×v9×List Int) (bd M.1 10 (bH (.sl aM) z3.p2 M.2.1 λz11=>(bF (bc (al (z11:List Int)) 8) (aF (Z.q3,z3,M,(x.2.2,y8,y9,0,M.q5),z11)))) (jn (α:=Bool×v9×ud×jY×Int×Int×Int×Int×Int) (bd M.1 7 (aF ((decide ((M.1:Int)=7)),Z.q3,z3,M,x.2.2,y8,y9,0,M.q5)) (aF ((decide ((M.1:Int)=9)),Z.q3,z3,M,x.2.2,y8,y9,0,M.q5))) λI=>(bcase I.1 (bH (.sl aM) I.p2.p2 I.p3.p3 λz13=>(bF (bc (al (z13:List Int)) 8) (aF (I.2.1,I.p2,I.p3,I.q4,z13)))) (aF (I.2.1,I.p2,I.p3,I.q4,([]:List Int)))))) λY=>(jn (α:=v9×v9×(List Int)×List Int) (jn (α:=Bool×v9×ud×jY×v9×List Int) (bd Y.p2.1 8 (aF (ai,Y)) (bd Y.p2.1 9 (aF (ai,Y)) (aF ((decide ((Y.p2.1:Int)=26)),Y)))) λJ=>(bcase J.1 (bH (.sl aM) J.p2.p2 J.p3.p2 λz16=>(bF (bc (al (z16:List Int)) 8) (aF (J.2.1,J.p4,J.q5,z16)))) (aF (J.2.1,J.p4,J.q5,([]:List Int))))) λU=>(af ((U.2.1.1,U.2.1.2.1,U.2.1.p2,U.2.1.p3,U.2.1.q4,U.2.2),ai))))))) (af ((0,0,0,0,0,([]:List Int),([]:List Int)),aj)))))))))))
def mS (x:gZ×gG×(List fx)×ca×ca×List (Int×Int×Int)):Option eO:=
 (obind (rn x) λM=>(bF (cZ 0 (aX x.p3)&&cZ (aX x.p3) (aX x.p3)&&bc (aS (aX x.p3)) 8) (bF (cZ 0 (aX x.p4)&&cZ (aX x.p4) (aX x.p4)&&bc (aS (aX x.p4)) 8) (iter (σ:=Int×dJ×Int×ph×(List Int)×(List Int)×List Int) (λI=>(bB I.1 (aX I.2.1.1) (bH kE I.2.1.1 I.1 λJ=>(bF (bc (al I.p4+al ([J.2.2.2.2])) 8) (cK ((cA I.1),I.2.1,I.p2,I.p3,(I.p4++([J.2.2.2.2])),I.q5)))) (aF I.q3))) (0,x,0,M,([]:List Int),(aG (aS (aX x.p3)) (0:Int)),(aG (aS (aX x.p4)) (0:Int)))))))
def wB (x:dJ×ph×(List Int)×(List Int)×List Int):Option (Bool):=
 (jn (α:=Bool) (obind (rq (x.1,x.2.1)) λI=>(bcase I (bd (aX x.p2) (aX x.1.1) (bd (aX x.p3) (aX x.1.p3) (aF (decide (((aX x.q4):Int)=(aX x.1.p4)))) (aF aj)) (aF aj)) (aF aj))) λJ=>(af J))
def C2 (x:Int×Int):Option (Bool):=
 (jn (α:=Bool) (j7 0 x.1 (aF (fX x.1 x.2)) (aF aj)) λI=>(af I))
def nN (x:(List Int)×Int):Option (Bool):=
 (iter (σ:=Int) (λI=>(bB I (aX x.1) (jn (α:=Bool) (bH aM x.1 I λY=>(bB Y 1 (aF ai) (bH aM x.1 I λU=>(j7 x.2 U (aF ai) (bB 0 I (bH aM x.1 I λM=>(bH aM x.1 (bn .i64 (I-1)) λJ=>(aF (cZ M J)))) (aF aj)))))) λZ=>(bcase Z (aF aj) (cK (cA I)))) (aF ai))) 0)
def uj (x:eO×Int×Int×Int×Int×Int×(List Int)×List Int):Option (Bool):=
 (bd x.p2 3 (bH aM x.1.2.1 x.p3 λU=>(af (decide ((x.p4:Int)=U)))) (bd x.p2 23 (bH aM x.1.p2 x.p3 λM=>(af (decide ((x.p4:Int)=M)))) (bd x.p2 5 (jn (α:=Bool) (bd x.p4 0 (aF ai) (aF (decide ((x.p4:Int)=1)))) λx3=>(af x3)) (jn (α:=Bool×eO×Int×Int×Int×Int×Int×(List Int)×List Int) (bd x.p2 4 (aF ((decide ((x.p2:Int)=4)),x)) (aF ((decide ((x.p2:Int)=22)),x))) λI=>(bcase I.1 (af ai) (bd x.p2 18 (obind (nP (I.2.1.1,I.p4)) λJ=>(bd (aX J) 0 (af (decide ((I.p5:Int)=(-1)))) (jn (α:=Bool) (j7 0 I.p5 (bB I.p5 (aX I.2.1.1.q3) (obind (qu (J,I.p5)) λZ=>(aF Z)) (aF aj)) (aF aj)) λx6=>(af x6)))) (bd x.p2 19 (obind (nP (I.2.1.1,I.p4)) λY=>(af (decide ((I.p5:Int)=(aX Y))))) (af (decide ((I.p5:Int)=0))))))))))
def rm (x:dJ×eO×Int×Int×Int×Int×Int×(List Int)×List Int):Option (eO×Bool):=
 (jn (α:=Bool×dJ×eO×gg×Int) (obind (wB (x.1,x.2.1)) λy2=>(bcase (!y2) (aF (ai,x.1,x.2.1,x.2.2,0)) (obind (C2 (x.p2,(aX x.1.p4))) λy3=>(bcase (!y3) (aF (ai,x.1,x.2.1,x.2.2,0)) (bB x.p3 1 (aF (ai,x.1,x.2.1,x.2.2,0)) (bB 23 x.p3 (aF (ai,x.1,x.2.1,x.2.2,0)) (obind (ko (x.1,x.2.1.1,x.p2,x.p3,x.p4)) λy4=>(aF ((!y4),x.1,x.2.1,x.2.2,0))))))))) λx1=>(bcase x1.1 (af (((([]:List (Int×List Int)),0,([]:List Bool),([]:List dz)),([]:List Int),([]:List Int),([]:List Int)),aj)) (jn (α:=dJ×eO×gg×Int) (jn (α:=Bool×dJ×eO×gg×Int) (bd x1.p3.2.1 1 (aF (ai,x1.2)) (aF ((decide ((x1.p3.2.1:Int)=2)),x1.2))) λx6=>(bcase x6.1 (il x6.p3.p4 (-1) (cK (((([]:List (Int×List Int)),0,([]:List Bool),([]:List dz)),([]:List Int),([]:List Int),([]:List Int)),aj)) (aF x6.2)) (jn (α:=Bool×dJ×eO×gg×Int) (obind (C2 (x6.p3.p4,(aX x6.2.1.q5))) λy8=>(bcase (!y8) (aF (ai,x6.2)) (bH oX x6.2.1.q5 x6.p3.p4 λz9=>(aF ((!decide ((z9.1:Int)=x6.p3.1)),x6.2))))) λx7=>(bcase x7.1 (cK (((([]:List (Int×List Int)),0,([]:List Bool),([]:List dz)),([]:List Int),([]:List Int),([]:List Int)),aj)) (aF x7.2))))) λx5=>(jn (α:=Bool×dJ×eO×gg×Int) (bd x5.p2.2.1 3 (aF (ai,x5)) (aF ((decide ((x5.p2.2.1:Int)=4)),x5))) λZ=>(jn (α:=Bool×dJ×eO×gg×Int) (bB 0 (aX Z.p3.p5) (il Z.p3.2.1 5 (bcase Z.1 (bH kE Z.2.1.1 Z.p3.p2 λz12=>(aF ((!(!decide ((z12.2.2.1:Int)=0))),Z.2))) (aF (ai,Z.2))) (aF (aj,Z.2))) (aF (aj,Z.2))) λx11=>(bcase x11.1 (af (((([]:List (Int×List Int)),0,([]:List Bool),([]:List dz)),([]:List Int),([]:List Int),([]:List Int)),aj)) (jn (α:=Bool×dJ×eO×gg×Int) (bB 0 (aX x11.p3.q6) (il x11.p3.2.1 4 (aF ((!decide ((x11.p3.2.1:Int)=22)),x11.2)) (aF (aj,x11.2))) (aF (aj,x11.2))) λU=>(bcase U.1 (af (((([]:List (Int×List Int)),0,([]:List Bool),([]:List dz)),([]:List Int),([]:List Int),([]:List Int)),aj)) (jn (α:=Bool×dJ×eO×gg×Int) (bH aM U.p2.q3 U.p3.1 λz15=>(obind (nN (U.p3.p5,z15)) λy16=>(bcase (!y16) (aF (ai,U.2)) (bH aM U.p2.q3 U.p3.1 λz17=>(obind (nN (U.p3.q6,z17)) λy18=>(bcase (!y18) (aF (ai,U.2)) (obind (uj (U.p2,U.p3)) λy19=>(aF ((!y19),U.2))))))))) λI=>(bcase I.1 (af (((([]:List (Int×List Int)),0,([]:List Bool),([]:List dz)),([]:List Int),([]:List Int),([]:List Int)),aj)) (bF (bc (al ([]:List Int)+al I.p2.2.1) 8) (bF (bc (al ([]:List Int)+al I.p2.p2) 8) (bF (bc (al ([]:List Int)+al I.p2.q3) 8) (jn (α:=Int×dJ×eO×gg×Int×Int×(List Int)×(List Int)×List Int) (bd I.p3.2.1 18 (aF (I.p3.p3,I.2.1,I.p2,I.p3,I.q4,0,(([]:List Int)++I.p2.2.1),(([]:List Int)++I.p2.p2),(([]:List Int)++I.p2.q3))) (aF ((-1),I.2.1,I.p2,I.p3,I.q4,0,(([]:List Int)++I.p2.2.1),(([]:List Int)++I.p2.p2),(([]:List Int)++I.p2.q3)))) λJ=>(obind (pt (J.2.1,J.p2.1,J.p3.1,J.p3.2.1,J.p3.p2,J.1)) λy21=>(jn (α:=gg×Int×ph×(List Int)×(List Int)×List Int) (bd J.p3.2.1 4 (ck (fm J.p3.p2 (al J.p6)) (aF (J.p3,J.p4,y21.1,(ct J.p6 J.p3.p2 J.p3.p3),J.q7))) (aF (J.p3,J.p4,y21.1,J.q6))) λM=>(jn (α:=gg×Int×ph×(List Int)×(List Int)×List Int) (bd M.1.2.1 22 (ck (fm M.1.p2 (al M.p4)) (aF (M.1,M.2.1,M.p2,M.p3,(ct M.p4 M.1.p2 M.1.p3),M.q5))) (aF M)) λY=>(kJ aM Y.q5 Y.1.1 λz24=>(ck (fm Y.1.1 (al Y.q5)) (af ((Y.p2,Y.p3,Y.p4,(ct Y.q5 Y.1.1 (cA z24))),ai)))))))))))))))))))))
def rk (x:(List gg)×Int×Int×List Int):Option (Bool):=
 (iter (σ:=Int) (λJ=>(bB J (aX x.q3) (iter (σ:=Int×Bool×Int) (λI=>(bB I.2.2 x.2.1 (jn (α:=Int×Bool) (bH jt x.1 I.2.2 λz4=>(il z4.1 x.p2 (aF (I.1,I.2.1)) (jn (α:=Bool) (bcase I.2.1 (aF ai) (bH aM x.q3 J λZ=>(bd I.1 Z (bH jt x.1 I.2.2 λY=>(bd Y.2.1 3 (aF ai) (bH jt x.1 I.2.2 λU=>(aF (decide ((U.2.1:Int)=23)))))) (aF aj)))) λx5=>(aF ((cA I.1),x5))))) λM=>(cK (M.1,M.2,(cA I.2.2)))) (obind (bcase (!I.2.1) (aF aj) (cK (cA J))) λr=>af (bX r)))) (0,aj,0)) (aF ai))) 0)
def uk (x:dJ×List gg):Option (Int×Int):=
 (bB 400 (aX x.2) (af (0,2)) (obind (ic x.1) λy1=>(bcase (!y1) (af (0,1)) (obind (mS x.1) λy2=>(iter (σ:=Int×(dJ×List gg)×ph×(List Int)×(List Int)×List Int) (λI=>(bB I.1 (aX I.2.1.2) (bH jt I.2.1.2 I.1 λJ=>(obind (rm (I.2.1.1,I.2.2,J)) λM=>(jn (α:=Bool×(dJ×List gg)×eO×ph×(List Int)×(List Int)×List Int) (bcase (!M.2) (aF (ai,I.2.1,I.2.2,M.1)) (obind (rk (I.2.1.2,I.1,J.1,J.p5)) λZ=>(bcase (!Z) (aF (ai,I.2.1,I.2.2,M.1)) (obind (rk (I.2.1.2,I.1,J.1,J.q6)) λY=>(aF ((!Y),I.2.1,I.2.2,M.1)))))) λU=>(bcase U.1 (aF (I.1,12)) (cK ((cA I.1),U.2.1,U.q3)))))) (aF (0,0)))) (0,x,y2))))))
def KG {Z W V:Type} (i:Int) (t1:Z->(List Int)->(List (List Int))->W) (t2:W->V) (t3:V->ud->List ud) (x6:Int) (I:Ad×ph×(Int×Int)×Int×v9×gg×(Int×Int)×(List Int)×(List Int)×Z×(List Int)×List (List Int)):Option Ec:=
 (jn (α:=ph×(Int×Int)×Int×v9×gg×ud×(List Int)×(List Int)×V) (jn (α:=Bool×Ad×ph×(Int×Int)×Int×v9×gg×ud×(List Int)×(List Int)×W) (il I.p5.2.1 16 (aF ((!decide ((I.p5.2.1:Int)=2)),I.1,I.2.1,I.p2,I.p3,I.p4,I.p5,(x6,I.p10,I.q11,(cA I.p6.2)),I.p7,I.p8,(t1 I.p9 I.p10 I.q11))) (aF (aj,I.1,I.2.1,I.p2,I.p3,I.p4,I.p5,(x6,I.p10,I.q11,(cA I.p6.2)),I.p7,I.p8,(t1 I.p9 I.p10 I.q11)))) λJ=>(bcase J.1 (bH xi J.2.1.2 J.p3.1 λU=>(obind (ng (U,J.p7)) λY=>(aF (J.p2,J.p3,J.p4,J.p5,J.p6,Y.1,J.p8,J.p9,(t2 J.q10))))) (aF (J.p2,J.p3,J.p4,J.p5,J.p6,J.p7,J.p8,J.p9,(t2 J.q10))))) λM=>(bd M.2.1.1 i (af ((M.1,M.p6,M.p7,(t3 M.q8 M.p5)),M.p4,ai)) ah))
def SG {Z:Type} (i:Int) (cp:(ph×(List Int)×(List Int)×List ud)->Option (Int×gF×(List Bool)×(List dz)×(List Int)×(List Int)×Z×(List Int)×List (List Int))) (Y ev:Z->Int) (k:Int->(Ad×ph×(Int×Int)×Int×v9×gg×(Int×Int)×(List Int)×(List Int)×Z×(List Int)×List (List Int))->Option Ec) (x:Ad×xh×Int×Int):Option Ec:=
 (obind (nO (x.1,x.2.1,x.p2)) λM=>(bcase (!M.2) (af (((([]:List (Int×List Int)),0,([]:List Bool),([]:List dz)),([]:List Int),([]:List Int),([]:List ud)),(0,0,0,0,0,([]:List Int),([]:List Int)),aj)) (obind (pt (x.1.1,x.2.1.1,x.p2,M.1.2.1,M.1.p2,x.q3)) λy2=>(bcase (!y2.2.2) (af (((([]:List (Int×List Int)),0,([]:List Bool),([]:List dz)),([]:List Int),([]:List Int),([]:List ud)),(0,0,0,0,0,([]:List Int),([]:List Int)),aj)) (obind (cp x.2.1) λU=>(bd x.p2 i (bH xi x.1.2 i λz4=>(bH qU z4.2 (Y U.p6) λz5=>(jn (α:=Int×Ad×ph×(Int×Int)×Int×v9×gg×(Int×Int)×jY×(List Int)×(List Int)×Z×(List Int)×List (List Int)) (jn (α:=Bool×Ad×ph×(Int×Int)×Int×v9×gg×(Int×Int)×jY×(List Int)×(List Int)×Z×(List Int)×List (List Int)) (bd M.1.2.1 1 (aF ((decide ((M.1.2.1:Int)=1)),x.1,y2.1,(i,x.q3),0,(0,0,0,0,0),(M.1.1,M.1.2.1,M.1.p2,y2.2.1,M.1.q4),((Y U.p6),(ev U.p6)),z5,U.q4)) (bd M.1.2.1 16 (aF ((decide ((M.1.2.1:Int)=16)),x.1,y2.1,(i,x.q3),0,(0,0,0,0,0),(M.1.1,M.1.2.1,M.1.p2,y2.2.1,M.1.q4),((Y U.p6),(ev U.p6)),z5,U.q4)) (aF ((decide ((M.1.2.1:Int)=2)),x.1,y2.1,(i,x.q3),0,(0,0,0,0,0),(M.1.1,M.1.2.1,M.1.p2,y2.2.1,M.1.q4),((Y U.p6),(ev U.p6)),z5,U.q4)))) λI=>(bcase I.1 (aF (I.p7.1,I.2)) (bd M.1.2.1 3 (kJ aM I.p9 I.p6.p2 λz8=>(aF ((bn .i64 ((Y U.p6)+1)),I.2.1,I.p2,I.p3,I.p4,I.p5,(I.p6.1,I.p6.2.1,I.p6.p2,z8,I.p6.q4),I.q7))) (bd M.1.2.1 23 (kJ aM I.p10 I.p6.p2 λz9=>(aF ((bn .i64 ((Y U.p6)+1)),I.2.1,I.p2,I.p3,I.p4,I.p5,(I.p6.1,I.p6.2.1,I.p6.p2,z9,I.p6.q4),I.q7))) (bd M.1.2.1 4 (kJ aM I.p12 I.p8.p2 λz10=>(ck (fm I.p6.p2 (al I.p9)) (aF ((bn .i64 ((Y U.p6)+1)),I.2.1,I.p2,I.p3,I.p4,I.p5,(I.p6.1,I.p6.2.1,I.p6.p2,z10,I.p6.q4),I.p7,I.p8,(ct I.p9 I.p6.p2 z10),I.q10)))) (bd M.1.2.1 22 (kJ aM I.p12 I.p8.p2 λz11=>(ck (fm I.p6.p2 (al I.p10)) (aF ((bn .i64 ((Y U.p6)+1)),I.2.1,I.p2,I.p3,I.p4,I.p5,(I.p6.1,I.p6.2.1,I.p6.p2,z11,I.p6.q4),I.p7,I.p8,I.p9,(ct I.p10 I.p6.p2 z11),I.q11)))) (bd M.1.2.1 5 (kJ aM I.p12 I.p8.2.1 λz12=>(bd z12 0 (aF (I.p8.p2,I.2.1,I.p2,I.p3,I.p4,I.p5,(I.p6.1,I.p6.2.1,I.p6.p2,0,I.p6.q4),I.q7)) (aF ((bn .i64 ((Y U.p6)+1)),I.2.1,I.p2,I.p3,I.p4,I.p5,(I.p6.1,I.p6.2.1,I.p6.p2,1,I.p6.q4),I.q7)))) (aF ((bn .i64 ((Y U.p6)+1)),I.2))))))))) λx6=>(jn (α:=Ad×ph×(Int×Int)×Int×v9×gg×(Int×Int)×(List Int)×(List Int)×Z×(List Int)×List (List Int)) (jn (α:=Bool×Ad×ph×(Int×Int)×Int×v9×gg×(Int×Int)×jY×(List Int)×(List Int)×Z×(List Int)×List (List Int)) (bd x6.p6.2.1 3 (aF (ai,x6.2)) (aF ((decide ((x6.p6.2.1:Int)=23)),x6.2))) λJ=>(bcase J.1 (ck (fm J.p8.2.1 (al J.p12)) (ck (fm J.p8.2.1 (al J.q13)) (aF (J.2.1,J.p2,J.p3,J.p4,J.p5,J.p6,J.p7,J.p9,J.p10,J.p11,(ct J.p12 J.p8.2.1 J.p6.p3),(ct J.q13 J.p8.2.1 ([J.p7.2])))))) (aF (J.2.1,J.p2,J.p3,J.p4,J.p5,J.p6,J.p7,J.q9)))) λx13=>(k x6.1 x13))))) ah))))))
def ne (x:ph×(List Int)×(List Int)×List ud):Option (Int×gF×(List Bool)×(List dz)×(List Int)×(List Int)×(Int×Int)×(List Int)×List (List Int)):=
 (obind (iw x.1) λI=>(bF (bc (al ([]:List Int)+al x.2.1) 8) (bF (bc (al ([]:List Int)+al x.p2) 8) (bB 0 (aX x.q3) (bH eY x.q3 0 λM=>(obind (cg M) λU=>(bB 1 (aX x.q3) (bH eY x.q3 1 λJ=>(obind (cg J) λY=>ah)) (af (I.1,I.2.1,I.p2,I.q3,(([]:List Int)++x.2.1),(([]:List Int)++x.p2),U))))) ah))))
def gd (x:Ad×xh×Int×Int):Option Ec:=
 SG 0 ne (λz=>z.1) (λz=>z.2) (KG 0 (λz R T=>(z.1,R,T,z.2)) (λw=>((w.1,w.2.1,w.2.2.1,w.2.2.2))) (λv t=>[t])) x
def m_ (x:ph×(List Int)×(List Int)×List ud):Option (Int×gF×(List Bool)×(List dz)×(List Int)×(List Int)×Ya29×(List Int)×List (List Int)):=
 (obind (iw x.1) λJ=>(bF (bc (al ([]:List Int)+al x.2.1) 8) (bF (bc (al ([]:List Int)+al x.p2) 8) (bB 0 (aX x.q3) (bH eY x.q3 0 λZ=>(obind (cg Z) λM=>(bB 1 (aX x.q3) (bH eY x.q3 1 λY=>(obind (cg Y) λI=>(bB 2 (aX x.q3) (bH eY x.q3 2 λU=>(obind (cg U) λy7=>ah)) (af (J.1,J.2.1,J.p2,J.q3,(([]:List Int)++x.2.1),(([]:List Int)++x.p2),(M.1.1,M.1.2,I.1.1,I.2.1,I.2.2,I.1.2),M.2))))) ah))) ah))))
def gC (x:Ad×xh×Int×Int):Option Ec:=
 SG 0 m_ (λz=>z.1) (λz=>z.2.1) (KG 0 (λz R T=>(z.1,R,T,z.2.1,z.2.2)) (λw=>((w.1,w.2.1,w.2.2.1,w.2.2.2.1),w.2.2.2.2)) (λv t=>[t,v.2])) x
def m8 (x:ph×(List Int)×(List Int)×List ud):Option (Int×gF×(List Bool)×(List dz)×(List Int)×(List Int)×(ud×Int×Int)×(List Int)×List (List Int)):=
 (obind (iw x.1) λJ=>(bF (bc (al ([]:List Int)+al x.2.1) 8) (bF (bc (al ([]:List Int)+al x.p2) 8) (bB 0 (aX x.q3) (bH eY x.q3 0 λZ=>(obind (cg Z) λI=>(bB 1 (aX x.q3) (bH eY x.q3 1 λY=>(obind (cg Y) λM=>(bB 2 (aX x.q3) (bH eY x.q3 2 λU=>(obind (cg U) λy7=>ah)) (af (J.1,J.2.1,J.p2,J.q3,(([]:List Int)++x.2.1),(([]:List Int)++x.p2),((I.1.1,I.2.1,I.2.2,I.1.2),M.1),M.2))))) ah))) ah))))
def f_ (x:Ad×xh×Int×Int):Option Ec:=
 SG 1 m8 (λz=>z.2.1) (λz=>z.2.2) (KG 1 (λz R T=>(z.1,z.2.1,R,T,z.2.2)) (λw=>(w.1,(w.2.1,w.2.2.1,w.2.2.2.1,w.2.2.2.2))) (λv t=>[v.1,t])) x
def m7 (x:ph×(List Int)×(List Int)×List ud):Option (Int×gF×(List Bool)×(List dz)×(List Int)×(List Int)×Ya27×(List Int)×List (List Int)):=
 (obind (iw x.1) λM=>(bF (bc (al ([]:List Int)+al x.2.1) 8) (bF (bc (al ([]:List Int)+al x.p2) 8) (bB 0 (aX x.q3) (bH eY x.q3 0 λz2=>(obind (cg z2) λU=>(bB 1 (aX x.q3) (bH eY x.q3 1 λz4=>(obind (cg z4) λJ=>(bB 2 (aX x.q3) (bH eY x.q3 2 λZ=>(obind (cg Z) λI=>(bB 3 (aX x.q3) (bH eY x.q3 3 λY=>(obind (cg Y) λy9=>ah)) (af (M.1,M.2.1,M.p2,M.q3,(([]:List Int)++x.2.1),(([]:List Int)++x.p2),(U.1.1,U.1.2,(J.1.1,J.2.1,J.2.2,J.1.2),I.1.1,I.2.1,I.2.2,I.1.2),U.2))))) ah))) ah))) ah))))
def jx (x:Ad×xh×Int×Int):Option Ec:=
 SG 0 m7 (λz=>z.1) (λz=>z.2.1) (KG 0 (λz R T=>(z.1,R,T,z.2.1,z.p2,z.q3)) (λw=>((w.1,w.2.1,w.2.2.1,w.2.2.2.1),w.2.2.2.2.1,w.2.2.2.2.2)) (λv t=>[t,v.2.1,v.2.2])) x
def m6 (x:ph×(List Int)×(List Int)×List ud):Option (Int×gF×(List Bool)×(List dz)×(List Int)×(List Int)×Ya28×(List Int)×List (List Int)):=
 (obind (iw x.1) λM=>(bF (bc (al ([]:List Int)+al x.2.1) 8) (bF (bc (al ([]:List Int)+al x.p2) 8) (bB 0 (aX x.q3) (bH eY x.q3 0 λz2=>(obind (cg z2) λJ=>(bB 1 (aX x.q3) (bH eY x.q3 1 λz4=>(obind (cg z4) λU=>(bB 2 (aX x.q3) (bH eY x.q3 2 λZ=>(obind (cg Z) λI=>(bB 3 (aX x.q3) (bH eY x.q3 3 λY=>(obind (cg Y) λy9=>ah)) (af (M.1,M.2.1,M.p2,M.q3,(([]:List Int)++x.2.1),(([]:List Int)++x.p2),((J.1.1,J.2.1,J.2.2,J.1.2),U.1.1,U.1.2,I.1.1,I.2.1,I.2.2,I.1.2),U.2))))) ah))) ah))) ah))))
def iM (x:Ad×xh×Int×Int):Option Ec:=
 SG 1 m6 (λz=>z.2.1) (λz=>z.p2) (KG 1 (λz R T=>(z.1,z.2.1,R,T,z.p2,z.q3)) (λw=>(w.1,(w.2.1,w.2.2.1,w.2.2.2.1,w.2.2.2.2.1),w.2.2.2.2.2)) (λv t=>[v.1,t,v.2.2])) x
def mZ (x:ph×(List Int)×(List Int)×List ud):Option (Int×gF×(List Bool)×(List dz)×(List Int)×(List Int)×(ud×ud×Int×Int)×(List Int)×List (List Int)):=
 (obind (iw x.1) λM=>(bF (bc (al ([]:List Int)+al x.2.1) 8) (bF (bc (al ([]:List Int)+al x.p2) 8) (bB 0 (aX x.q3) (bH eY x.q3 0 λz2=>(obind (cg z2) λJ=>(bB 1 (aX x.q3) (bH eY x.q3 1 λz4=>(obind (cg z4) λI=>(bB 2 (aX x.q3) (bH eY x.q3 2 λZ=>(obind (cg Z) λU=>(bB 3 (aX x.q3) (bH eY x.q3 3 λY=>(obind (cg Y) λy9=>ah)) (af (M.1,M.2.1,M.p2,M.q3,(([]:List Int)++x.2.1),(([]:List Int)++x.p2),((J.1.1,J.2.1,J.2.2,J.1.2),(I.1.1,I.2.1,I.2.2,I.1.2),U.1),U.2))))) ah))) ah))) ah))))
def ib (x:Ad×xh×Int×Int):Option Ec:=
 SG 2 mZ (λz=>z.p2) (λz=>z.q3) (KG 2 (λz R T=>(z.1,z.2.1,z.p2,R,T,z.q3)) (λw=>(w.1,w.2.1,(w.2.2.1,w.2.2.2.1,w.2.2.2.2.1,w.2.2.2.2.2))) (λv t=>[v.1,v.2.1,t])) x
def mY (x:ph×(List Int)×(List Int)×List ud):Option (Int×gF×(List Bool)×(List dz)×(List Int)×(List Int)×Ya23×(List Int)×List (List Int)):=
 (obind (iw x.1) λU=>(bF (bc (al ([]:List Int)+al x.2.1) 8) (bF (bc (al ([]:List Int)+al x.p2) 8) (bB 0 (aX x.q3) (bH eY x.q3 0 λz2=>(obind (cg z2) λZ=>(bB 1 (aX x.q3) (bH eY x.q3 1 λz4=>(obind (cg z4) λM=>(bB 2 (aX x.q3) (bH eY x.q3 2 λz6=>(obind (cg z6) λJ=>(bB 3 (aX x.q3) (bH eY x.q3 3 λz8=>(obind (cg z8) λI=>(bB 4 (aX x.q3) (bH eY x.q3 4 λY=>(obind (cg Y) λy11=>ah)) (af (U.1,U.2.1,U.p2,U.q3,(([]:List Int)++x.2.1),(([]:List Int)++x.p2),(Z.1.1,Z.1.2,(M.1.1,M.2.1,M.2.2,M.1.2),(J.1.1,J.2.1,J.2.2,J.1.2),I.1.1,I.2.1,I.2.2,I.1.2),Z.2))))) ah))) ah))) ah))) ah))))
def mU (x:Ad×xh×Int×Int):Option Ec:=
 SG 0 mY (λz=>z.1) (λz=>z.2.1) (KG 0 (λz R T=>(z.1,R,T,z.2.1,z.p2,z.p3,z.q4)) (λw=>((w.1,w.2.1,w.2.2.1,w.2.2.2.1),w.2.2.2.2.1,w.2.2.2.2.2.1,w.2.2.2.2.2.2)) (λv t=>[t,v.2.1,v.2.2.1,v.2.2.2])) x
def mX (x:ph×(List Int)×(List Int)×List ud):Option (Int×gF×(List Bool)×(List dz)×(List Int)×(List Int)×Ya24×(List Int)×List (List Int)):=
 (obind (iw x.1) λU=>(bF (bc (al ([]:List Int)+al x.2.1) 8) (bF (bc (al ([]:List Int)+al x.p2) 8) (bB 0 (aX x.q3) (bH eY x.q3 0 λz2=>(obind (cg z2) λM=>(bB 1 (aX x.q3) (bH eY x.q3 1 λz4=>(obind (cg z4) λZ=>(bB 2 (aX x.q3) (bH eY x.q3 2 λz6=>(obind (cg z6) λJ=>(bB 3 (aX x.q3) (bH eY x.q3 3 λz8=>(obind (cg z8) λI=>(bB 4 (aX x.q3) (bH eY x.q3 4 λY=>(obind (cg Y) λy11=>ah)) (af (U.1,U.2.1,U.p2,U.q3,(([]:List Int)++x.2.1),(([]:List Int)++x.p2),((M.1.1,M.2.1,M.2.2,M.1.2),Z.1.1,Z.1.2,(J.1.1,J.2.1,J.2.2,J.1.2),I.1.1,I.2.1,I.2.2,I.1.2),Z.2))))) ah))) ah))) ah))) ah))))
def mT (x:Ad×xh×Int×Int):Option Ec:=
 SG 1 mX (λz=>z.2.1) (λz=>z.p2) (KG 1 (λz R T=>(z.1,z.2.1,R,T,z.p2,z.p3,z.q4)) (λw=>(w.1,(w.2.1,w.2.2.1,w.2.2.2.1,w.2.2.2.2.1),w.2.2.2.2.2.1,w.2.2.2.2.2.2)) (λv t=>[v.1,t,v.2.2.1,v.2.2.2])) x
def mW (x:ph×(List Int)×(List Int)×List ud):Option (Int×gF×(List Bool)×(List dz)×(List Int)×(List Int)×Ya25×(List Int)×List (List Int)):=
 (obind (iw x.1) λU=>(bF (bc (al ([]:List Int)+al x.2.1) 8) (bF (bc (al ([]:List Int)+al x.p2) 8) (bB 0 (aX x.q3) (bH eY x.q3 0 λz2=>(obind (cg z2) λM=>(bB 1 (aX x.q3) (bH eY x.q3 1 λz4=>(obind (cg z4) λJ=>(bB 2 (aX x.q3) (bH eY x.q3 2 λz6=>(obind (cg z6) λZ=>(bB 3 (aX x.q3) (bH eY x.q3 3 λz8=>(obind (cg z8) λI=>(bB 4 (aX x.q3) (bH eY x.q3 4 λY=>(obind (cg Y) λy11=>ah)) (af (U.1,U.2.1,U.p2,U.q3,(([]:List Int)++x.2.1),(([]:List Int)++x.p2),((M.1.1,M.2.1,M.2.2,M.1.2),(J.1.1,J.2.1,J.2.2,J.1.2),Z.1.1,Z.1.2,I.1.1,I.2.1,I.2.2,I.1.2),Z.2))))) ah))) ah))) ah))) ah))))
def lx (x:Ad×xh×Int×Int):Option Ec:=
 SG 2 mW (λz=>z.p2) (λz=>z.p3) (KG 2 (λz R T=>(z.1,z.2.1,z.p2,R,T,z.p3,z.q4)) (λw=>(w.1,w.2.1,(w.2.2.1,w.2.2.2.1,w.2.2.2.2.1,w.2.2.2.2.2.1),w.2.2.2.2.2.2)) (λv t=>[v.1,v.2.1,t,v.2.2.2])) x
def mV (x:ph×(List Int)×(List Int)×List ud):Option (Int×gF×(List Bool)×(List dz)×(List Int)×(List Int)×Ya42×(List Int)×List (List Int)):=
 (obind (iw x.1) λU=>(bF (bc (al ([]:List Int)+al x.2.1) 8) (bF (bc (al ([]:List Int)+al x.p2) 8) (bB 0 (aX x.q3) (bH eY x.q3 0 λz2=>(obind (cg z2) λM=>(bB 1 (aX x.q3) (bH eY x.q3 1 λz4=>(obind (cg z4) λJ=>(bB 2 (aX x.q3) (bH eY x.q3 2 λz6=>(obind (cg z6) λI=>(bB 3 (aX x.q3) (bH eY x.q3 3 λz8=>(obind (cg z8) λZ=>(bB 4 (aX x.q3) (bH eY x.q3 4 λY=>(obind (cg Y) λy11=>ah)) (af (U.1,U.2.1,U.p2,U.q3,(([]:List Int)++x.2.1),(([]:List Int)++x.p2),((M.1.1,M.2.1,M.2.2,M.1.2),(J.1.1,J.2.1,J.2.2,J.1.2),(I.1.1,I.2.1,I.2.2,I.1.2),Z.1),Z.2))))) ah))) ah))) ah))) ah))))
def kn (x:Ad×xh×Int×Int):Option Ec:=
 SG 3 mV (λz=>z.p3) (λz=>z.q4) (KG 3 (λz R T=>(z.1,z.2.1,z.p2,z.p3,R,T,z.q4)) (λw=>(w.1,w.2.1,w.2.2.1,(w.2.2.2.1,w.2.2.2.2.1,w.2.2.2.2.2.1,w.2.2.2.2.2.2))) (λv t=>[v.1,v.2.1,v.2.2.1,t])) x
def Aq (x:Ad×xh×Int×Int):Option Ec:=orE (mU x) (orE (mT x) (orE (lx x) (orE (kn x) (orE (jx x) (orE (iM x) (orE (ib x) (orE (gC x) (orE (f_ x) (gd x)))))))))
def wD (x:Ad×xh×List (Int×Int)):Option ((List gg)×ph×(List Int)×(List Int)×List ud):=
 (iter (σ:=Int×(List gg)×Ad×xh×Int) (λJ=>(jn (α:=Bool×(List gg)×Ad×xh×Int) (bB J.1 (aX x.2.2) (aF ((fX (aX J.2.1) 400),J.2)) (aF (aj,J.2))) λI=>(bcase I.1 (jn (α:=(List gg)×Ad×xh×Int) (bH gp x.2.2 J.1 λU=>(obind (Aq (I.p2,I.p3,U)) λM=>(bcase M.2.2 (bF (bc (al I.2.1+al ([M.2.1])) 88) (aF ((I.2.1++([M.2.1])),I.p2,M.1,I.q4))) (aF I.2)))) λY=>(cK ((cA J.1),Y))) (aF (I.2.1,I.p3))))) (0,([]:List gg),x.1,x.2.1,0))
def zk (x:Ad×List (Int×Int)):Option ((dJ×List gg)×ph×(List Int)×(List Int)×List ud):=
 (obind (jK x.1) λM=>(bcase (!M) (af (((([]:List S7),([]:List ((List UInt8)×Bool)),([]:List fx),([]:List (List UInt8)),([]:List (List UInt8)),([]:List (Int×Int×Int))),([]:List gg)),(([]:List (Int×List Int)),0,([]:List Bool),([]:List dz)),([]:List Int),([]:List Int),([]:List ud))) (obind (ul x.1) λJ=>(obind (wD (x.1,J,x.2)) λI=>(af ((x.1.1,I.1),I.2))))))
def bx (x:Int×(List Int)×Int):Option (Int×(List Int)×Int):=
 (jn (α:=Bool×(List Int)×Int) (j7 (aX x.2.1) x.2.2 (aF (ai,x.2)) (aF ((fX x.1 1),x.2))) λI=>(bcase I.1 (af (0,I.2)) (lt (cA I.2.2) λM=>(bH (.int .u8) I.2.1 (bn .i64 (M-1)) λJ=>(bF (!decide ((x.1:Int)=0)) (af ((Ak (bn .i64 J) x.1),I.2.1,(cA I.2.2))))))))
def rB (x:Int):Option (Xp):=
 (af (em (1,x,[],([]:List Xp))))
def pA (x:List UInt8):Option (Xp):=
 (af (em (2,0,x,([]:List Xp))))
def nS (x:Int×Xp×Xp):Option (Xp):=
 (af (em (x.1,0,[],[em ((Xp.op x.2.1),(Xp.n x.2.1),(Xp.name x.2.1),(Xp.l x.2.1)),em ((Xp.op x.2.2),(Xp.n x.2.2),(Xp.name x.2.2),(Xp.l x.2.2))])))
def jv (x:(List UInt8)×Xp):Option (Sx):=
 (af (nU (1,0,x.1,[],([]:List Xp),em ((Xp.op x.2),(Xp.n x.2),(Xp.name x.2),(Xp.l x.2)),([]:List Sx),([]:List Sx))))
def sB (x:Unit):Option sq:=
 (af ([(1,0,[120],0,0,[]),(1,0,[121],0,1,[]),(2,0,[118],0,0,[]),(1,0,[113],2,0,[]),(3,0,[109],0,0,[]),(3,0,[110],0,0,[]),(4,0,[114],0,0,[]),(5,0,[99],0,0,[109]),(6,0,[102],0,0,[])]))
def oS (x:List Int):Option (List (Int×Int)):=
 (iter (σ:=Int×List (Int×Int)) (λI=>(bB I.1 (aX x) (bH (.int .u8) x I.1 λM=>(bH (.int .u8) x I.1 λJ=>(bF (bc (al I.2+al ([((Ak (bn .i64 M) 4),(bn .i64 ((Ak (bn .i64 (Int.tdiv (bn .i64 J) 4)) 5)-1)))])) 16) (cK ((cA I.1),(I.2++([((Ak (bn .i64 M) 4),(bn .i64 ((Ak (bn .i64 (Int.tdiv (bn .i64 J) 4)) 5)-1)))]))))))) (aF I.2))) (0,([]:List (Int×Int))))
def oc (rmade_maker_expr:Y5->Option ag7) (x:Int×yW×fR×Bool×List (List UInt8)):Option ag7:=
 (obind (bx (10,x.p2)) λZ=>(jn (α:=Bool×yW×fR×S8×(Int×Int×List UInt8)×List (List UInt8)) (bB Z.1 2 (aF (ai,x.2.1,Z.2,x.q3,(0,0,[]),[[97],[98],[120],[121],[118],[120],[121]])) (bd x.1 0 (aF ((cZ 7 Z.1),x.2.1,Z.2,x.q3,(0,0,[]),[[97],[98],[120],[121],[118],[120],[121]])) (aF (aj,x.2.1,Z.2,x.q3,(0,0,[]),[[97],[98],[120],[121],[118],[120],[121]])))) λI=>(bcase I.1 (obind (bx (4,I.p2)) λy3=>(obind (rB y3.1) λy4=>(af (em ((Xp.op y4),(Xp.n y4),(Xp.name y4),(Xp.l y4)),I.2.1,y3.2,I.p3)))) (bB Z.1 7 (obind (bx ((aX I.q5),I.p2)) λy5=>(kJ (.str) I.q5 y5.1 λz6=>(obind (pA z6) λy7=>(af (em ((Xp.op y7),(Xp.n y7),(Xp.name y7),(Xp.l y7)),I.2.1,y5.2,I.p3))))) (bd Z.1 7 (obind (rmade_maker_expr (0,I.2.1,I.p2,I.p3)) λY=>(bF (((I.p3.1==Y.p3)&&ai)&&aC (al I.p3.2) (al Y.q4)&&ai) (af (em (3,0,[113],[em ((Xp.op Y.1),(Xp.n Y.1),(Xp.name Y.1),(Xp.l Y.1))]),Y.2)))) (obind (bx ((aQ (al ([6,7,8,11,13,17]))),I.p2)) λy9=>(kJ aM ([6,7,8,11,13,17]) y9.1 λz10=>(obind (rmade_maker_expr ((bn .i64 (x.1-1)),I.2.1,y9.2,I.p3)) λJ=>(bF (((I.p3.1==J.p3)&&ai)&&aC (al I.p3.2) (al J.q4)&&ai) (obind (rmade_maker_expr ((bn .i64 (x.1-1)),J.2)) λU=>(bF (((J.p3==U.p3)&&ai)&&aC (al J.q4) (al U.q4)&&ai) (obind (nS (z10,J.1,U.1)) λM=>(af (em ((Xp.op M),(Xp.n M),(Xp.name M),(Xp.l M)),U.2))))))))))))))
def iB:Nat->Y5->Option ag7
 |0,_=>ah
 |n+1,x=>oc (iB n) x
theorem yT (n:Nat) (x:Int×yW×fR×Bool×List (List UInt8)):iB (n+1) x=oc (iB n) x:=rfl
def fh (x:Int×yW×fR×Bool×List (List UInt8)):Option ag7:=iB fuel x
def eS (x:(List UInt8)×yW×fR×Bool×List (List UInt8)):Option (Bool×yW×fR×Bool×List (List UInt8)):=
 (obind (je (x.q4,x.1)) λI=>(af ((cZ 0 I),x.2)))
def mG (rmade_maker_stmts:ag9->Option Y4) (rmade_maker_stmt:Y5->Option act) (rmade_maker_block:ag8->Option acu) (x:(Int×Int)×yW×fR×Bool×List (List UInt8)):Option Y4:=
 (iter (σ:=Int×yW×fR×(List Sx)×Bool×List (List UInt8)) (λJ=>(jn (α:=Bool×yW×fR×(List Sx)×Bool×List (List UInt8)) (bB J.1 x.1.2 (bd J.1 0 (aF (ai,J.2)) (aF ((fX 0 J.2.1.2.1),J.2))) (aF (aj,J.2))) λI=>(bcase I.1 (obind (rmade_maker_stmt (x.1.1,I.2.1,I.p2,I.q4)) λM=>(bF (((I.p4==I.p4)&&ai)&&aC (al I.q5) (al I.q5)&&ai) (bF (bc (al I.p3+al ([ey M.1])) 176) (cK ((cA J.1),M.2.1,M.p2,(I.p3++([ey M.1])),M.q3))))) (aF (I.2.1,I.p2,I.q4,I.p3))))) (0,x.2.1,x.p2,([]:List Sx),x.q3))
def n_ (rmade_maker_stmts:ag9->Option Y4) (rmade_maker_stmt:Y5->Option act) (rmade_maker_block:ag8->Option acu) (x:Int×yW×fR×Bool×List (List UInt8)):Option act:=
 (obind (bx (18,x.p2)) λy1=>(jn (α:=Bool×yW×fR×HJ×Bool×List (List UInt8)) (bB 0 x.1 (lt (bn .i64 (x.2.1.2.1-1)) λz3=>(bB 0 z3 (aF ((!x.2.1.p3),(x.2.1.1,(bn .i64 (x.2.1.2.1-1)),x.2.1.2.2),y1.2,(0,0,[],[],0,0,[]),x.q3)) (aF (aj,(x.2.1.1,(bn .i64 (x.2.1.2.1-1)),x.2.1.2.2),y1.2,(0,0,[],[],0,0,[]),x.q3)))) (aF (aj,(x.2.1.1,(bn .i64 (x.2.1.2.1-1)),x.2.1.2.2),y1.2,(0,0,[],[],0,0,[]),x.q3))) λx2=>(bB y1.1 4 (kJ (.str) ([[120],[121],[120],[118]]) y1.1 λz4=>(obind (fh (1,x2.2.1,x2.p2,x2.q4)) λy5=>(bF (((x2.p4==y5.p3)&&ai)&&aC (al x2.q5) (al y5.q4)&&ai) (obind (jv (z4,y5.1)) λy6=>(af (ey y6,y5.2)))))) (bd y1.1 4 (obind (bx (2,x2.p2)) λy7=>(kJ (.str) ([[97],[98]]) y7.1 λz8=>(obind (fh (1,x2.2.1,y7.2,x2.q4)) λy9=>(bF (((x2.p4==y9.p3)&&ai)&&aC (al x2.q5) (al y9.q4)&&ai) (obind (jv (z8,y9.1)) λy10=>(af (ey y10,y9.2))))))) (bd y1.1 5 (obind (fh (0,x2.2.1,x2.p2,x2.q4)) λy11=>(bF (((x2.p4==y11.p3)&&ai)&&aC (al x2.q5) (al y11.q4)&&ai) (obind (fh (1,y11.2)) λy12=>(bF (((y11.p3==y12.p3)&&ai)&&aC (al y11.q4) (al y12.q4)&&ai) (af (nU (1,0,[113],[],[em ((Xp.op y11.1),(Xp.n y11.1),(Xp.name y11.1),(Xp.l y11.1))],em ((Xp.op y12.1),(Xp.n y12.1),(Xp.name y12.1),(Xp.l y12.1)),([]:List Sx),([]:List Sx)),y12.2)))))) (jn (α:=Bool×yW×fR×HJ×Bool×List (List UInt8)) (bd y1.1 6 (aF ((fX 0 x.1),x2.2)) (aF (aj,x2.2))) λx13=>(bcase x13.1 (obind (fh (1,x13.2.1,x13.p2,x13.q4)) λU=>(bF (((x13.p4==U.p3)&&ai)&&aC (al x13.q5) (al U.q4)&&ai) (obind (rmade_maker_stmts (((bn .i64 (x.1-1)),1),U.2)) λy15=>(bF (((U.p3==U.p3)&&ai)&&aC (al U.q4) (al U.q4)&&ai) (jn (α:=yW×fR×HJ×(Int×Int×(List UInt8)×(List UInt8)×Int×Int×(List UInt8)×List Xp)×S8×(List Sx)×List Sx) (obind (bx (2,y15.2.1)) λy17=>(bd y17.1 1 (obind (rmade_maker_stmts (((bn .i64 (x.1-1)),1),y15.1,y17.2,y15.p2)) λy18=>(bF (((y15.p2.1==y15.p2.1)&&ai)&&aC (al y15.p2.2) (al y15.p2.2)&&ai) (aF (y18.1,y18.2.1,x13.p3,(2,0,[],[],(Xp.op U.1),(Xp.n U.1),(Xp.name U.1),(Xp.l U.1)),y18.p2,y15.q3,y18.q3)))) (aF (y15.1,y17.2,x13.p3,(2,0,[],[],(Xp.op U.1),(Xp.n U.1),(Xp.name U.1),(Xp.l U.1)),y15.p2,y15.q3,([]:List Sx))))) λx16=>(af (nU (x16.p3.1,x16.p3.2.1,x16.p3.p2,x16.p3.p3,([]:List Xp),em x16.p3.q4,x16.q5),x16.1,x16.2.1,x16.p4))))))) (jn (α:=Bool×yW×fR×HJ×Bool×List (List UInt8)) (bd y1.1 7 (aF ((fX 0 x.1),x13.2)) (aF (aj,x13.2))) λI=>(bcase I.1 (obind (pA ([98])) λy20=>(obind (rB 2) λy21=>(obind (nS (13,y20,y21)) λy22=>(obind (rmade_maker_stmts (((bn .i64 (x.1-1)),1),(I.2.1.1,I.2.1.2.1,I.2.1.p2,I.2.1.p3,I.2.1.p4,ai),I.p2,I.q4)) λy23=>(bF (((I.p4==I.p4)&&ai)&&aC (al I.q5) (al I.q5)&&ai) (obind (pA ([98])) λy24=>(obind (rB 1) λy25=>(obind (nS (6,y24,y25)) λy26=>(obind (jv ([98],y26)) λy27=>(bF (bc (al y23.q3+al ([ey y27])) 176) (af (nU (3,0,[],[],([]:List Xp),em ((Xp.op y22),(Xp.n y22),(Xp.name y22),(Xp.l y22)),(y23.q3++([ey y27])),([]:List Sx)),(y23.1.1,y23.1.2.1,y23.1.p2,y23.1.p3,y23.1.p4,I.2.1.q5),y23.2.1,y23.p2)))))))))))) (jn (α:=Bool×yW×fR×HJ×Bool×List (List UInt8)) (bd y1.1 8 (bcase x2.1 (kJ (.str) ([[109],[110]]) (bn .i64 (y1.1-8)) λz29=>(obind (eS (z29,I.2.1,I.p2,I.q4)) λy30=>(bF (((I.p4==y30.p3)&&ai)&&aC (al I.q5) (al y30.q4)&&ai) (aF ((!y30.1),y30.2.1,y30.p2,I.p3,y30.q3))))) (aF (aj,I.2))) (bd y1.1 9 (bcase x2.1 (kJ (.str) ([[109],[110]]) (bn .i64 (y1.1-8)) λz31=>(obind (eS (z31,I.2.1,I.p2,I.q4)) λy32=>(bF (((I.p4==y32.p3)&&ai)&&aC (al I.q5) (al y32.q4)&&ai) (aF ((!y32.1),y32.2.1,y32.p2,I.p3,y32.q3))))) (aF (aj,I.2))) (aF (aj,I.2)))) λJ=>(bcase J.1 (kJ (.str) ([[109],[110]]) (bn .i64 (y1.1-8)) λz33=>(obind (rmade_maker_block ((z33,(bn .i64 (x.1-1))),J.2.1,J.p2,J.q4)) λy34=>(bF (((J.p4==J.p4)&&ai)&&aC (al J.q5) (al J.q5)&&ai) (af (nU (4,0,z33,[],([]:List Xp),em (0,0,[],([]:List Xp)),y34.1,([]:List Sx)),y34.2))))) (jn (α:=Bool×yW×fR×HJ×Bool×List (List UInt8)) (bd y1.1 10 (bcase x2.1 (obind (eS ([114],J.2.1,J.p2,J.q4)) λy36=>(bF (((J.p4==y36.p3)&&ai)&&aC (al J.q5) (al y36.q4)&&ai) (aF ((!y36.1),y36.2.1,y36.p2,J.p3,y36.q3)))) (aF (aj,J.2))) (bd y1.1 11 (bcase x2.1 (obind (eS ([114],J.2.1,J.p2,J.q4)) λy37=>(bF (((J.p4==y37.p3)&&ai)&&aC (al J.q5) (al y37.q4)&&ai) (aF ((!y37.1),y37.2.1,y37.p2,J.p3,y37.q3)))) (aF (aj,J.2))) (aF (aj,J.2)))) λx35=>(bcase x35.1 (obind (rmade_maker_block (([114],(bn .i64 (x.1-1))),x35.2.1,x35.p2,x35.q4)) λy38=>(bF (((x35.p4==x35.p4)&&ai)&&aC (al x35.q5) (al x35.q5)&&ai) (af (nU ((bn .i64 ((bn .i64 (y1.1-10))+5)),0,[114],[],([]:List Xp),em (0,0,[],([]:List Xp)),y38.1,([]:List Sx)),y38.2)))) (jn (α:=Bool×yW×fR×HJ×Bool×List (List UInt8)) (bd y1.1 12 (aF (x2.1,x35.2)) (aF (aj,x35.2))) λY=>(bcase Y.1 (obind (bx (2,Y.p2)) λy40=>(obind (rmade_maker_stmts ((0,(bn .i64 (1+y40.1))),(Y.2.1.1,Y.2.1.2.1,Y.2.1.p2,ai,Y.2.1.q4),y40.2,Y.q4)) λy41=>(bF (((Y.p4==Y.p4)&&ai)&&aC (al Y.q5) (al Y.q5)&&ai) (af (nU (7,0,[],[],([]:List Xp),em (0,0,[],([]:List Xp)),y41.q3,([]:List Sx)),(y41.1.1,y41.1.2.1,y41.1.p2,aj,y41.1.q4),y41.2.1,y41.p2))))) (jn (α:=Bool×yW×fR×HJ×Bool×List (List UInt8)) (bd y1.1 13 (bcase x2.1 (aF ((!Y.2.1.p4),Y.2)) (aF (aj,Y.2))) (aF (aj,Y.2))) λM=>(bcase M.1 (obind (rmade_maker_stmts (((bn .i64 (x.1-1)),2),(M.2.1.1,M.2.1.2.1,M.2.1.p2,M.2.1.p3,ai,M.2.1.q5),M.p2,M.q4)) λy43=>(bF (((M.p4==M.p4)&&ai)&&aC (al M.q5) (al M.q5)&&ai) (af (nU (8,0,[],[],([]:List Xp),em (0,0,[],([]:List Xp)),y43.q3,([]:List Sx)),(y43.1.1,y43.1.2.1,y43.1.p2,y43.1.p3,aj,y43.1.q5),y43.2.1,y43.p2)))) (jn (α:=Bool×yW×fR×HJ×Bool×List (List UInt8)) (bd y1.1 14 (bcase x2.1 (bcase (!M.2.1.p4) (obind (eS ([109],M.2.1,M.p2,M.q4)) λy45=>(bF (((M.p4==y45.p3)&&ai)&&aC (al M.q5) (al y45.q4)&&ai) (aF ((!y45.1),y45.2.1,y45.p2,M.p3,y45.q3)))) (aF (aj,M.2))) (aF (aj,M.2))) (aF (aj,M.2))) λx44=>(bcase x44.1 (obind (pA ([120])) λy46=>(obind (jv ([97],y46)) λy47=>(af (nU (4,0,[109],[],([]:List Xp),em (0,0,[],([]:List Xp)),[nU (9,0,[99],[],([]:List Xp),em (0,0,[],([]:List Xp)),([]:List Sx),([]:List Sx)),ey y47],([]:List Sx)),x44.2.1,x44.p2,x44.q4)))) (jn (α:=Bool×yW×fR×HJ×Bool×List (List UInt8)) (bd y1.1 15 (bcase x2.1 (obind (eS ([109],x44.2.1,x44.p2,x44.q4)) λy49=>(bF (((x44.p4==y49.p3)&&ai)&&aC (al x44.q5) (al y49.q4)&&ai) (aF ((!y49.1),y49.2.1,y49.p2,x44.p3,y49.q3)))) (aF (aj,x44.2))) (aF (aj,x44.2))) λx48=>(bcase x48.1 (obind (bx (2,x48.p2)) λy50=>(af (nU (4,0,[109],[],([]:List Xp),em (0,0,[],([]:List Xp)),[nU ((bn .i64 (10+y50.1)),0,[99],[],([]:List Xp),em (0,0,[],([]:List Xp)),([]:List Sx),([]:List Sx))],([]:List Sx)),x48.2.1,y50.2,x48.q4))) (jn (α:=Bool×yW×fR×HJ×Bool×List (List UInt8)) (bd y1.1 16 (bcase (!x48.2.1.p3) (bcase (!x48.2.1.q5) (aF ((!x48.2.1.p2),x48.2)) (aF (aj,x48.2))) (aF (aj,x48.2))) (aF (aj,x48.2))) λZ=>(bcase Z.1 (obind (fh (1,(Z.2.1.1,Z.2.1.2.1,ai,Z.2.1.q3),Z.p2,Z.q4)) λy52=>(bF (((Z.p4==y52.p3)&&ai)&&aC (al Z.q5) (al y52.q4)&&ai) (af (nU (14,0,[102],[],([]:List Xp),em ((Xp.op y52.1),(Xp.n y52.1),(Xp.name y52.1),(Xp.l y52.1)),([]:List Sx),([]:List Sx)),y52.2)))) (jn (α:=Bool×yW×fR×HJ×Bool×List (List UInt8)) (bd y1.1 17 (bcase (!Z.2.1.p3) (obind (bx (2,Z.p2)) λy54=>(aF ((decide ((y54.1:Int)=1)),Z.2.1,y54.2,Z.q3))) (aF (aj,Z.2))) (aF (aj,Z.2))) λx53=>(bcase x53.1 (af (nU (15,0,[97],[102],([]:List Xp),em (0,0,[],([]:List Xp)),([]:List Sx),([]:List Sx)),x53.2.1,x53.p2,x53.q4)) (obind (fh (1,x53.2.1,x53.p2,x53.q4)) λy55=>(bF (((x53.p4==y55.p3)&&ai)&&aC (al x53.q5) (al y55.q4)&&ai) (obind (jv ([120],y55.1)) λy56=>(af (ey y56,y55.2))))))))))))))))))))))))))))))
def mH (rmade_maker_stmts:ag9->Option Y4) (rmade_maker_stmt:Y5->Option act) (rmade_maker_block:ag8->Option acu) (x:fx×yW×fR×Bool×List (List UInt8)):Option acu:=
 (bF (bc (al x.q4+al ([x.1.1])) 16) (obind (bx (2,x.p2)) λJ=>(obind (rmade_maker_stmts ((x.1.2,(bn .i64 (1+J.1))),x.2.1,J.2,x.p3,(x.q4++([x.1.1])))) λI=>(bF (((x.p3==x.p3)&&ai)&&aC (al (x.q4++([x.1.1]))) (al (x.q4++([x.1.1])))&&ai) (bF (cZ 0 (bn .i64 ((aX I.p2.2)-1))&&fX (bn .i64 ((aX I.p2.2)-1)) (al I.p2.2)) (af (I.q3,I.1,I.2.1,aj,(dF (aS (bn .i64 ((aX I.p2.2)-1))) I.p2.2))))))))
mutual
def dM:Nat->ag9->Option Y4
 |0,_=>ah
 |n+1,x=>mG (dM n) (eL n) (ec n) x
def eL:Nat->Y5->Option act
 |0,_=>ah
 |n+1,x=>n_ (dM n) (eL n) (ec n) x
def ec:Nat->ag8->Option acu
 |0,_=>ah
 |n+1,x=>mH (dM n) (eL n) (ec n) x
end
def qx (x:(Int×Int)×yW×fR×Bool×List (List UInt8)):Option Y4:=dM fuel x
def oR (x:List Int):Option (sq×List sk):=
 (obind (sB ()) λy1=>(obind (bx (3,x,0)) λy2=>(iter (σ:=Int×yW×sq×ca×fR×S8×List sk) (λM=>(bB M.1 (bn .i64 (2+y2.1)) (kJ (.str) M.p3 M.1 λz4=>(jn (α:=yW×sq×ca×fx×fR×S8×(List sk)×ca×List Sx) (bd M.1 0 (iter (σ:=Int×yW×sq×ca×fx×fR×S8×(List sk)×ca×List Sx) (λY=>(bB Y.1 (bn .i64 (2+y2.1)) (kJ (.str) Y.p3 Y.1 λz7=>(bF (bc (al Y.q9+al ([nU (12,0,z7,[],([]:List Xp),em (0,0,[],([]:List Xp)),([]:List Sx),([]:List Sx))])) 176) (cK ((cA Y.1),Y.2.1,Y.p2,Y.p3,Y.p4,Y.p5,Y.p6,Y.p7,Y.p8,(Y.q9++([nU (12,0,z7,[],([]:List Xp),em (0,0,[],([]:List Xp)),([]:List Sx),([]:List Sx))])))))) (aF (bX Y.2)))) (1,(M.1,M.2.1.2),M.p2,M.p3,(z4,0),M.p4,M.p5,M.q6,[[97],[98]],([]:List Sx))) (aF ((M.1,M.2.1.2),M.p2,M.p3,(z4,0),M.p4,M.p5,M.q6,[[97],[98]],([]:List Sx)))) λU=>(obind (bx (3,U.p4)) λy8=>(obind (qx ((2,(bn .i64 (1+y8.1))),U.1,y8.2,U.p5)) λZ=>(bF (((U.p5.1==U.p5.1)&&ai)&&aC (al U.p5.2) (al U.p5.2)&&ai) (bF (bc (al U.q8+al Z.q3) 176) (jn (α:=yW×sq×ca×fx×fR×S8×(List sk)×ca×List Sx) (jn (α:=Bool×yW×sq×ca×fx×fR×S8×(List sk)×ca×List Sx) (bd M.1 0 (obind (bx (3,Z.2.1)) λy12=>(aF ((decide ((y12.1:Int)=2)),Z.1,U.2.1,U.p2,U.p3,y12.2,Z.p2,U.p6,U.p7,(U.q8++Z.q3)))) (aF (aj,Z.1,U.2.1,U.p2,U.p3,Z.2.1,Z.p2,U.p6,U.p7,(U.q8++Z.q3)))) λI=>(bcase I.1 (kJ (.str) I.p3 1 λz13=>(bF (bc (al I.q9+al ([nU (13,0,z13,[],([]:List Xp),em (0,0,[],([]:List Xp)),([]:List Sx),([]:List Sx))])) 176) (aF (I.2.1,I.p2,I.p3,I.p4,I.p5,I.p6,I.p7,I.p8,(I.q9++([nU (13,0,z13,[],([]:List Xp),em (0,0,[],([]:List Xp)),([]:List Sx),([]:List Sx))])))))) (aF I.2))) λJ=>(bF (bc (al J.p6+al ([(J.p3.1,J.p3.2,J.q7)])) 72) (cK ((cA M.1),J.1,J.2.1,J.p2,J.p4,J.p5,(J.p6++([(J.p3.1,J.p3.2,J.q7)])))))))))))) (obind (obind (fw (M.p2,M.q6)) λy14=>(il y14.1 0 (obind (sB ()) λy15=>(obind (rB 1) λy16=>(obind (jv ([120],y16)) λy17=>(af (y15,[([109,97,105,110],0,[[97],[98]],[ey y17])]))))) (af (M.p2,M.q6)))) λr=>af (bX r)))) (0,(0,20,aj,aj,aj,aj),y1,[[109,97,105,110],[116,49],[116,50],[116,51]],y2.2,(ai,([]:List (List UInt8))),([]:List sk)))))
def xE (x:List Int):Option Ad:=
 (obind (oR x) λJ=>(obind (qw J) λI=>(af I.1)))
def sC (x:(List Int)×List Int):Option (dJ×List gg):=
 (obind (xE x.1) λM=>(obind (oS x.2) λJ=>(obind (zk (M,J)) λI=>(af I.1))))
def nM (x:Unit):Option dJ:=
 (iter (σ:=Int×gZ×gG×(List fx)×ca×ca×List (Int×Int×Int)) (λJ=>(bB J.1 (aQ (al ([[109,97,105,110],[116,49],[116,50],[116,51]]))) (iter (σ:=Int×gZ×gG×(List fx)×ca×ca×List (Int×Int×Int)) (λI=>(bB I.1 6 (bF (bc (al I.q6+al ([(J.1,I.1,(bn .i64 ((bn .i64 ((bn .i64 (10*J.1))+I.1))+1)))])) 24) (cK ((cA I.1),I.2.1,I.p2,I.p3,I.p4,I.p5,(I.q6++([(J.1,I.1,(bn .i64 ((bn .i64 ((bn .i64 (10*J.1))+I.1))+1)))]))))) (aF (oY ((cA J.1),I.2))))) (0,J.2)) (aF J.2))) (0,[([120],0,0,aj,0),([121],0,0,aj,1),([118],0,0,ai,0),([113],0,2,aj,0),([113],1,2,aj,0)],[([109],aj),([110],aj),([114],ai)],[([99],0)],[[102]],[[109,97,105,110],[116,49],[116,50],[116,51]],([]:List (Int×Int×Int))))
def k_ (x:ph×(List Int)×(List Int)×List Int):Option (List Int):=
 (iter (σ:=Int×List Int) (λI=>(bB I.1 (aX x.1.q3) (jn (α:=List Int) (bH ij x.1.q3 I.1 λJ=>(bd J.1 3 (bF (bc (al I.2+al ([I.1])) 8) (aF (I.2++([I.1])))) (aF I.2))) λM=>(cK ((cA I.1),M))) (aF I.2))) (0,([]:List Int)))
def tK (x:Unit):Option (List Int):=
 (af ([3,3,3,3,3,4,4,4,4,4,5,5,5,6,6,6,7,7,7,8,9,10,11,12,13,14,14,15,16,16,17,17,18,18,19,20,1,1,2,21,22,23,23]))
def oM (x:(Int×Int)×(List Int)×Int):Option (Int×(List Int)×Int):=
 (jn (α:=Bool×(List Int)×Int) (bd x.1.1 3 (aF ((decide ((x.1.1:Int)=3)),x.2)) (aF ((decide ((x.1.1:Int)=4)),x.2))) λU=>(bcase U.1 (obind (bx (8,U.2)) λy2=>(kJ aM ([0,0,0,1,1,2,3,4]) y2.1 λz3=>(af (z3,y2.2)))) (jn (α:=Bool×(List Int)×Int) (bd x.1.1 6 (aF ((decide ((x.1.1:Int)=6)),U.2)) (aF ((decide ((x.1.1:Int)=7)),U.2))) λJ=>(bcase J.1 (obind (bx (2,J.2)) λy5=>(af y5)) (jn (α:=Bool×(List Int)×Int) (bd x.1.1 8 (aF ((decide ((x.1.1:Int)=8)),J.2)) (bd x.1.1 9 (aF ((decide ((x.1.1:Int)=9)),J.2)) (bd x.1.1 10 (aF ((decide ((x.1.1:Int)=10)),J.2)) (aF ((decide ((x.1.1:Int)=11)),J.2))))) λI=>(bcase I.1 (af (2,I.2)) (jn (α:=Bool×(List Int)×Int) (bd x.1.1 16 (aF ((decide ((x.1.1:Int)=16)),I.2)) (bd x.1.1 17 (aF ((decide ((x.1.1:Int)=17)),I.2)) (bd x.1.1 18 (aF ((decide ((x.1.1:Int)=18)),I.2)) (bd x.1.1 19 (aF ((decide ((x.1.1:Int)=19)),I.2)) (bd x.1.1 22 (aF ((decide ((x.1.1:Int)=22)),I.2)) (aF ((decide ((x.1.1:Int)=23)),I.2))))))) λM=>(bcase M.1 (af (0,M.2)) (jn (α:=Bool×(List Int)×Int) (bd x.1.1 20 (aF ((decide ((x.1.1:Int)=20)),M.2)) (aF ((decide ((x.1.1:Int)=21)),M.2))) λY=>(bcase Y.1 (obind (bx (3,Y.2)) λZ=>(af ((Ak (bn .i64 ((cA x.1.2)+Z.1)) 4),Z.2))) (af ((-1),Y.2))))))))))))
def ql (x:(eO×Int×Int)×(List Int)×Int):Option (Int×(List Int)×Int):=
 (bd x.1.2.1 3 (bH aM x.1.1.2.1 x.1.2.2 λZ=>(af (Z,x.2))) (bd x.1.2.1 23 (bH aM x.1.1.p2 0 λY=>(af (Y,x.2))) (jn (α:=Bool×fR×ph×(List Int)×(List Int)×List Int) (bd x.1.2.1 4 (aF ((decide ((x.1.2.1:Int)=4)),x.2,x.1.1)) (aF ((decide ((x.1.2.1:Int)=22)),x.2,x.1.1))) λI=>(bcase I.1 (obind (bx (3,I.2.1)) λy4=>(af y4)) (bd x.1.2.1 5 (obind (bx (2,I.2.1)) λy5=>(af y5)) (bd x.1.2.1 18 (obind (k_ I.2.2) λJ=>(bB 0 (aX J) (obind (bx ((aX J),I.2.1)) λM=>(bH aM J M.1 λU=>(af (U,M.2)))) (af ((-1),I.2.1)))) (bd x.1.2.1 19 (obind (k_ I.2.2) λy9=>(af ((aX y9),I.2.1))) (af (0,I.2.1)))))))))
def gB (x:fR×List Int):Option ((List Int)×fR×List Int):=
 (iter (σ:=Int×fR×(List Int)×List Int) (λI=>(bB I.1 (aX x.2) (jn (α:=fR×(List Int)×List Int) (kJ aM I.p2 I.1 λM=>(jn (α:=Bool×fR×(List Int)×List Int) (j7 (aX I.p2) (bn .i64 (I.1+3)) (obind (bx (2,I.2.1)) λU=>(aF ((decide ((U.1:Int)=1)),U.2,I.2.2))) (aF (aj,I.2))) λJ=>(bcase J.1 (bF (bc (al J.q3+al ([M])) 8) (aF (J.2.1,J.p2,(J.q3++([M]))))) (aF J.2)))) λY=>(cK ((cA I.1),Y))) (aF (I.q3,I.2.1,I.p2)))) (0,x.1,x.2,([]:List Int)))
def qm (x:(eO×gZ×gG×(List fx)×ca×ca×List (Int×Int×Int))×fR×(List Int)×(List Int)×(List Int)×List Int):Option (gg×fR×(List Int)×(List Int)×(List Int)×List Int):=
 (obind (bx (4,x.2.1)) λU=>(obind (tK ()) λy2=>(obind (bx ((aX y2),U.2)) λy3=>(bH aM y2 y3.1 λz4=>(obind (bx (6,y3.2)) λy5=>(jn (α:=fR×(List Int)×(List Int)×(List Int)×(List Int)×eO×dJ×v9×Int×Int×Int×Int×Int) (jn (α:=Bool×fR×(List Int)×(List Int)×(List Int)×(List Int)×eO×dJ×v9×Int×Int×Int×Int×Int) (bd z4 1 (aF (ai,y5.2,x.p2,x.p3,x.p4,x.q5,x.1.1,x.1.2,(0,0,0,0,0),U.1,z4,0,0,(bn .i64 ((bn .i64 (U.1*6))+y5.1)))) (aF ((decide ((z4:Int)=2)),y5.2,x.p2,x.p3,x.p4,x.q5,x.1.1,x.1.2,(0,0,0,0,0),U.1,z4,0,0,(bn .i64 ((bn .i64 (U.1*6))+y5.1))))) λY=>(bcase Y.1 (aF (Y.2.1,Y.p2,Y.p3,Y.p4,Y.p5,Y.p6,Y.p7,Y.p8,Y.p9,Y.p10,Y.p11,Y.p12,(-1))) (aF Y.2))) λM=>(obind (oM ((M.p9,U.1),M.1)) λy8=>(obind (ql ((M.p5,M.p9,y8.1),y8.2)) λy9=>(jn (α:=fR×(List Int)×(List Int)×(List Int)×(List Int)×v9×Int×Int×Int×Int×Int×List Int) (jn (α:=Bool×fR×(List Int)×(List Int)×(List Int)×(List Int)×v9×Int×Int×Int×Int×Int) (bd M.p9 5 (aF (ai,y9.2,M.2.1,M.p2,M.p3,M.p4,M.p7,M.p8,M.p9,y8.1,y9.1,M.q12)) (bd M.p9 3 (bH kE M.p6.1 y8.1 λz12=>(aF ((fX 0 z12.2.2.1),y9.2,M.2.1,M.p2,M.p3,M.p4,M.p7,M.p8,M.p9,y8.1,y9.1,M.q12))) (bd M.p9 4 (bH kE M.p6.1 y8.1 λz13=>(aF ((fX 0 z13.2.2.1),y9.2,M.2.1,M.p2,M.p3,M.p4,M.p7,M.p8,M.p9,y8.1,y9.1,M.q12))) (aF (aj,y9.2,M.2.1,M.p2,M.p3,M.p4,M.p7,M.p8,M.p9,y8.1,y9.1,M.q12))))) λJ=>(bcase J.1 (bd U.1 0 (obind (gB (J.2.1,J.p2)) λy14=>(bF (aC (al J.p2) (al y14.2.2)&&ai) (aF (y14.2.1,y14.2.2,J.p3,J.p4,J.p5,J.p6,J.p7,J.p8,J.p9,J.p10,J.q11,y14.1)))) (bd U.1 1 (obind (gB (J.2.1,J.p3)) λy15=>(bF (aC (al J.p3) (al y15.2.2)&&ai) (aF (y15.2.1,J.p2,y15.2.2,J.p4,J.p5,J.p6,J.p7,J.p8,J.p9,J.p10,J.q11,y15.1)))) (bd U.1 2 (obind (gB (J.2.1,J.p4)) λy16=>(bF (aC (al J.p4) (al y16.2.2)&&ai) (aF (y16.2.1,J.p2,J.p3,y16.2.2,J.p5,J.p6,J.p7,J.p8,J.p9,J.p10,J.q11,y16.1)))) (bd U.1 3 (obind (gB (J.2.1,J.p5)) λy17=>(bF (aC (al J.p5) (al y17.2.2)&&ai) (aF (y17.2.1,J.p2,J.p3,J.p4,y17.2.2,J.p6,J.p7,J.p8,J.p9,J.p10,J.q11,y17.1)))) ah)))) (aF (J.2.1,J.p2,J.p3,J.p4,J.p5,J.p6,J.p7,J.p8,J.p9,J.p10,J.q11,([]:List Int))))) λx10=>(jn (α:=fR×(List Int)×(List Int)×(List Int)×(List Int)×v9×Int×Int×Int×Int×Int×(List Int)×List Int) (jn (α:=Bool×fR×(List Int)×(List Int)×(List Int)×(List Int)×v9×Int×Int×Int×Int×Int×List Int) (bd x10.p7 4 (aF (ai,x10)) (aF ((decide ((x10.p7:Int)=22)),x10))) λI=>(bcase I.1 (bd U.1 0 (obind (gB (I.2.1,I.p2)) λy20=>(bF (aC (al I.p2) (al y20.2.2)&&ai) (aF (y20.2.1,y20.2.2,I.p3,I.p4,I.p5,I.p6,I.p7,I.p8,I.p9,I.p10,I.p11,I.q12,y20.1)))) (bd U.1 1 (obind (gB (I.2.1,I.p3)) λy21=>(bF (aC (al I.p3) (al y21.2.2)&&ai) (aF (y21.2.1,I.p2,y21.2.2,I.p4,I.p5,I.p6,I.p7,I.p8,I.p9,I.p10,I.p11,I.q12,y21.1)))) (bd U.1 2 (obind (gB (I.2.1,I.p4)) λy22=>(bF (aC (al I.p4) (al y22.2.2)&&ai) (aF (y22.2.1,I.p2,I.p3,y22.2.2,I.p5,I.p6,I.p7,I.p8,I.p9,I.p10,I.p11,I.q12,y22.1)))) (bd U.1 3 (obind (gB (I.2.1,I.p5)) λy23=>(bF (aC (al I.p5) (al y23.2.2)&&ai) (aF (y23.2.1,I.p2,I.p3,I.p4,y23.2.2,I.p6,I.p7,I.p8,I.p9,I.p10,I.p11,I.q12,y23.1)))) ah)))) (aF (I.2.1,I.p2,I.p3,I.p4,I.p5,I.p6,I.p7,I.p8,I.p9,I.p10,I.p11,I.q12,([]:List Int))))) λZ=>(af (Z.q6,Z.1,Z.2.1,Z.p2,Z.p3,Z.p4))))))))))))
def sw (x:(eO×dJ×Int×Bool)×(List Int)×Int):Option ((List gg)×(List Int)×Int):=
 (bF (cZ 0 (aX x.1.2.1.p4)&&cZ (aX x.1.2.1.p4) (aX x.1.2.1.p4)&&bc (aS (aX x.1.2.1.p4)) 24&&decide (((aX x.1.2.1.p4):Int)=4)) (jn (α:=fR×eO×dJ×(List Int)×(List Int)×(List Int)×List Int) (bB 0 (aQ 4) (jn (α:=fR×eO×dJ×(List Int)×(List Int)×(List Int)×List Int) (jn (α:=Bool×fR×eO×dJ×(List Int)×(List Int)×(List Int)×List Int) (bcase x.1.q3 (bH aM x.1.1.q3 0 λz4=>(bB 1 z4 (obind (bx (3,x.2)) λy5=>(aF ((decide ((y5.1:Int)=2)),y5.2,x.1.1,x.1.2.1,([]:List Int),([]:List Int),([]:List Int),([]:List Int)))) (aF (aj,x.2,x.1.1,x.1.2.1,([]:List Int),([]:List Int),([]:List Int),([]:List Int))))) (aF (aj,x.2,x.1.1,x.1.2.1,([]:List Int),([]:List Int),([]:List Int),([]:List Int)))) λx3=>(bcase x3.1 (bF (bc (al x3.p4+al ([1])) 8) (aF (x3.2.1,x3.p2,x3.p3,(x3.p4++([1])),x3.q5))) (aF x3.2))) λx2=>(bB 1 (aQ 4) (jn (α:=fR×eO×dJ×(List Int)×(List Int)×(List Int)×List Int) (jn (α:=Bool×fR×eO×dJ×(List Int)×(List Int)×(List Int)×List Int) (bcase x.1.q3 (bH aM x2.2.1.q3 1 λz8=>(bB 1 z8 (obind (bx (3,x2.1)) λy9=>(aF ((decide ((y9.1:Int)=2)),y9.2,x2.2))) (aF (aj,x2)))) (aF (aj,x2))) λx7=>(bcase x7.1 (bF (bc (al x7.p5+al ([1])) 8) (aF (x7.2.1,x7.p2,x7.p3,x7.p4,(x7.p5++([1])),x7.q6))) (aF x7.2))) λx6=>(bB 2 (aQ 4) (jn (α:=fR×eO×dJ×(List Int)×(List Int)×(List Int)×List Int) (jn (α:=Bool×fR×eO×dJ×(List Int)×(List Int)×(List Int)×List Int) (bcase x.1.q3 (bH aM x6.2.1.q3 2 λz12=>(bB 1 z12 (obind (bx (3,x6.1)) λy13=>(aF ((decide ((y13.1:Int)=2)),y13.2,x6.2))) (aF (aj,x6)))) (aF (aj,x6))) λY=>(bcase Y.1 (bF (bc (al Y.p6+al ([1])) 8) (aF (Y.2.1,Y.p2,Y.p3,Y.p4,Y.p5,(Y.p6++([1])),Y.q7))) (aF Y.2))) λx10=>(bB 3 (aQ 4) (jn (α:=fR×eO×dJ×(List Int)×(List Int)×(List Int)×List Int) (jn (α:=Bool×fR×eO×dJ×(List Int)×(List Int)×(List Int)×List Int) (bcase x.1.q3 (bH aM x10.2.1.q3 3 λz16=>(bB 1 z16 (obind (bx (3,x10.1)) λy17=>(aF ((decide ((y17.1:Int)=2)),y17.2,x10.2))) (aF (aj,x10)))) (aF (aj,x10))) λU=>(bcase U.1 (bF (bc (al U.q7+al ([1])) 8) (aF (U.2.1,U.p2,U.p3,U.p4,U.p5,U.p6,(U.q7++([1]))))) (aF U.2))) λx14=>(bB 4 (aQ 4) (jn (α:=fR×eO×dJ×(List Int)×(List Int)×(List Int)×List Int) (jn (α:=Bool×fR×eO×dJ×(List Int)×(List Int)×(List Int)×List Int) (bcase x.1.q3 (bH aM x14.2.1.q3 4 λz20=>(bB 1 z20 (obind (bx (3,x14.1)) λy21=>(aF ((decide ((y21.1:Int)=2)),y21.2,x14.2))) (aF (aj,x14)))) (aF (aj,x14))) λx19=>(bcase x19.1 ah (aF x19.2))) λx18=>ah) (aF x14))) (aF x10))) (aF x6))) (aF x2))) (aF (x.2,x.1.1,x.1.2.1,([]:List Int),([]:List Int),([]:List Int),([]:List Int)))) λx1=>(iter (σ:=fR×eO×dJ×(List gg)×(List Int)×(List Int)×(List Int)×List Int) (λx22=>(jn (α:=Bool×fR×eO×dJ×(List gg)×(List Int)×(List Int)×(List Int)×List Int) (bB (aX x22.p3) x.1.p2 (aF ((fX x22.1.2 (aX x22.1.1)),x22)) (aF (aj,x22))) λJ=>(bcase J.1 (jn (α:=fR×eO×dJ×(List gg)×(List Int)×(List Int)×(List Int)×List Int) (obind (qm ((J.p2,J.p3),J.2.1,J.q5)) λM=>(bF (aC (al J.q8) (al M.q5)&&(aC (al J.p7) (al M.p4)&&(aC (al J.p6) (al M.p3)&&(aC (al J.p5) (al M.p2)&&ai)))) (obind (rm (J.p3,J.p2,M.1)) λy26=>(bcase (!y26.2) (aF (M.2.1,J.p2,J.p3,J.p4,M.2.2)) (jn (α:=fR×eO×dJ×(List gg)×gg×eO×(List Int)×(List Int)×(List Int)×List Int) (jn (α:=Bool×fR×eO×dJ×(List gg)×gg×eO×(List Int)×(List Int)×(List Int)×List Int) (bd M.1.2.1 3 (aF (ai,M.2.1,J.p2,J.p3,J.p4,M.1,y26.1,M.2.2)) (aF ((decide ((M.1.2.1:Int)=23)),M.2.1,J.p2,J.p3,J.p4,M.1,y26.1,M.2.2))) λI=>(bcase I.1 (bd I.p5.1 0 (bH aM I.p2.q3 0 λz29=>(bF (bc (al I.p7+al ([z29])) 8) (aF (I.2.1,I.p2,I.p3,I.p4,(0,I.p5.2),I.p6,(I.p7++([z29])),I.q8)))) (bd I.p5.1 1 (bH aM I.p2.q3 1 λz30=>(bF (bc (al I.p8+al ([z30])) 8) (aF (I.2.1,I.p2,I.p3,I.p4,(1,I.p5.2),I.p6,I.p7,(I.p8++([z30])),I.q9)))) (bd I.p5.1 2 (bH aM I.p2.q3 2 λz31=>(bF (bc (al I.p9+al ([z31])) 8) (aF (I.2.1,I.p2,I.p3,I.p4,(2,I.p5.2),I.p6,I.p7,I.p8,(I.p9++([z31])),I.q10)))) (bd I.p5.1 3 (bH aM I.p2.q3 3 λz32=>(bF (bc (al I.q10+al ([z32])) 8) (aF (I.2.1,I.p2,I.p3,I.p4,(3,I.p5.2),I.p6,I.p7,I.p8,I.p9,(I.q10++([z32])))))) ah)))) (aF I.2))) λZ=>(bF (bc (al Z.p3+al ([Z.p4])) 88) (aF (Z.1,Z.p5,Z.p2,(Z.p3++([Z.p4])),Z.q6)))))))) λx24=>(cK x24)) (aF (J.p4,J.2.1))))) (x1.1,x1.2.1,x1.p2,([]:List gg),x1.q3))))
def qn (x:(List Int)×Int):Option (dJ×List gg):=
 (jn (α:=List Int) (bB 600 (aX x.1) (bF (cZ 0 600&&cZ 600 (al x.1)) (aF (dF (aS 600) x.1))) (aF x.1)) λx1=>(obind (nM ()) λy2=>(obind (mS y2) λy3=>(obind (bx (3,x1,0)) λy4=>(iter (σ:=Int×fR×dJ×eO×List gg) (λJ=>(j7 J.1 (bn .i64 (1+y4.1)) (bF (bc (al J.q4+al ([(0,20,J.1,0,0,([]:List Int),([]:List Int)),(J.1,1,(-1),0,(-1),([]:List Int),([]:List Int))])) 88) (cK ((cA J.1),J.2.1,J.p2,J.p3,(J.q4++([(0,20,J.1,0,0,([]:List Int),([]:List Int)),(J.1,1,(-1),0,(-1),([]:List Int),([]:List Int))]))))) (obind (iter (σ:=Int×fR×dJ×eO×(List gg)×List gg) (λI=>(bB I.1 (aX J.q4) (jn (α:=fR×dJ×eO×(List gg)×List gg) (kJ jt I.p4 I.1 λU=>(obind (rm (I.p2,I.p3,U)) λy9=>(bcase y9.2 (bF (bc (al I.q5+al ([U])) 88) (aF (I.2.1,I.p2,y9.1,I.p4,(I.q5++([U]))))) (aF I.2)))) λx7=>(cK ((cA I.1),x7))) (obind (obind (sw ((I.p3,I.p2,(Hm (jD x.2 0) 60),aj),I.2.1)) λM=>(bF (bc (al I.q5+al M.1) 88) (obind (uk (I.p2,(I.q5++M.1))) λZ=>(il Z.2 0 (obind (nM ()) λY=>(af (Y,([]:List gg)))) (af (I.p2,(I.q5++M.1))))))) λr=>af (bX r)))) (0,J.2.1,J.p2,J.p3,J.q4,([]:List gg))) λr=>af (bX r)))) (1,y4.2,y2,y3,[(0,1,(-1),0,(-1),([]:List Int),([]:List Int))]))))))
def lh (x:((List Int)×(List Int)×List Int)×Int):Option (dJ×List gg):=
 (bB 0 (aX x.1.2.2) (obind (qn (x.1.2.2,x.2)) λJ=>(af J)) (bF (cZ 0 (Hm (aX x.1.2.1) x.2)&&cZ (Hm (aX x.1.2.1) x.2) (al x.1.2.1)) (obind (sC (x.1.1,(dF (aS (Hm (aX x.1.2.1) x.2)) x.1.2.1))) λI=>(af I))))
end
end Go.Proofs.YtgijlolllojpaaaGreatDoor.AI
