/-
  Texts of the proof, part 1 of 6: what is used to prove the statement. No condition.
-/
import Derived.WalkKit
import Derived.Lib.Hide
import Derived.Deep.QuietTactic
namespace Prod
variable {A0 A1 A2 A3 A4 A5 A6 A7 A8 A9 A10 A11 A12 A13 A14 A15 A16 A17 A18 A19 A20 A21 A22 A23 A24:Type}
abbrev p2 (x:A0×A1×A2×A3):A2:=x.2.2.1
abbrev p3 (x:A0×A1×A2×A3×A4):A3:=x.2.2.2.1
abbrev q3 (x:A0×A1×A2×A3):A3:=x.2.2.2
abbrev p4 (x:A0×A1×A2×A3×A4×A5):A4:=x.2.2.2.2.1
abbrev q4 (x:A0×A1×A2×A3×A4):A4:=x.2.2.2.2
abbrev p5 (x:A0×A1×A2×A3×A4×A5×A6):A5:=x.2.2.2.2.2.1
abbrev q5 (x:A0×A1×A2×A3×A4×A5):A5:=x.2.2.2.2.2
abbrev p6 (x:A0×A1×A2×A3×A4×A5×A6×A7):A6:=x.2.2.2.2.2.2.1
abbrev q6 (x:A0×A1×A2×A3×A4×A5×A6):A6:=x.2.2.2.2.2.2
abbrev p7 (x:A0×A1×A2×A3×A4×A5×A6×A7×A8):A7:=x.2.2.2.2.2.2.2.1
abbrev q7 (x:A0×A1×A2×A3×A4×A5×A6×A7):A7:=x.2.2.2.2.2.2.2
abbrev p8 (x:A0×A1×A2×A3×A4×A5×A6×A7×A8×A9):A8:=x.2.2.2.2.2.2.2.2.1
abbrev q8 (x:A0×A1×A2×A3×A4×A5×A6×A7×A8):A8:=x.2.2.2.2.2.2.2.2
abbrev p9 (x:A0×A1×A2×A3×A4×A5×A6×A7×A8×A9×A10):A9:=x.2.2.2.2.2.2.2.2.2.1
abbrev q9 (x:A0×A1×A2×A3×A4×A5×A6×A7×A8×A9):A9:=x.2.2.2.2.2.2.2.2.2
abbrev p10 (x:A0×A1×A2×A3×A4×A5×A6×A7×A8×A9×A10×A11):A10:=x.2.2.2.2.2.2.2.2.2.2.1
abbrev q10 (x:A0×A1×A2×A3×A4×A5×A6×A7×A8×A9×A10):A10:=x.2.2.2.2.2.2.2.2.2.2
abbrev p11 (x:A0×A1×A2×A3×A4×A5×A6×A7×A8×A9×A10×A11×A12):A11:=x.2.2.2.2.2.2.2.2.2.2.2.1
abbrev q11 (x:A0×A1×A2×A3×A4×A5×A6×A7×A8×A9×A10×A11):A11:=x.2.2.2.2.2.2.2.2.2.2.2
abbrev p12 (x:A0×A1×A2×A3×A4×A5×A6×A7×A8×A9×A10×A11×A12×A13):A12:=x.2.2.2.2.2.2.2.2.2.2.2.2.1
abbrev q12 (x:A0×A1×A2×A3×A4×A5×A6×A7×A8×A9×A10×A11×A12):A12:=x.2.2.2.2.2.2.2.2.2.2.2.2
abbrev p13 (x:A0×A1×A2×A3×A4×A5×A6×A7×A8×A9×A10×A11×A12×A13×A14):A13:=x.2.2.2.2.2.2.2.2.2.2.2.2.2.1
abbrev q13 (x:A0×A1×A2×A3×A4×A5×A6×A7×A8×A9×A10×A11×A12×A13):A13:=x.2.2.2.2.2.2.2.2.2.2.2.2.2
abbrev p14 (x:A0×A1×A2×A3×A4×A5×A6×A7×A8×A9×A10×A11×A12×A13×A14×A15):A14:=x.2.2.2.2.2.2.2.2.2.2.2.2.2.2.1
abbrev p15 (x:A0×A1×A2×A3×A4×A5×A6×A7×A8×A9×A10×A11×A12×A13×A14×A15×A16):A15:=x.2.2.2.2.2.2.2.2.2.2.2.2.2.2.2.1
abbrev p16 (x:A0×A1×A2×A3×A4×A5×A6×A7×A8×A9×A10×A11×A12×A13×A14×A15×A16×A17):A16:=x.2.2.2.2.2.2.2.2.2.2.2.2.2.2.2.2.1
abbrev q16 (x:A0×A1×A2×A3×A4×A5×A6×A7×A8×A9×A10×A11×A12×A13×A14×A15×A16):A16:=x.2.2.2.2.2.2.2.2.2.2.2.2.2.2.2.2
abbrev p17 (x:A0×A1×A2×A3×A4×A5×A6×A7×A8×A9×A10×A11×A12×A13×A14×A15×A16×A17×A18):A17:=x.2.2.2.2.2.2.2.2.2.2.2.2.2.2.2.2.2.1
abbrev q17 (x:A0×A1×A2×A3×A4×A5×A6×A7×A8×A9×A10×A11×A12×A13×A14×A15×A16×A17):A17:=x.2.2.2.2.2.2.2.2.2.2.2.2.2.2.2.2.2
abbrev p18 (x:A0×A1×A2×A3×A4×A5×A6×A7×A8×A9×A10×A11×A12×A13×A14×A15×A16×A17×A18×A19):A18:=x.2.2.2.2.2.2.2.2.2.2.2.2.2.2.2.2.2.2.1
abbrev q18 (x:A0×A1×A2×A3×A4×A5×A6×A7×A8×A9×A10×A11×A12×A13×A14×A15×A16×A17×A18):A18:=x.2.2.2.2.2.2.2.2.2.2.2.2.2.2.2.2.2.2
abbrev p19 (x:A0×A1×A2×A3×A4×A5×A6×A7×A8×A9×A10×A11×A12×A13×A14×A15×A16×A17×A18×A19×A20):A19:=x.2.2.2.2.2.2.2.2.2.2.2.2.2.2.2.2.2.2.2.1
abbrev p20 (x:A0×A1×A2×A3×A4×A5×A6×A7×A8×A9×A10×A11×A12×A13×A14×A15×A16×A17×A18×A19×A20×A21):A20:=x.2.2.2.2.2.2.2.2.2.2.2.2.2.2.2.2.2.2.2.2.1
abbrev q21 (x:A0×A1×A2×A3×A4×A5×A6×A7×A8×A9×A10×A11×A12×A13×A14×A15×A16×A17×A18×A19×A20×A21):A21:=x.2.2.2.2.2.2.2.2.2.2.2.2.2.2.2.2.2.2.2.2.2
end Prod
namespace Go.Proofs.YtloaobgmjdjhhaaGreatDoor.AI
open Go.RowKit
set_option maxRecDepth 100000
set_option maxHeartbeats 4000000
set_option linter.unusedVariables false
set_option linter.unusedSimpArgs false
open Act renaming put→O9
open _root_.Array renaming length_toList→iM,replicate→oZ
open _root_.Bool renaming true→J,false→af
open _root_.Int renaming ofNat→aM,toNat→aQ,tmod→AQ
open IntKind renaming wrap→pt
open _root_.List renaming length→ai,replicate→aA,range→cq,length_singleton→cX,take→dQ,getElem?_cons_zero→mb
open _root_.Nat renaming beq→aB,testBit→aO,ble→eR,blt→gF,min→jg
open Oper renaming wp→Iz
open _root_.Option renaming some→M,none→D,bind_some→aG
open Region renaming wanted→iX,binds→AL,ready→Iy
open _root_.Sum renaming inr→bS,inl→oh
open World renaming shape?→sD,cell?→O5
noncomputable section
abbrev Y:=@List
abbrev I:=@Option
abbrev aw:=@if_neg
abbrev aC:=@if_pos
abbrev aP:=@decide_eq_true
abbrev ba:=@of_decide_eq_true
abbrev bc:=@decide_eq_true_eq
abbrev bt:=@decide_eq_false
abbrev bI:=@if_true
abbrev b8:=@absurd
abbrev cK:=@decide_false
abbrev cV:=@decide_true
abbrev c5:=@beq_self_eq_true
abbrev c8:=@beq_iff_eq
abbrev ec:=@if_false
abbrev gu:=@or_false
abbrev hP:=@congrArg
abbrev Ci:=@true_and
abbrev Cj:=@of_decide_eq_false
abbrev ah:=@Option.some.injEq
abbrev al:=@Bool.and_eq_true
abbrev ar:=@Nat.eq_of_beq_eq_true
abbrev av:=@List.getD_eq_getElem?_getD
abbrev ay:=@List.getElem?_eq_getElem
abbrev aE:=@Prod.mk.injEq
abbrev aI:=@List.mem_singleton
abbrev aZ:=@List.mem_of_getElem?
abbrev a_:=@Nat.le_of_ble_eq_true
abbrev bd:=@List.getElem?_map
abbrev bf:=@List.length_append
abbrev bm:=@List.mem_cons
abbrev bn:=@List.getElem?_eq_some_iff
abbrev bu:=@Nat.testBit_or
abbrev bE:=@Nat.ble_eq_true_of_le
abbrev bF:=@List.getElem?_eq_none
abbrev bG:=@List.mem_append
abbrev bK:=@Nat.zero_add
abbrev bM:=@List.length_take
abbrev bQ:=@List.length_map
abbrev bT:=@Nat.le_refl
abbrev bU:=@List.getElem?_append_left
abbrev bW:=@List.length_replicate
abbrev ci:=@Nat.lt_or_ge
abbrev cj:=@List.getElem?_append_right
abbrev cC:=@List.mem_cons_of_mem
abbrev cD:=@Array.getElem?_toList
abbrev cF:=@List.not_mem_nil
abbrev cG:=@Bool.false_eq_true
abbrev cH:=@Array.getElem?_eq_some_iff
abbrev cM:=@List.map_append
abbrev cO:=@List.take_length
abbrev cR:=@Nat.mul_le_mul_right
abbrev cW:=@List.getElem?_take
abbrev c9:=@List.mem_cons_self
abbrev db:=@Bool.not_eq_true'
abbrev dl:=@List.ext_getElem
abbrev du:=@List.mem_map
abbrev dx:=@Int.le_refl
abbrev dy:=@Nat.le_trans
abbrev dz:=@List.foldl_append
abbrev dK:=@Nat.lt_of_lt_of_le
abbrev dZ:=@Int.natCast_nonneg
abbrev eK:=@List.length_range
abbrev eV:=@List.map_cons
abbrev fw:=@List.getElem?_of_mem
abbrev fK:=@Int.toNat_of_nonneg
abbrev fY:=@List.flatMap_cons
abbrev fZ:=@Bool.true_and
abbrev gh:=@List.mem_of_mem_take
abbrev gk:=@List.take_of_length_le
abbrev gI:=@List.all_eq_true
abbrev gV:=@List.append_assoc
abbrev gW:=@Array.getD_eq_getD_getElem?
abbrev g_:=@List.length_eq_zero_iff
abbrev ie:=@Nat.zero_le
abbrev ig:=@List.getElem?_drop
abbrev ij:=@List.length_set
abbrev ik:=@List.append_nil
abbrev iv:=@Nat.ne_of_beq_eq_false
abbrev iC:=@Array.getElem?_eq_getElem
abbrev iL:=@List.map_congr_left
abbrev iN:=@Nat.le_succ_of_le
abbrev iY:=@Option.isSome_iff_exists
abbrev jf:=@Nat.succ_mul
abbrev jh:=@List.cons.injEq
abbrev ji:=@Bool.or_eq_true
abbrev jy:=@List.getElem_range
abbrev jD:=@List.getElem?_replicate
abbrev jO:=@Bool.and_self
abbrev j_:=@Option.map_eq_some_iff
abbrev kc:=@List.getElem?_set
abbrev km:=@Option.some.inj
abbrev kP:=@List.getElem?_toArray
abbrev kW:=@List.getElem_map
abbrev li:=@Nat.or_assoc
abbrev ll:=@List.map_take
abbrev lQ:=@List.take_append_of_le_length
abbrev lU:=@List.mem_range
abbrev lV:=@List.mem_append_left
abbrev lX:=@Bool.false_and
abbrev nj:=@List.length_drop
abbrev nk:=@List.getElem_set
abbrev ol:=@List.mem_append_right
abbrev pq:=@List.take_succ_eq_append_getElem
abbrev pu:=@Bool.and_eq_true_iff
abbrev qf:=@Nat.add_assoc
abbrev qg:=@List.eq_of_mem_replicate
abbrev qC:=@Array.getElem?_setIfInBounds_ne
abbrev qI:=@List.length_take_le
abbrev rE:=@Nat.lt_succ_self
abbrev sF:=@Nat.beq_refl
abbrev sG:=@List.drop_of_length_le
abbrev tG:=@Nat.min_eq_left
abbrev tU:=@List.contains_iff_mem
abbrev ua:=@List.size_toArray
abbrev vz:=@List.replicate_succ'
abbrev vM:=@List.mem_flatMap
abbrev vN:=@List.getElem_mem
abbrev vO:=@List.drop_append
abbrev wu:=@Classical.byContradiction
abbrev wN:=@List.getElem?_range
abbrev wO:=@List.drop_succ_cons
abbrev xO:=@Nat.lt_irrefl
abbrev xP:=@Nat.not_lt_zero
abbrev xQ:=@List.mem_filter
abbrev yO:=@List.filter_append
abbrev zq:=@Nat.zero_or
abbrev AO:=@Nat.lt_succ_of_lt
abbrev Cg:=@List.take_append_drop
abbrev Ch:=@List.length_filter_le
abbrev C8:=@Int.not_lt
abbrev E7:=@List.getElem?_mapIdx
abbrev E8:=@List.drop_append_of_le_length
abbrev Gv:=@List.sum_append
abbrev Gw:=@List.range_succ
abbrev IA:=@Nat.sub_self
abbrev IB:=@Nat.mul_comm
abbrev IC:=@List.map_map
abbrev Me:=@Nat.eq_zero_or_pos
abbrev Mi:=@Array.ext'
abbrev O6:=@Nat.lt_trichotomy
abbrev O7:=@Nat.add_mul
abbrev O8:=@Bool.eq_false_iff
abbrev η:=Y Int
abbrev ζ:=Y UInt8
abbrev θ:=Y Bool
abbrev ι:=Y Nat
abbrev ξ:=Y Value
abbrev ω:=Int×Int×Int×Int×Int×Int
abbrev υ:=Int×Int×Int×Int×Int
abbrev π:=Int×Int×Int
abbrev ν:=Int×Int
inductive FV where
 |raw (v:Value)
 |sl (cells:List FV) (n:Nat)
 |ptr (cells:List FV) (off:Nat)
 |agg (cells:List FV)
inductive AV where
 |f (x:FV)
 |ptr (id off:Nat)
 |sl (id off n:Nat)
 |row (id sz n:Nat)
 |mp (id:Nat)
 |emp
 |anyb
 |agg (cells:List AV)
 |tup (vs:List AV)
 |clo (g:FuncId) (cap:List AV)
def FV.isCell:FV->Bool
 |.raw v=>v.oneCell'
 |.sl _ _=>J
 |.ptr _ _=>J
 |.agg _=>af
def AV.isCell:AV->Bool
 |.f x=>x.isCell
 |.ptr _ _=>J
 |.sl _ _ _=>J
 |.row _ _ _=>J
 |.mp _=>J
 |.emp=>J
 |.clo _ _=>J
 |_=>af
inductive oe (O:Nat->Prop) (w:World):FV->Value->Prop
 |raw (v:Value):oe O w (.raw v) v
 |nil (a:Option Addr) (c:Nat) (hc:c<=maxLen):oe O w (.sl [] 0) (.slice a 0 c)
 |sl (cells:List FV) (n c b off:Nat) (us:Nat->Value) (hn:n<=c) (hc:c<=maxLen) (hO:¬O b) (hb:b<w.heap.size)
   (hcl:∀x∈cells,x.isCell=J)
   (hu:∀j,j<cells.length->w.cell? ⟨b,off+j,D⟩=M (us j)) (hr:∀(j:Nat) x,cells[j]? =M x->oe O w x (us j)):
   oe O w (.sl cells n) (.slice (M ⟨b,off,D⟩) n c)
 |ptr (cells:List FV) (o b off:Nat) (us:Nat->Value) (hO:¬O b) (hb:b<w.heap.size)
   (hcl:∀x∈cells,x.isCell=J)
   (hu:∀j,j<cells.length->w.cell? ⟨b,off+j,D⟩=M (us j)) (hr:∀(j:Nat) x,cells[j]? =M x->oe O w x (us j)):
   oe O w (.ptr cells o) (.pointer (M ⟨b,off+o,D⟩))
 |agg (cells:List FV) (vs:ξ) (hl:vs.length=cells.length) (hcl:∀x∈cells,x.isCell=J)
   (hr:∀(j:Nat) x v,cells[j]? =M x->vs[j]? =M v->oe O w x v):oe O w (.agg cells) (.agg vs.toArray)
abbrev PM:=Nat->I Nat
inductive cS (φ:PM) (O:Nat->Prop) (w:World):AV->Value->Prop
 |f {x:FV} {v:Value} (h:oe O w x v):cS φ O w (.f x) v
 |ptr {id off b:Nat} (h:φ id=M b):cS φ O w (.ptr id off) (.pointer (M ⟨b,off,D⟩))
 |sl {id off n c b:Nat} (h:φ id=M b) (hn:n<=c) (hc:c<=maxLen):cS φ O w (.sl id off n) (.slice (M ⟨b,off,D⟩) n c)
 |row {id sz n c b:Nat} (h:φ id=M b) (hn:n<=c) (hc:c<=maxLen) (hs:∃ty,w.shape? b=M (ty,c*sz)):
   cS φ O w (.row id sz n) (.slice (M ⟨b,0,D⟩) n c)
 |emp {a:Option Addr}:cS φ O w .emp (.slice a 0 0)
 |anyb {b:Bool}:cS φ O w .anyb (.bool b)
 |mp {id b:Nat} (h:φ id=M b):cS φ O w (.mp id) (.map (M b))
 |agg {cells:List AV} {vs:ξ} (hl:vs.length=cells.length) (hcl:∀x∈cells,x.isCell=J)
   (hr:∀(j:Nat) x v,cells[j]? =M x->vs[j]? =M v->cS φ O w x v):cS φ O w (.agg cells) (.agg vs.toArray)
 |tup {cells:List AV} {vs:ξ} (hl:vs.length=cells.length)
   (hr:∀(j:Nat) x v,cells[j]? =M x->vs[j]? =M v->cS φ O w x v):cS φ O w (.tup cells) (.tuple vs.toArray)
 |clo {g:FuncId} {cells:List AV} {vs:ξ} (hl:vs.length=cells.length)
   (hr:∀(j:Nat) x v,cells[j]? =M x->vs[j]? =M v->cS φ O w x v):cS φ O w (.clo g cells) (.func (.func g) #[] vs.toArray)
structure Ja (O:Nat->Prop) (w w':World):Prop where
 os:w'.os=w.os
 tape:w'.tape=w.tape
 output:w'.output=w.output
 size:w.heap.size<=w'.heap.size
 blk:∀k,k<w.heap.size->¬O k->w'.heap[k]? =w.heap[k]?
 shp:∀k,k<w.heap.size->w'.shape? k=w.shape? k
theorem Ja.refl (O:Nat->Prop) (w:World):Ja O w w:=⟨rfl,rfl,rfl,bT _,λ_ _ _=>rfl,λ_ _=>rfl⟩
theorem EO {w w':World} {b:Nat} (h:w'.heap[b]? =w.heap[b]?) (o:Nat):w'.cell? ⟨b,o,D⟩=w.cell? ⟨b,o,D⟩:=by
 unfold O5;rw[h]
theorem oe.ext {O O':Nat->Prop} {w w':World} (he:Ja O w w') (z:∀k,k<w.heap.size->O' k->O k) {x:FV} {v:Value} (h:oe O w x v):oe O' w' x v:=by
 induction h with
 |raw v=>exact .raw v
 |nil a c hc=>exact .nil a c hc
 |sl cells n c b off us hn hc hO hb hcl hu hr s=>
  exact .sl cells n c b off us hn hc (λh=>hO (z b hb h)) (dK hb he.size) hcl (λj hj=>by rw[EO (he.blk b hb hO)];exact hu j hj) s
 |ptr cells o b off us hO hb hcl hu hr s=>
  exact .ptr cells o b off us (λh=>hO (z b hb h)) (dK hb he.size) hcl (λj hj=>by rw[EO (he.blk b hb hO)];exact hu j hj) s
 |agg cells vs hl hcl hr s=>exact .agg cells vs hl hcl s
theorem cS.ext {φ φ':PM} {O O':Nat->Prop} {w w':World} (hs:∀i k,φ i=M k->φ' i=M k) (he:Ja O w w') (s:∀k,k<w.heap.size->O' k->O k) {x:AV} {v:Value} (h:cS φ O w x v):cS φ' O' w' x v:=by
 induction h with
 |f h=>exact .f (h.ext he s)
 |ptr h=>exact .ptr (hs _ _ h)
 |sl h hn hc=>exact .sl (hs _ _ h) hn hc
 |row h hn hc hsh=>
  obtain⟨ty,hty⟩:=hsh;refine .row (hs _ _ h) hn hc ⟨ty,?_⟩;rw[he.shp _ ?_];exact hty;unfold sD at hty;rcases ci _ w.heap.size with hlt|hge
  .exact hlt
  .rw[Array.getElem?_eq_none hge]at hty;cases hty
 |emp=>exact .emp
 |anyb=>exact .anyb
 |mp h=>exact .mp (hs _ _ h)
 |agg hl hcl hr a=>exact .agg hl hcl a
 |tup hl hr a=>exact .tup hl a
 |clo hl hr a=>exact .clo hl a
inductive BC where
 |fz (l:List FV)
 |mx (l:List AV)
 |mp (es:List (Value×AV))
 |it (s:ByteArray) (pos:Nat)
def BC.get:BC->Nat->I AV
 |.fz l,j=>l[j]?.map AV.f
 |.mx l,j=>l[j]?
 |_,_=>D
def BC.len:BC->Nat
 |.fz l=>l.length
 |.mx l=>l.length
 |_=>0
def BC.isCells:BC->Bool
 |.fz _=>J
 |.mx _=>J
 |_=>af
structure wK where
 ty:TypeId
 c:BC
abbrev HF:=Nat->I wK
def own (φ:PM) (h:HF) (k:Nat):Prop:=∃id b,h id=M b/\φ id=M k
def tot (E:Nat->Prop) (φ:PM) (h:HF) (k:Nat):Prop:=E k\/own φ h k
def wq (φ:PM) (O:Nat->Prop) (w:World) (c:BC) (arr:Array Value):Prop:=
 c.len<=arr.size/\∀j x,c.get j=M x->x.isCell=J/\∃v,arr[j]? =M v/\cS φ O w x v
def kK (k:Value):Y MapEntry->Value
 |[]=>.slice D 0 0
 |m::r=>match m.key,k with
  |.int .i64 a,.int .i64 b=>if a=b then m.val else kK k r
  |_,_=>kK k r
def xm (k:Value):Prop:=∃n:Int,k= .int .i64 n
def Zo (ty:TypeId) (es:Y (Value×AV)) (ents:Array MapEntry):Prop:=if ty=0 then ents.toList.map (·.key)=es.map (·.1) else (∀m∈ents.toList,xm m.key)/\∀k∈es.map (·.1),xm k
def MpV (ty:TypeId) (ents:Array MapEntry) (j:Nat) (k v:Value):Prop:=if ty=0 then ∃m,ents[j]? =M m/\v=m.val else v=kK k ents.toList
def js (φ:PM) (O:Nat->Prop) (w:World) (b:wK) (o:Obj):Prop:=
 match b.c with
 |.mp es=>∃ents clock,o= .map ents clock/\Zo b.ty es ents/\∀(j:Nat) x,es[j]? =M x->∃v,MpV b.ty ents j x.1 v/\cS φ O w x.2 v
 |.it s p=>o= .stringIter s p
 |c=>∃arr,o= .cells arr b.ty (0,0)/\wq φ O w c arr
def Zs (φ:PM) (O:Nat->Prop) (w:World) (k:Nat) (b:wK):Prop:=∃o,w.heap[k]? =M o/\js φ O w b o
theorem Zs.cells {φ:PM} {O:Nat->Prop} {w:World} {k:Nat} {b:wK} (h:Zs φ O w k b) (hc:b.c.isCells=J):
 ∃arr,w.heap[k]? =M (.cells arr b.ty (0,0))/\wq φ O w b.c arr:=by
 obtain⟨o,h1,h2⟩:=h;unfold js at h2;cases hb:b.c with
 |fz l=>rw[hb]at h2;obtain⟨arr,rfl,a⟩:=h2;exact⟨arr,h1,a⟩
 |mx l=>rw[hb]at h2;obtain⟨arr,rfl,a⟩:=h2;exact⟨arr,h1,a⟩
 |mp _=>rw[hb]at hc;cases hc
 |it _ _=>rw[hb]at hc;cases hc
theorem js.mono {φ φ':PM} {O O':Nat->Prop} {w w':World} (hk:∀x v,cS φ O w x v->cS φ' O' w' x v) {b:wK} {o:Obj} (h:js φ O w b o):js φ' O' w' b o:=by
 unfold js at h ⊢;cases hb:b.c with
 |fz l=>rw[hb]at h;obtain⟨arr,h1,h2,A⟩:=h;exact⟨arr,h1,h2,λj x z=>by obtain⟨a,v,c,d⟩:=A j x z;exact⟨a,v,c,hk _ _ d⟩⟩
 |mx l=>rw[hb]at h;obtain⟨arr,h1,h2,A⟩:=h;exact⟨arr,h1,h2,λj x z=>by obtain⟨a,v,c,d⟩:=A j x z;exact⟨a,v,c,hk _ _ d⟩⟩
 |mp es=>rw[hb]at h;obtain⟨e,c,h1,h2,A⟩:=h;exact⟨e,c,h1,h2,λj x z=>by obtain⟨m,a,b⟩:=A j x z;exact⟨m,a,hk _ _ b⟩⟩
 |it s p=>rw[hb]at h;exact h
theorem wq.mono {φ φ':PM} {O O':Nat->Prop} {w w':World} (hk:∀x v,cS φ O w x v->cS φ' O' w' x v) {c:BC} {arr:Array Value} (h:wq φ O w c arr):wq φ' O' w' c arr:=
 ⟨h.1,λj x s=>by obtain⟨a,v,c,d⟩:=h.2 j x s;exact⟨a,v,c,hk _ _ d⟩⟩
def vE (l:ζ):FV:=.raw (.string ⟨l.toArray⟩)
def DE:Y FV:=[vE [118,97,114],vE [118,111,108,97,116,105,108,101],vE [109,117,116,101,120],vE [114,119,108,111,99,107],vE [99,111,110,100],vE [102,117,116,117,114,101],vE [116,104,114,101,97,100],vE [105,102],vE [101,108,115,101],vE [119,104,105,108,101],vE [108,111,99,107],vE [114,101,97,100],vE [119,114,105,116,101],vE [116,114,97,110,115,97,99,116,105,111,110],vE [97,116,111,109,105,99],vE [119,97,105,116],vE [110,111,116,105,102,121],vE [110,111,116,105,102,121,97,108,108],vE [115,112,97,119,110],vE [106,111,105,110],vE [115,101,116],vE [103,101,116]]
def G (g:Nat):I (Y FV):=if g==0 then M DE else D
structure rL (φ:PM) (E:Nat->Prop) (h:HF) (w:World):Prop where
 inj:∀i j b b' k,h i=M b->h j=M b'->φ i=M k->φ j=M k->i=j
 at_:∀i b,h i=M b->∃k,φ i=M k/\¬E k/\Zs φ (tot E φ h) w k b
 el:∀k,E k->k<w.heap.size
 gl:∀g cells,G g=M cells->oe (tot E φ h) w (.ptr cells 0) (.pointer (M ⟨g,0,D⟩))
structure jt (φ φ':PM) (h h':HF) (w w':World):Prop where
 sub:∀i k,φ i=M k->φ' i=M k
 ext:Ja (own φ h) w w'
 own_:∀k,k<w.heap.size->own φ' h' k->own φ h k
theorem jt.refl (φ:PM) (h:HF) (w:World):jt φ φ h h w w:=⟨λ_ _ h=>h,Ja.refl _ _,λ_ _ h=>h⟩
theorem jt.trans {φ φ' φ'':PM} {h h' h'':HF} {w w' w'':World} (m:jt φ φ' h h' w w') (n:jt φ' φ'' h' h'' w' w''):jt φ φ'' h h'' w w'' where
 sub:=λi k e=>n.sub i k (m.sub i k e)
 ext:=⟨n.ext.os.trans m.ext.os,n.ext.tape.trans m.ext.tape,n.ext.output.trans m.ext.output,dy m.ext.size n.ext.size,
  λk hk a=>(n.ext.blk k (dK hk m.ext.size) (λh=>a (m.own_ k hk h))).trans (m.ext.blk k hk a),
  λk hk=>(n.ext.shp k (dK hk m.ext.size)).trans (m.ext.shp k hk)⟩
 own_:=λk hk h=>m.own_ k hk (n.own_ k (dK hk m.ext.size) h)
theorem Ja.mono {O O':Nat->Prop} {w w':World} (h:Ja O w w') (a:∀k,O k->O' k):Ja O' w w':=
 ⟨h.os,h.tape,h.output,h.size,λk hk hO=>h.blk k hk (λx=>hO (a k x)),h.shp⟩
theorem jt.keep {φ φ':PM} {h h':HF} {w w':World} (m:jt φ φ' h h' w w') {E:Nat->Prop} {x:AV} {v:Value} (r:cS φ (tot E φ h) w x v):cS φ' (tot E φ' h') w' x v:=
 r.ext m.sub (m.ext.mono λ_ h=>.inr h) λk hk a=>a.elim .inl λo=>.inr (m.own_ k hk o)
theorem jt.keepF {φ φ':PM} {h h':HF} {w w':World} (m:jt φ φ' h h' w w') {E:Nat->Prop} {x:FV} {v:Value} (r:oe (tot E φ h) w x v):oe (tot E φ' h') w' x v:=
 r.ext (m.ext.mono λ_ h=>.inr h) λk hk a=>a.elim .inl λo=>.inr (m.own_ k hk o)
abbrev EF:=Nat->I AV
def O1 (φ:PM) (O:Nat->Prop) (w:World) (e:EF) (a:Act):Prop:=∀t x,e t=M x->cS φ O w x (a.tmps.getD t undef)
def Dt (e:EF) (dst:I Nat) (x:AV):EF:=λt=>if dst=M t then M x else e t
def eZ (h:HF) (wr:ι) (nw:HF):HF:=λi=>if i∈wr then nw i else h i
structure Cf where
 val:AV
 rd:ι
 wr:ι
 nw:HF
 N:ι
def gZ (P:Program) (o:Oper) (e:EF) (h:HF) (f:Cf):Prop:=
 ∀(φ:PM) (E:Nat->Prop) (h':HF) (w:World) (a:Act),(∀i∈f.rd,h' i=h i)->(∀i∈f.wr,h' i=h i)->
  (∀t,.tmp t∈o.op.operands->∀y,e t=M y->cS φ (tot E φ h') w y (a.tmps.getD t undef))->rL φ E h' w->(∀n∈f.N,φ n=D)->
  o.wp P a w (λa' w'=>∃v φ',a'=a.put o.dst v/\jt φ φ' h' (eZ h' f.wr f.nw) w w'/\(∀i k,φ' i=M k->φ i=M k\/i∈f.N)/\
   rL φ' E (eZ h' f.wr f.nw) w'/\cS φ' (tot E φ' (eZ h' f.wr f.nw)) w' f.val v) (λ_ _ _=>False)
def sH:Cf:=⟨.f (.raw undef),[],[],λ_=>D,[]⟩
inductive LZ (P:Program) (ops:Array Oper) (o:Oper) (f:Cf) (e:EF) (h:HF):Prop
 |run (hg:o.guard=D) (ht:gZ P o e h f)
 |runG (j t:Nat) (want:Bool) (hg:o.guard=M (j,want)) (hj:(ops[j]?).bind (·.dst)=M t) (he:e t=M (.f (.raw (.bool want)))) (ht:gZ P o e h f)
 |skip (j t:Nat) (want:Bool) (hg:o.guard=M (j,want)) (hj:(ops[j]?).bind (·.dst)=M t) (v:Value) (he:e t=M (.f (.raw v))) (hv:v≠ .bool want) (hf:f=sH)
inductive AK (P:Program) (ops:Array Oper):List (Oper×Cf)->EF->HF->EF->HF->Prop
 |nil (e:EF) (h:HF):AK P ops [] e h e h
 |cons {o:Oper} {f:Cf} {r:List (Oper×Cf)} {e e':EF} {h h':HF} (hs:LZ P ops o f e h)
   (hr:AK P ops r (Dt e o.dst f.val) (eZ h f.wr f.nw) e' h'):AK P ops ((o,f)::r) e h e' h'
def Mk (S:Nat->Bool):Nat->Y (Oper×Cf)->EF->EF
 |_,[],e=>e
 |k,(o,f)::r,e=>Mk S (k+1) r (if S k then Dt e o.dst f.val else e)
def C9 (S:Nat->Bool):Nat->Y (Oper×Cf)->HF->HF
 |_,[],h=>h
 |k,(_,f)::r,h=>C9 S (k+1) r (if S k then eZ h f.wr f.nw else h)
theorem Fe {S S':Nat->Bool} {t:Nat}:∀(l:Y (Oper×Cf)) (k:Nat) (e e':EF),e t=e' t->
 (∀(j:Nat) o f,l[j]? =M (o,f)->o.dst=M t->S (k+j)=S' (k+j))->Mk S k l e t=Mk S' k l e' t
 |[],_,_,_,he,_=>he
 |(o,f)::r,k,e,e',he,a=>by
  simp only[Mk];refine Fe r (k+1) _ _ ?_ (λj o f hj hd=>by have:=a (j+1) o f (by simpa using hj) hd;rwa [show k+(j+1)=k+1+j from by omega]at this);by_cases hd:o.dst=M t
  .rw[show S k=S' k from by simpa using a 0 o f rfl hd];split
   .simp[Dt,hd]
   .exact he
  .split<;>split<;>simp[Dt,hd,he]
theorem Fd {S S':Nat->Bool} {t:Nat}:∀(l:Y (Oper×Cf)) (k:Nat) (e e':HF),e t=e' t->
 (∀(j:Nat) o f,l[j]? =M (o,f)->t∈f.wr->S (k+j)=S' (k+j))->C9 S k l e t=C9 S' k l e' t
 |[],_,_,_,he,_=>he
 |(o,f)::r,k,e,e',he,a=>by
  simp only[C9];refine Fd r (k+1) _ _ ?_ (λj o f hj hd=>by have:=a (j+1) o f (by simpa using hj) hd;rwa [show k+(j+1)=k+1+j from by omega]at this);by_cases hd:t∈f.wr
  .rw[show S k=S' k from by simpa using a 0 o f rfl hd];split
   .simp[eZ,hd]
   .exact he
  .split<;>split<;>simp[eZ,hd,he]
theorem Dk {S:Nat->Bool} {t:Nat}:∀(l:Y (Oper×Cf)) (k:Nat) (e:EF),(∀(j:Nat) o f,l[j]? =M (o,f)->o.dst=M t->S (k+j)=af)->Mk S k l e t=e t
 |[],_,_,_=>rfl
 |(o,f)::r,k,e,a=>by
  simp only[Mk];rw[Dk r (k+1) _ (λj o f hj hd=>by have:=a (j+1) o f (by simpa using hj) hd;rwa [show k+(j+1)=k+1+j from by omega]at this)];split
  .rename_i h;unfold Dt;rw[aw];intro hd;have:=a 0 o f rfl hd;simp_all
  .rfl
theorem Dj {S:Nat->Bool} {t:Nat}:∀(l:Y (Oper×Cf)) (k:Nat) (e:HF),(∀(j:Nat) o f,l[j]? =M (o,f)->t∈f.wr->S (k+j)=af)->C9 S k l e t=e t
 |[],_,_,_=>rfl
 |(o,f)::r,k,e,a=>by
  simp only[C9];rw[Dj r (k+1) _ (λj o f hj hd=>by have:=a (j+1) o f (by simpa using hj) hd;rwa [show k+(j+1)=k+1+j from by omega]at this)];split
  .rename_i h;unfold eZ;rw[aw];intro hd;have:=a 0 o f rfl hd;simp_all
  .rfl
theorem Ry {S:Nat->Bool} {t:Nat}:∀(l:Y (Oper×Cf)) (k i:Nat) (e:EF) (o:Oper) (f:Cf),l[i]? =M (o,f)->o.dst=M t->S (k+i)=J->
 (∀(j:Nat) o' f',i<j->l[j]? =M (o',f')->o'.dst=M t->S (k+j)=af)->Mk S k l e t=M f.val
 |[],_,_,_,_,_,h,_,_,_=>by simp at h
 |(o',f')::r,k,0,e,o,f,h,hd,a,hl=>by
  simp only[mb,ah,aE]at h;obtain⟨rfl,rfl⟩:=h;simp only[Mk];rw[Dk r (k+1) _ (λj o f hj hd=>by have:=hl (j+1) o f (by omega) (by simpa using hj) hd;rwa [show k+(j+1)=k+1+j from by omega]at this)];simp at a;simp[a,Dt,hd]
 |(o',f')::r,k,i+1,e,o,f,h,hd,a,hl=>by
  simp only[Mk];exact Ry r (k+1) i _ o f (by simpa using h) hd (by rwa [show k+1+i=k+(i+1) from by omega])
   (λj o f hij hj hd=>by have:=hl (j+1) o f (by omega) (by simpa using hj) hd;rwa [show k+(j+1)=k+1+j from by omega]at this)
theorem Rx {S:Nat->Bool} {t:Nat}:∀(l:Y (Oper×Cf)) (k i:Nat) (e:HF) (o:Oper) (f:Cf),l[i]? =M (o,f)->t∈f.wr->S (k+i)=J->
 (∀(j:Nat) o' f',i<j->l[j]? =M (o',f')->t∈f'.wr->S (k+j)=af)->C9 S k l e t=f.nw t
 |[],_,_,_,_,_,h,_,_,_=>by simp at h
 |(o',f')::r,k,0,e,o,f,h,hd,a,hl=>by
  simp only[mb,ah,aE]at h;obtain⟨rfl,rfl⟩:=h;simp only[C9];rw[Dj r (k+1) _ (λj o f hj hd=>by have:=hl (j+1) o f (by omega) (by simpa using hj) hd;rwa [show k+(j+1)=k+1+j from by omega]at this)];simp at a;simp[a,eZ,hd]
 |(o',f')::r,k,i+1,e,o,f,h,hd,a,hl=>by
  simp only[C9];exact Rx r (k+1) i _ o f (by simpa using h) hd (by rwa [show k+1+i=k+(i+1) from by omega])
   (λj o f hij hj hd=>by have:=hl (j+1) o f (by omega) (by simpa using hj) hd;rwa [show k+(j+1)=k+1+j from by omega]at this)
theorem AK.step {P:Program} {ops:Array Oper}:∀{l:Y (Oper×Cf)} {e e':EF} {h h':HF} (_:AK P ops l e h e' h') (k i:Nat) (o:Oper) (f:Cf),l[i]? =M (o,f)->
 LZ P ops o f (Mk (λj=>decide (j<k+i)) k l e) (C9 (λj=>decide (j<k+i)) k l h):=by
 intro l e e' h h' hc;induction hc with
 |nil=>intro k i o f hi;simp at hi
 |@cons o1 a r e e' h h' hs hr s=>
  intro k i o f hi;cases i with
  |zero=>
   simp only[mb,ah,aE]at hi;obtain⟨rfl,rfl⟩:=hi;have e1:Mk (λj=>decide (j<k+0)) k ((o1,a)::r) e=e:=by
    funext t;rw[Dk];intro j o f _ _;simp
   have e2:C9 (λj=>decide (j<k+0)) k ((o1,a)::r) h=h:=by
    funext t;rw[Dj];intro j o f _ _;simp
   rw[e1,e2];exact hs
  |succ i=>
   have:=s (k+1) i o f (by simpa using hi);simp only[Mk,C9];rw[show k+(i+1)=k+1+i from by omega];simpa[show k<k+1+i from by omega] using this
theorem AK.final {P:Program} {ops:Array Oper}:∀{l:Y (Oper×Cf)} {e e':EF} {h h':HF} (_:AK P ops l e h e' h') (k:Nat) (S:Nat->Bool),(∀j,j<l.length->S (k+j)=J)->
 Mk S k l e=e'/\C9 S k l h=h':=by
 intro l e e' h h' hc;induction hc with
 |nil=>intro k S _;exact⟨rfl,rfl⟩
 |@cons o1 z r e e' h h' hs hr s=>
  intro k S a;have h0:S k=J:=by simpa using a 0 (by simp)
  simp only[Mk,C9,h0,bI];exact s (k+1) S (λj hj=>by have:=a (j+1) (by simpa using hj);rwa [show k+(j+1)=k+1+j from by omega]at this)
theorem Rp {P:Program} {o:Oper} {a:Act} {w:World} {K K':Act->World->Prop} {Q:Exit->Act->World->Prop} (h:∀a w,K a w->K' a w)
 (hh:o.wp P a w K (λ_ _ _=>False)):o.wp P a w K' Q:=by
 unfold Iz at*
 generalize (execOp a.eval o).run P w=r at*
 cases r with
 |ok n w'=>
  cases n<;>simp only[Oper.upon]at hh ⊢<;>
   first
    |exact h _ _ hh
    |exact Calls.mono hh (λe w'' he=>by
      cases e with
      |returned v=>exact h _ _ he
      |panicked c=>exact he.elim
      |outgrown=>obtain⟨_,_,h⟩:=he;exact h.elim)
    |exact Rows.mono hh (λ_ _ he=>h _ _ he)
 |halt x w'=>cases x<;>simp only[Oper.upon]at hh ⊢<;>first|exact hh.elim|exact hh
inductive Bef (ops:Array Oper):Nat->Nat->Prop
 |one {j:Nat} {o:Oper} {e:Edge} (h:ops[j]? =M o) (he:e∈o.after) (hb:AL .any e=J):Bef ops j e.on
 |more {j i:Nat} {o:Oper} {e:Edge} (h:ops[j]? =M o) (he:e∈o.after) (hb:AL .any e=J) (hi:Bef ops e.on i):Bef ops j i
structure NIP (ops:Array Oper) (l:List (Oper×Cf)):Prop where
 edge:∀(j:Nat) o,ops[j]? =M o->∀e∈o.after,AL .any e=J->e.on<j
 pair:∀(i j:Nat) oi fi oj fj,i<j->l[i]? =M (oi,fi)->l[j]? =M (oj,fj)->Bef ops j i\/
  (oi.apart ops oj=J/\(∀x∈fi.wr,x∉fj.rd/\x∉fj.wr)/\(∀x∈fj.wr,x∉fi.rd))
 names:∀(i j:Nat) oi fi oj fj,i<j->l[i]? =M (oi,fi)->l[j]? =M (oj,fj)->∀n∈fi.N,n∉fj.N
def Gt (ops:Array Oper) (listed:Array Bool):Prop:=∀(j:Nat) o,ops[j]? =M o->listed.getD j af=J->∀e∈o.after,AL .any e=J->listed.getD e.on af=J
theorem Gt.bef {ops:Array Oper} {listed:Array Bool} (hc:Gt ops listed) {j i:Nat} (h:Bef ops j i):listed.getD j af=J->listed.getD i af=J:=by
 induction h with
 |one h he hb=>intro hj;exact hc _ _ h hj _ he hb
 |more h he hb hi a=>intro hj;exact a (hc _ _ h hj _ he hb)
theorem ZB {ops:Array Oper} {listed:Array Bool} (hc:Gt ops listed) {j i:Nat} {o:Oper} (a:ops[j]? =M o) (hr:∀e∈o.after,AL .any e=J->listed.getD e.on af=J) (h:Bef ops j i):listed.getD i af=J:=by
 cases h with
 |one h he hb=>rw[h]at a;cases a;exact hr _ he hb
 |more h he hb hi=>rw[h]at a;cases a;exact hc.bef hi (hr _ he hb)
theorem tN {listed:Array Bool} {j:Nat} (h:listed.getD j J=af):listed.getD j af=af/\j<listed.size:=by
 rcases ci j listed.size with h1|h1
 .simp[h1]at h ⊢;exact h
 .simp[Array.getElem?_eq_none h1]at h
def StP (φ0:PM) (E:Nat->Prop) (e0:EF) (h0:HF) (w0:World) (a0:Act) (l:Y (Oper×Cf)) (S:Nat->Bool) (a:Act) (w:World):Prop:=
 ∃φ,jt φ0 φ h0 (C9 S 0 l h0) w0 w/\(∀i k,φ i=M k->φ0 i=M k\/∃(j:Nat) (o:Oper) (f:Cf),S j=J/\l[j]? =M (o,f)/\i∈f.N)/\
  rL φ E (C9 S 0 l h0) w/\O1 φ (tot E φ (C9 S 0 l h0)) w (Mk S 0 l e0) a/\a.defers=a0.defers/\a.tmps.size=a0.tmps.size
theorem Js {a:Act} {dst:I Tmp} {v:Value} {t:Nat} (hd:∀d,dst=M d->d<a.tmps.size):(a.put dst v).tmps.getD t undef=if dst=M t then v else a.tmps.getD t undef:=by
 cases dst with
 |none=>simp[O9]
 |some d=>
  by_cases h:d=t
  .subst h;simp[O9,hd d rfl]
  .simp[O9,h,qC h]
theorem RP {a:Act} {dst:I Tmp} {v:Value}:(a.put dst v).tmps.size=a.tmps.size:=by cases dst<;>simp[O9]
theorem Jt {a:Act} {dst:I Tmp} {v:Value}:(a.put dst v).defers=a.defers:=by cases dst<;>rfl
theorem adh {P:Program} {ops:Array Oper} {l:Y (Oper×Cf)} {e0 e':EF} {h0 h':HF} {φ0:PM} {E:Nat->Prop} {w0:World} {a0:Act}
 (hl:l.map (·.1)=ops.toList) (hc:AK P ops l e0 h0 e' h') (ni:NIP ops l) (hfr:∀(j:Nat) o f,l[j]? =M (o,f)->∀n∈f.N,φ0 n=D)
 (hsz:∀(j:Nat) o,ops[j]? =M o->∀d,o.dst=M d->d<a0.tmps.size) {listed:Array Bool} (hcl:Gt ops listed) {i:Nat} (hi:i∈Iy .any ops listed) {Q:Exit->Act->World->Prop} {K:Act->World->Prop}
 (hK:∀a w,StP φ0 E e0 h0 w0 a0 l (λj=>(listed.setIfInBounds i J).getD j af) a w->K a w) {a:Act} {w:World} (hst:StP φ0 E e0 h0 w0 a0 l (λj=>listed.getD j af) a w):
 wpOp P ops Q i K a w:=by
 obtain⟨hun,o,ho,hdeps⟩:=mem_ready.1 hi;obtain⟨hnf,hlt⟩:=tN hun;have hln:∀(j:Nat) o',ops[j]? =M o'->∃f,l[j]? =M (o',f):=λj o' h=>by
  have h1:(l.map (·.1))[j]? =M o':=by rw[hl];simpa using h
  rw[bd]at h1;cases hj:l[j]? with
  |none=>rw[hj]at h1;cases h1
  |some p=>rw[hj]at h1;obtain⟨a,b⟩:=p;simp at h1;subst h1;exact⟨b,rfl⟩
 have hnl:∀(j:Nat) o' f,l[j]? =M (o',f)->ops[j]? =M o':=λj o' f h=>by
  have h1:(l.map (·.1))[j]? =M o':=by rw[bd,h];rfl
  rw[hl]at h1;simpa using h1
 obtain⟨f,hf⟩:=hln i o ho;have hord:∀(j:Nat) oj fj,j≠i->l[j]? =M (oj,fj)->(listed.getD j af=decide (j<i))\/
  (o.apart ops oj=J\/oj.apart ops o=J)/\(∀x∈f.wr,x∉fj.rd/\x∉fj.wr)/\(∀x∈fj.wr,x∉f.rd/\x∉f.wr):=by
  intro j oj fj hji hj;rcases ci j i with h|h
  .rcases ni.pair j i oj fj o f h hj hf with hb|⟨h1,h2,h3⟩
   .left;rw[ZB hcl ho hdeps hb];simp[h]
   .right;exact⟨.inr h1,λx s=>⟨h3 x s,λU=>(h2 x U).2 s⟩,λx s=>h2 x s⟩
  .have h:i<j:=by omega
   rcases ni.pair i j o f oj fj h hf hj with hb|⟨h1,h2,h3⟩
   .left;have:listed.getD j af=af:=by
     cases s:listed.getD j af with
     |false=>rfl
     |true=>have:=hcl.bef hb s;rw[hnf]at this;cases this
    rw[this];simp;omega
   .right;exact⟨.inl h1,λx s=>h2 x s,λx s=>⟨h3 x s,λU=>(h2 x U).2 s⟩⟩
 have A:∀j,(listed.setIfInBounds i J).getD j af=if j=i then J else listed.getD j af:=λj=>by
  by_cases h:i=j
  .subst h;simp[hlt]
  .rw[getD_set_ne af h,aw (λe=>h e.symm)]
 have hlater:∀(j:Nat) oj fj,i<j->l[j]? =M (oj,fj)->(listed.getD j af=af)\/((o.apart ops oj=J\/oj.apart ops o=J)/\(∀x∈f.wr,x∉fj.rd/\x∉fj.wr)):=by
  intro j oj fj hij hj;rcases hord j oj fj (by omega) hj with h|⟨h1,h2,_⟩
  .left;rw[h];simp;omega
  .right;exact⟨h1,h2⟩
 have hdd:∀{x y:Oper},(x.apart ops y=J\/y.apart ops x=J)->∀d,x.dst=M d->y.dst≠M d:=by
  intro x y h d hd he;rcases h with h|h
  .exact (Oper.apart_spec h).2.1 d hd he
  .exact (Oper.apart_spec h).2.1 d he hd
 have hlook:∀{x y:Oper},(x.apart ops y=J\/y.apart ops x=J)->∀d,y.dst=M d->d∉x.looksAt ops:=by
  intro x y h d hd;rcases h with h|h
  .exact (Oper.apart_spec h).2.2 d hd
  .exact (Oper.apart_spec h).1 d hd
 have heL:∀t,t∈o.looksAt ops->Mk (λj=>listed.getD j af) 0 l e0 t=Mk (λj=>decide (j<0+i)) 0 l e0 t:=λt ht=>by
  refine Fe l 0 e0 e0 rfl λj oj fj hj hd=>?_
  simp only[bK];by_cases hji:j=i
  .subst hji;rw[hnf];simp
  .rcases hord j oj fj hji hj with h|⟨h,_⟩
   .exact h
   .exact b8 ht (hlook h t hd)
 have hhL:∀t,t∈f.rd\/t∈f.wr->C9 (λj=>listed.getD j af) 0 l h0 t=C9 (λj=>decide (j<0+i)) 0 l h0 t:=λt ht=>by
  refine Fd l 0 h0 h0 rfl λj oj fj hj hd=>?_
  simp only[bK];by_cases hji:j=i
  .subst hji;rw[hnf];simp
  .rcases hord j oj fj hji hj with h|⟨_,_,h⟩
   .exact h
   .rcases ht with ht|ht
    .exact b8 ht (h t hd).1
    .exact b8 ht (h t hd).2
 have hE':∀t,Mk (λj=>(listed.setIfInBounds i J).getD j af) 0 l e0 t=if o.dst=M t then M f.val else Mk (λj=>listed.getD j af) 0 l e0 t:=λt=>by
  by_cases hd:o.dst=M t
  .rw[aC hd];refine Ry l 0 i e0 o f hf hd (by simp[A]) λj o' f' hij hj L=>?_
   simp only[bK,A,aw (show ¬j=i by omega)];rcases hlater j o' f' hij hj with h|⟨h,_⟩
   .exact h
   .exact b8 L (hdd h t hd)
  .rw[aw hd];refine Fe l 0 e0 e0 rfl λj oj fj hj L=>?_
   simp only[bK,A];rw[aw];intro hji;subst hji;rw[hf]at hj;cases hj;exact hd L
 have Z:C9 (λj=>(listed.setIfInBounds i J).getD j af) 0 l h0=eZ (C9 (λj=>listed.getD j af) 0 l h0) f.wr f.nw:=by
  funext t;unfold eZ;by_cases hd:t∈f.wr
  .rw[aC hd];refine Rx l 0 i h0 o f hf hd (by simp[A]) λj o' f' hij hj L=>?_
   simp only[bK,A,aw (show ¬j=i by omega)];rcases hlater j o' f' hij hj with h|⟨_,h⟩
   .exact h
   .exact b8 L (h t hd).2
  .rw[aw hd];refine Fd l 0 h0 h0 rfl λj oj fj hj L=>?_
   simp only[bK,A];rw[aw];intro hji;subst hji;rw[hf]at hj;cases hj;exact hd L
 obtain⟨φ,hm,hdom,hrep,henv,hdef,hsize⟩:=hst;have hfrN:∀n∈f.N,φ n=D:=λn hn=>by
  cases s:φ n with
  |none=>rfl
  |some k=>
   rcases hdom n k s with h|⟨j,oj,fj,hSj,hj,hnj⟩
   .rw[hfr i o f hf n hn]at h;cases h
   .have hji:j≠i:=by intro h;subst h;exact b8 hSj (by simp only[hnf];simp)
    rcases ci j i with h|h
    .exact b8 hn (ni.names j i oj fj o f h hj hf n hnj)
    .exact b8 hnj (ni.names i j o f oj fj (by omega) hf hj n hn)
 have hdsz:∀d,o.dst=M d->d<a.tmps.size:=λd hd=>by rw[hsize];exact hsz i o ho d hd
 have main:∀(v:Value) (φ':PM) (w':World),jt φ φ' (C9 (λj=>listed.getD j af) 0 l h0) (eZ (C9 (λj=>listed.getD j af) 0 l h0) f.wr f.nw) w w'->
  (∀i k,φ' i=M k->φ i=M k\/i∈f.N)->rL φ' E (eZ (C9 (λj=>listed.getD j af) 0 l h0) f.wr f.nw) w'->
  cS φ' (tot E φ' (eZ (C9 (λj=>listed.getD j af) 0 l h0) f.wr f.nw)) w' f.val v->K (a.put o.dst v) w':=by
  intro v φ' w' m1 d1 r1 v1;refine hK _ _ ⟨φ',?_,?_,?_,?_,?_,?_⟩
  .rw[Z];exact hm.trans m1
  .intro i' k h;rcases d1 i' k h with h|h
   .rcases hdom i' k h with h|⟨j,oj,fj,hSj,hj,hnj⟩
    .exact .inl h
    .refine .inr ⟨j,oj,fj,?_,hj,hnj⟩;show (listed.setIfInBounds i J).getD j af=J;rw[A j];split
     .rfl
     .exact hSj
   .exact .inr ⟨i,o,f,(A i).trans (by simp),hf,h⟩
  .rw[Z];exact r1
  .rw[Z];intro t x s;rw[hE' t]at s;rw[Js hdsz];by_cases hd:o.dst=M t
   .rw[aC hd]at s ⊢;cases s;exact v1
   .rw[aw hd]at s ⊢;exact m1.keep (henv t x s)
  .rw[Jt];exact hdef
  .rw[RP];exact hsize
 have hstep:=hc.step 0 i o f hf;have hrun:gZ P o (Mk (λj=>decide (j<0+i)) 0 l e0) (C9 (λj=>decide (j<0+i)) 0 l h0) f->o.wp P a w K Q:=by
  intro ht;refine Rp ?_ (ht φ E (C9 (λj=>listed.getD j af) 0 l h0) w a (λt h=>hhL t (.inl h)) (λt h=>hhL t (.inr h)) ?_ hrep hfrN)
  .rintro a' w' ⟨v,φ',rfl,m1,d1,r1,v1⟩;exact main v φ' w' m1 d1 r1 v1
  .intro t ht' y hy;refine henv t y ?_;rw[heL t (lV _ (List.mem_filterMap.2 ⟨.tmp t,by simpa using ht',rfl⟩))];exact hy
 have hyield:∀(j t:Nat) (want b:Bool),o.guard=M (j,want)->(ops[j]?).bind (·.dst)=M t->Mk (λj=>decide (j<0+i)) 0 l e0 t=M (.f (.raw (.bool b)))->iX o (yielded ops a.tmps)=(b==want):=by
  intro j t want b hg hj he;rw[<- heL t (ol _ (by rw[hg];simp[hj]))]at he;have h1:=henv t _ he;have h2:a.tmps.getD t undef= .bool b:=by
   generalize hz:a.tmps.getD t undef=z at h1;cases h1 with
   |f h=>cases h;rfl
  have h3:a.tmps[t]? =M (.bool b):=by
   rw[gW]at h2;cases hz:a.tmps[t]? with
   |none=>rw[hz]at h2;simp[undef]at h2
   |some z=>rw[hz]at h2;simp at h2;rw[h2]
  unfold iX yielded;rw[hg];simp[hj,h3]
 unfold wpOp;simp only[ho];cases hstep with
 |run hg ht=>
  rw[aC (by unfold iX;rw[hg])];exact .inl (hrun ht)
 |runG j t want hg hj he ht=>
  rw[aC (by rw[hyield j t want want hg hj he];simp)];exact .inl (hrun ht)
 |skip j t want hg hj v he hv hf'=>
  have hnw:iX o (yielded ops a.tmps)=af:=by
   rw[<- heL t (ol _ (by rw[hg];simp[hj]))]at he;have h1:=henv t _ he;have h2:a.tmps.getD t undef=v:=by
    generalize a.tmps.getD t undef=z at h1;cases h1 with
    |f h=>cases h;rfl
   unfold iX yielded;rw[hg];simp only[hj,aG];rw[gW]at h2;cases hz:a.tmps[t]? with
   |none=>simp
   |some z=>
    rw[hz]at h2;simp at h2;subst h2;cases z<;>simp at hv ⊢;exact hv
  rw[aw (by rw[hnw];simp)];subst hf';have hu:eZ (C9 (λj=>listed.getD j af) 0 l h0) sH.wr sH.nw=C9 (λj=>listed.getD j af) 0 l h0:=by
   funext t;simp[eZ,sH]
  refine main undef φ w ?_ (λ_ _ h=>.inl h) ?_ ?_
  .rw[hu];exact jt.refl _ _ _
  .rw[hu];exact hrep
  .exact .f (.raw _)
theorem aao {l:θ}:∀{i:Nat},l[i]? =M af->(l.set i J).countP id=l.countP id+1:=by
 induction l with
 |nil=>intro i h;simp at h
 |cons b l a=>
  intro i h;cases i with
  |zero=>simp at h;subst h;simp
  |succ i=>
   simp only[List.set_cons_succ,List.countP_cons];rw[a (by simpa using h)];omega
theorem Q3 {l:θ} (h:l.length<=l.countP id):∀(j:Nat),j<l.length->l[j]? =M J:=by
 have h1:l.countP id=l.length:=Nat.le_antisymm List.countP_le_length h;rw[List.countP_eq_length]at h1;intro j hj;rw[ay hj];simpa using h1 _ (vN hj)
theorem XK {ops:Array Oper} {l:Y (Oper×Cf)} (s:NIP ops l) {listed:Array Bool} (hs:listed.size=ops.size) (hr:Iy .any ops listed=[]):
 ∀(n j:Nat),j<n->j<ops.size->listed.getD j af=J:=by
 intro n;induction n with
 |zero=>intro j h;omega
 |succ n z=>
  intro j hj hjs;cases a:listed.getD j af with
  |true=>rfl
  |false=>
   exfalso;have hmem:j∈Iy .any ops listed:=by
    refine mem_ready.2 ⟨?_,ops[j],iC hjs,λe he hb=>?_⟩
    .have:j<listed.size:=by omega
     simp[this]at a ⊢;exact a
    .have h1:=s.edge j _ (iC hjs) e he hb;exact z e.on (by omega) (by omega)
   rw[hr]at hmem;cases hmem
theorem OV {P:Program} {ops:Array Oper} {l:Y (Oper×Cf)} {e0 e':EF} {h0 h':HF} {φ0:PM} {E:Nat->Prop} {w0:World} {a0:Act}
 (hl:l.map (·.1)=ops.toList) (hc:AK P ops l e0 h0 e' h') (z:NIP ops l) (hfr:∀(j:Nat) o f,l[j]? =M (o,f)->∀n∈f.N,φ0 n=D)
 (hsz:∀(j:Nat) o,ops[j]? =M o->∀d,o.dst=M d->d<a0.tmps.size) {Q:Exit->Act->World->Prop}
 (L:∀a w,StP φ0 E e0 h0 w0 a0 l (λ_=>J) a w->Q .normal a w):
 ∀(fuel:Nat) (listed:Array Bool) (a:Act) (w:World),listed.size=ops.size->Gt ops listed->ops.size<=fuel+listed.toList.countP id->
  StP φ0 E e0 h0 w0 a0 l (λj=>listed.getD j af) a w->wpAny P .any ops Q fuel listed a w:=by
 have hlen:l.length=ops.size:=by have:=hP ai hl;simpa using this
 have fin:∀(listed:Array Bool) (a:Act) (w:World),(∀j,j<ops.size->listed.getD j af=J)->StP φ0 E e0 h0 w0 a0 l (λj=>listed.getD j af) a w->Q .normal a w:=by
  intro listed a w hall hst;refine L a w ?_;have h1:=hc.final 0 (λj=>listed.getD j af) (λj hj=>by simp only[bK];exact hall j (by omega));have h2:=hc.final 0 (λ_=>J) (λ_ _=>rfl);unfold StP at hst ⊢;rw[h1.1,h1.2]at hst;rw[h2.1,h2.2];obtain⟨φ,m,d,r⟩:=hst;refine ⟨φ,m,λi k h=>?_,r⟩;rcases d i k h with h|⟨j,o,f,_,hj,hn⟩
  .exact .inl h
  .exact .inr ⟨j,o,f,rfl,hj,hn⟩
 intro fuel;induction fuel with
 |zero=>
  intro listed a w hs hcl hcnt hst;have hall:∀j,j<ops.size->listed.getD j af=J:=λj hj=>by
   have:=Q3 (l:=listed.toList) (by simp only[iM];omega) j (by simp only[iM];omega);rw[cD]at this;rw[gW,this];rfl
  refine ⟨?_,fin listed a w hall hst⟩;cases hr:Iy .any ops listed with
  |nil=>rfl
  |cons i r=>
   have hi:i∈Iy .any ops listed:=by rw[hr];simp
   obtain⟨hun,o,s,_⟩:=mem_ready.1 hi;have hnf:=(tN hun).1;rw[hall i (cH.1 s).1]at hnf;cases hnf
 |succ fuel A=>
  intro listed a w hs hcl hcnt hst;refine ⟨λhr=>fin listed a w (λj hj=>XK z hs hr (j+1) j (by omega) hj) hst,λi hi=>?_⟩;obtain⟨hun,o,s,hdeps⟩:=mem_ready.1 hi;obtain⟨hnf,hlt⟩:=tN hun;refine adh hl hc z hfr hsz hcl hi (λa' w' h=>A _ a' w' ?_ ?_ ?_ h) hst
  .simpa using hs
  .intro j oj hoj hj e he hb;by_cases hji:i=j
   .subst hji;rw[s]at hoj;cases hoj;exact getD_set_true (hdeps e he hb)
   .rw[getD_set_ne af hji]at hj;exact getD_set_true (hcl j oj hoj hj e he hb)
  .have h1:listed.toList[i]? =M af:=by
    rw[cD,iC hlt];simp[hlt]at hnf;rw[hnf]
   rw[Array.toList_setIfInBounds,aao h1];omega
def aso (φ0:PM) (E:Nat->Prop) (e':EF) (h0 h':HF) (N:ι) (w0:World) (a0:Act) (a:Act) (w:World):Prop:=
 ∃φ,jt φ0 φ h0 h' w0 w/\(∀i k,φ i=M k->φ0 i=M k\/i∈N)/\rL φ E h' w/\O1 φ (tot E φ h') w e' a/\a.defers=a0.defers/\a.tmps.size=a0.tmps.size
theorem jt.drew {φ:PM} {h:HF} (w:World):jt φ φ h h w {w with drawn:=w.drawn+1}:=
 ⟨λ_ _ h=>h,⟨rfl,rfl,rfl,bT _,λ_ _ _=>rfl,λ_ _=>rfl⟩,λ_ _ h=>h⟩
theorem rL.moved {φ:PM} {E:Nat->Prop} {h:HF} {w w':World} (r:rL φ E h w) (m:jt φ φ h h w w') (hk:∀k,own φ h k->w'.heap[k]? =w.heap[k]?):rL φ E h w':=
 ⟨r.inj,λi b hb=>by
   obtain⟨k,h1,h2,o,s,a⟩:=r.at_ i b hb;exact⟨k,h1,h2,o,by rw[hk k ⟨i,b,hb,h1⟩];exact s,a.mono λ_ _ h=>m.keep h⟩,λk hk=>dK (r.el k hk) m.ext.size,
   λg cells hg=>m.keepF (r.gl g cells hg)⟩
theorem RM {P:Program} {ops:Array Oper} {l:Y (Oper×Cf)} {e0 e':EF} {h0 h':HF} {φ0:PM} {E:Nat->Prop} {w0:World} {a0:Act} {id:Nat} {draw:Bool}
 (hm:P.follows .mixedOrders=J) (hl:l.map (·.1)=ops.toList) (hc:AK P ops l e0 h0 e' h') (s:NIP ops l) (hfr:∀n∈l.flatMap (λp=>p.2.N),φ0 n=D)
 (hsz:∀(j:Nat) o,ops[j]? =M o->∀d,o.dst=M d->d<a0.tmps.size) (hrep:rL φ0 E h0 w0) (henv:O1 φ0 (tot E φ0 h0) w0 e0 a0) {Q:Exit->Act->World->Prop}
 (U:∀a w,aso φ0 E e' h0 h' (l.flatMap (λp=>p.2.N)) w0 a0 a w->Q .normal a w):(Code.region id ops draw).wp P Q a0 w0:=by
 have hfr':∀(j:Nat) o f,l[j]? =M (o,f)->∀n∈f.N,φ0 n=D:=λj o f hj n hn=>hfr n (vM.2 ⟨(o,f),aZ hj,hn⟩)
 have fin:∀a w,StP φ0 E e0 h0 w0 a0 l (λ_=>J) a w->Q .normal a w:=by
  rintro a w ⟨φ,m,d,r,en,Z,sz⟩;have h2:=hc.final 0 (λ_=>J) (λ_ _=>rfl);rw[h2.2]at m r en;rw[h2.1]at en;refine U a w ⟨φ,m,λi k h=>?_,r,en,Z,sz⟩;rcases d i k h with h|⟨j,o,f,_,hj,hn⟩
  .exact .inl h
  .exact .inr (vM.2 ⟨(o,f),aZ hj,hn⟩)
 have st0:∀(w:World),jt φ0 φ0 h0 h0 w0 w->rL φ0 E h0 w->StP φ0 E e0 h0 w0 a0 l (λj=>(oZ ops.size af).getD j af) a0 w:=by
  intro w m r;have e1:(λj=>(oZ ops.size af).getD j af)=λ_=>af:=by
   funext j;rw[gW,Array.getElem?_replicate];split<;>rfl
  rw[e1];have e2:Mk (λ_=>af) 0 l e0=e0:=by funext t;rw[Dk];intros;rfl
  have e3:C9 (λ_=>af) 0 l h0=h0:=by funext t;rw[Dj];intros;rfl
  refine ⟨φ0,by rw[e3];exact m,λ_ _ h=>.inl h,by rw[e3];exact r,?_,rfl,rfl⟩;rw[e2,e3];exact λt x L=>m.keep (henv t x L)
 have cl0:Gt ops (oZ ops.size af):=by
  intro j o ho hj;rw[gW,Array.getElem?_replicate]at hj;split at hj<;>simp at hj
 cases draw with
 |true=>
  refine wp_region_any hm ?_;exact OV hl hc s hfr' hsz fin ops.size _ a0 _ (by simp) cl0 (by omega) (st0 _ (jt.drew w0) (hrep.moved (jt.drew w0) λ_ _=>rfl))
 |false=>
  have hany:=OV (E:=E) (w0:=w0) hl hc s hfr' hsz fin ops.size _ a0 w0 (by simp) cl0 (by omega) (st0 _ (jt.refl _ _ _) hrep);refine wp_region ?_;have key:∀(m k:Nat) (listed:Array Bool) (a:Act) (w:World),k+m=ops.size->listed.size=ops.size->(∀j,j<k->listed.getD j af=J)->(∀j,k<=j->j<ops.size->listed.getD j J=af)->
   wpAny P .any ops Q m listed a w->wpOps P ops Q (List.range' k m) a w:=by
   intro m;induction m with
   |zero=>intro k listed a w hk hs h1 h2 h;simpa[wpOps] using h.2
   |succ m A=>
    intro k listed a w hk hs h1 h2 h;rw[List.range'_succ,wpOps_cons];have hkr:k∈Iy .any ops listed:=by
     refine mem_ready.2 ⟨h2 k (bT _) (by omega),ops[k]'(by omega),iC (by omega),λe he hb=>?_⟩;exact h1 _ (s.edge k _ (iC (by omega)) e he hb)
    refine wpOp_mono (λa' w' h'=>A (k+1) (listed.setIfInBounds k J) a' w' (by omega) (by simpa using hs) ?_ ?_ h') (h.2 k hkr)
    .intro j hj;by_cases hjk:k=j
     .subst hjk;simp[show k<listed.size by omega]
     .rw[getD_set_ne af hjk];exact h1 j (by omega)
    .intro j hj z;rw[getD_set_ne J (by omega)];exact h2 j (by omega) z
  have:=key ops.size 0 (oZ ops.size af) a0 w0 (by omega) (by simp) (by intro j hj;omega) (by
   intro j _ hj;rw[gW,Array.getElem?_replicate,aC hj];rfl) hany
  rwa [List.range_eq_range']
inductive PT (α:Type) where
 |leaf
 |node (v:Option α) (l r:PT α)
namespace PT
variable {α:Type}
def get:PT α->Nat->I α
 |leaf,_=>D
 |node v l r,n=>match n with
  |0=>v
  |m+1=>if aB (m%2) 0 then get l (m/2) else get r (m/2)
def Pm:Nat->PT α->Nat->I α->PT α
 |0,t,_,_=>t
 |k+1,t,n,x=>match t with
  |leaf=>(match n with
   |0=>node x leaf leaf
   |m+1=>if aB (m%2) 0 then node D (Pm k leaf (m/2) x) leaf else node D leaf (Pm k leaf (m/2) x))
  |node v l r=>(match n with
   |0=>node x l r
   |m+1=>if aB (m%2) 0 then node v (Pm k l (m/2) x) r else node v l (Pm k r (m/2) x))
def set (t:PT α) (n:Nat) (x:I α):PT α:=Pm (n+1) t n x
theorem Af:∀(k:Nat) (t:PT α) (n:Nat) (x:I α),n<k->∀i,(Pm k t n x).get i=if i=n then x else t.get i
 |0,_,_,_,h,_=>b8 h (xP _)
 |k+1,t,n,x,h,i=>by
  cases n with
  |zero=>
   cases t<;>cases i<;>simp[Pm,get]
  |succ m=>
   have hm:m/2<k:=by have:=Nat.div_le_self m 2;omega
   cases t with
   |leaf=>
    simp only[Pm];cases hb:aB (m%2) 0 with
    |true=>
     have s:m%2=0:=ar hb;simp only[bI];cases i with
     |zero=>simp[get]
     |succ j=>
      simp only[get];cases hj:aB (j%2) 0 with
      |true=>
       have a:j%2=0:=ar hj;simp only[bI];rw[Af k _ _ _ hm];by_cases he:j/2=m/2
       .rw[aC he,aC (by omega)]
       .rw[aw he,aw (by omega)];rfl
      |false=>
       have a:¬j%2=0:=iv hj;simp only[cG,ec];rw[aw (by omega)]
    |false=>
     have s:¬m%2=0:=iv hb;simp only[cG,ec];cases i with
     |zero=>simp[get]
     |succ j=>
      simp only[get];cases hj:aB (j%2) 0 with
      |true=>
       have a:j%2=0:=ar hj;simp only[bI];rw[aw (by omega)]
      |false=>
       have a:¬j%2=0:=iv hj;simp only[cG,ec];rw[Af k _ _ _ hm];by_cases he:j/2=m/2
       .rw[aC he,aC (by omega)]
       .rw[aw he,aw (by omega)];rfl
   |node v l r=>
    simp only[Pm];cases hb:aB (m%2) 0 with
    |true=>
     have s:m%2=0:=ar hb;simp only[bI];cases i with
     |zero=>simp[get]
     |succ j=>
      simp only[get];cases hj:aB (j%2) 0 with
      |true=>
       have a:j%2=0:=ar hj;simp only[bI];rw[Af k _ _ _ hm];by_cases he:j/2=m/2
       .rw[aC he,aC (by omega)]
       .rw[aw he,aw (by omega)]
      |false=>
       have a:¬j%2=0:=iv hj;simp only[cG,ec];rw[aw (by omega)]
    |false=>
     have s:¬m%2=0:=iv hb;simp only[cG,ec];cases i with
     |zero=>simp[get]
     |succ j=>
      simp only[get];cases hj:aB (j%2) 0 with
      |true=>
       have a:j%2=0:=ar hj;simp only[bI];rw[aw (by omega)]
      |false=>
       have a:¬j%2=0:=iv hj;simp only[cG,ec];rw[Af k _ _ _ hm];by_cases he:j/2=m/2
       .rw[aC he,aC (by omega)]
       .rw[aw he,aw (by omega)]
theorem get_set (t:PT α) (n:Nat) (x:I α) (i:Nat):(t.set n x).get i=if i=n then x else t.get i:=Af (n+1) t n x (by omega) i
def mask {β:Type}:PT α->PT β->PT α
 |leaf,_=>leaf
 |node _ _ _,leaf=>leaf
 |node v l r,node u s a=>node (match u with|some _=>v|none=>D) (mask l s) (mask r a)
def mk:I α->PT α->PT α->PT α
 |none,leaf,leaf=>leaf
 |v,l,r=>node v l r
def only (m:Nat):Nat->Nat->PT α->PT α
 |_,_,leaf=>leaf
 |a,b,node v l r=>mk (if aO m b then v else D) (only m (2*a) (a+b) l) (only m (2*a) (2*a+b) r)
def exc (m:Nat):Nat->Nat->PT α->PT α
 |_,_,leaf=>leaf
 |a,b,node v l r=>mk (if aO m b then D else v) (exc m (2*a) (a+b) l) (exc m (2*a) (2*a+b) r)
def merge (m:Nat):Nat->Nat->PT α->PT α->PT α
 |a,b,leaf,t=>only m a b t
 |a,b,node v l r,leaf=>exc m a b (node v l r)
 |a,b,node v l r,node s A z=>mk (if aO m b then s else v) (merge m (2*a) (a+b) l A) (merge m (2*a) (2*a+b) r z)
def all (p:Nat->α->Bool):Nat->Nat->PT α->Bool
 |_,_,leaf=>J
 |a,b,node v l r=>(match v with|some x=>p b x|none=>J)&&all p (2*a) (a+b) l&&all p (2*a) (2*a+b) r
theorem get_all (p:Nat->α->Bool):∀(t:PT α) (a b i:Nat) (x:α),all p a b t=J->t.get i=M x->p (a*i+b) x=J
 |leaf,_,_,_,_,_,h=>by simp[get]at h
 |node v l r,a,b,0,x,h,s=>by
  simp only[get]at s;subst s;simp only[all,al]at h;rw[Nat.mul_zero,bK];exact h.1.1
 |node v l r,a,b,j+1,x,h,s=>by
  simp only[all,al]at h;simp only[get]at s;cases hj:aB (j%2) 0 with
  |true=>
   have z:j%2=0:=ar hj;simp only[hj,bI]at s;have key:=get_all p l _ _ _ x h.1.2 s;have:2*a*(j/2)+(a+b)=a*(j+1)+b:=by
    have e:j=2*(j/2):=by omega
    calc 2*a*(j/2)+(a+b)=a*(2*(j/2))+a+b:=by rw[IB 2 a,Nat.mul_assoc];omega
     _=a*(j+1)+b:=by rw[<- e,Nat.mul_add];omega
   rw[this]at key;exact key
  |false=>
   have z:¬j%2=0:=iv hj;simp only[hj,cG,ec]at s;have key:=get_all p r _ _ _ x h.2 s;have:2*a*(j/2)+(2*a+b)=a*(j+1)+b:=by
    have e:j=2*(j/2)+1:=by omega
    have h2:a*(j+1)=a*(2*(j/2))+2*a:=by
     calc a*(j+1)=a*(2*(j/2)+2):=by rw[show j+1=2*(j/2)+2 from by omega]
      _=a*(2*(j/2))+2*a:=by rw[Nat.mul_add];omega
    have A:2*a*(j/2)=a*(2*(j/2)):=by rw[IB 2 a,Nat.mul_assoc]
    omega
   rw[this]at key;exact key
def dom:Nat->Nat->PT α->Nat->Nat
 |_,_,leaf,acc=>acc
 |a,b,node v l r,acc=>dom (2*a) (a+b) l (dom (2*a) (2*a+b) r (match v with|some _=>acc|||(1<<<b)|none=>acc))
def emp:PT α:=leaf
end PT
abbrev AJ:=PT AV
abbrev oL:=PT wK
abbrev NW:=Y (Nat×wK)
def AJ.put (e:AJ):I Nat->AV->AJ
 |none,_=>e
 |some d,x=>e.set d (M x)
def jz:NW->HF
 |[],_=>D
 |(s,x)::r,t=>if aB s t then M x else jz r t
theorem ad7 (e:AJ) (d:I Nat) (x:AV):Dt e.get d x=(e.put d x).get:=by
 funext t;cases d with
 |none=>simp[Dt,AJ.put]
 |some d=>
  simp only[Dt,AJ.put,PT.get_set,ah];by_cases h:d=t
  .simp[h]
  .rw[aw h,aw (λe=>h e.symm)]
def I5 (acc:ι) (s:Nat) (e:Edge):Nat:=if AL .any e then (s|||2^e.on)|||acc.getD e.on 0 else s
def LP:Y Oper->ι->ι
 |[],acc=>acc
 |o::r,acc=>LP r (acc++[o.after.toList.foldl (I5 acc) 0])
theorem LQ {ops:Array Oper} {o:Oper} {k:Nat} {acc:ι} (z:ops[k]? =M o) (A:∀(j:Nat) B,acc[j]? =M B->∀i,B.testBit i=J->Bef ops j i):
 ∀(es:Y Edge) (s:Nat),(∀e∈es,e∈o.after)->(∀i,s.testBit i=J->Bef ops k i)->∀i,(es.foldl (I5 acc) s).testBit i=J->Bef ops k i
 |[],s,_,hs,i,hi=>hs i hi
 |e::r,s,he,hs,i,hi=>by
  refine LQ z A r (I5 acc s e) (λe' h'=>he e' (cC _ h')) (λi hi=>?_) i hi;unfold I5 at hi;split at hi
  .rename_i hb;rw[bu,bu,ji,ji]at hi;rcases hi with (hi|hi)|hi
   .exact hs i hi
   .rw[Nat.testBit_two_pow]at hi;have:e.on=i:=by simpa using hi
    subst this;exact .one z (he e (c9 ..)) hb
   .refine .more z (he e (c9 ..)) hb ?_;rw[av]at hi;cases a:acc[e.on]? with
    |none=>rw[a]at hi;simp at hi
    |some C=>rw[a]at hi;exact A _ C a i hi
  .exact hs i hi
theorem OU {ops:Array Oper}:∀(rest:Y Oper) (acc:ι),(∀(j:Nat),∀o,rest[j]? =M o->ops[acc.length+j]? =M o)->
 (∀(j:Nat) B,acc[j]? =M B->∀i,B.testBit i=J->Bef ops j i)->∀(j:Nat) B,(LP rest acc)[j]? =M B->∀i,B.testBit i=J->Bef ops j i
 |[],acc,_,a=>a
 |o::r,acc,s,a=>by
  refine OU r _ (λj o' hj=>?_) ?_
  .rw[bf,cX,show acc.length+1+j=acc.length+(j+1) from by omega];exact s (j+1) o' (by simpa using hj)
  .intro j B hj i hi;rcases ci j acc.length with h|h
   .rw[bU h]at hj;exact a j B hj i hi
   .rw[cj h]at hj;have z:j-acc.length=0:=by
     rcases Me (j-acc.length) with h0|h0
     .exact h0
     .rw[bF (by simp;omega)]at hj;cases hj
    have hjl:j=acc.length:=by omega
    subst hjl;simp at hj;subst hj;have hoo:ops[acc.length]? =M o:=by simpa using s 0 o rfl
    rw[<- Array.foldl_toList]at hi;exact LQ hoo a _ 0 (λe he=>by simpa using he) (λi hi=>by simp at hi) i hi
inductive SOp where
 |mv (x:Operand)
 |pick (c a b:Operand)
 |alloc (ty:TypeId) (z:ξ)
 |box (ty:TypeId) (x:Operand)
 |build (z:ξ) (parts:List (Nat×Nat×Operand))
 |bsl (ty:TypeId) (sz len:Nat) (z:ξ) (parts:List (Nat×Nat×Operand))
 |load (sz:Nat) (ag:Bool) (x:Operand)
 |store (sz:Nat) (x v:Operand)
 |nilc (x:Operand)
 |bin (op:BinOp) (x y:Operand)
 |eqs (neg:Bool) (ds:List TypeDesc) (x y:Operand)
 |isnil (neg:Bool) (x:Operand)
 |eqb (neg:Bool) (x y:Operand)
 |not (x:Operand)
 |conv (k:IntKind) (x:Operand)
 |mksl (ty:TypeId) (sz bytes:Nat) (z:ξ) (l c:Operand)
 |slc (sz:Nat) (x:Operand) (lo hi mx:Option Operand)
 |fad (off:Nat) (x:Operand)
 |fld (off sz:Nat) (ag:Bool) (x:Operand)
 |iad (sz:Nat) (x i:Operand)
 |iada (n sz:Nat) (x i:Operand)
 |idx (n sz:Nat) (ag:Bool) (x i:Operand)
 |ext (x:Operand) (i:Nat)
 |len (x:Operand)
 |lens (x:Operand)
 |lenm (x:Operand)
 |max (x y:Operand)
 |min (x y:Operand)
 |sidx (x i:Operand)
 |app (ty:TypeId) (sz bytes:Nat) (s x:Operand)
 |copy (sz:Nat) (d x:Operand)
 |clr (sz:Nat) (z:ξ) (x:Operand)
 |mkf (f:FuncId) (caps:List Operand)
 |mkm
 |lku (str ok:Bool) (z:Value) (x k:Operand)
 |mup (str:Bool) (x k v:Operand)
 |rng (x:Operand)
 |nxt (x:Operand)
 |bad
inductive SI where
 |op (s:SOp)
 |call (f:FuncId) (args:List Operand)
 |callv (x:Operand) (args:List Operand)
def VY (t:Nat):ι->Bool
 |[]=>af
 |x::r=>aB x t||VY t r
def LL:ξ->Bool
 |[]=>J
 |v::r=>v.oneCell'&&LL r
def F9:Value->AV
 |.agg vs=>if LL vs.toList then .agg (vs.toList.map λv=>.f (.raw v)) else .f (.raw (.agg vs))
 |v=>.f (.raw v)
def nl (e:AJ):Operand->I AV
 |.tmp t=>e.get t
 |.const v=>M (F9 v)
 |.func g=>M (.clo g [])
 |.global g=>match G g with|some cells=>M (.f (.ptr cells 0))|none=>D
def YY (e:AJ):Y Operand->I (Y AV)
 |[]=>M []
 |x::xs=>match nl e x with|some y=>(match YY e xs with|some a=>M (y::a)|none=>D)|none=>D
structure C5 where
 val:AV
 rd:ι
 wr:ι
 nw:NW
 N:ι
def C5.eff (r:C5):Cf:=⟨r.val,r.rd,r.wr,jz r.nw,r.N⟩
def rv (x:AV):I C5:=M ⟨x,[],[],[],[]⟩
def raw (v:Value):AV:=.f (.raw v)
def pkV (ok:Bool) (v:AV) (b:Bool):AV:=match ok with|true=>.tup [v,raw (.bool b)]|false=>v
def yI:Y AV->I (Y FV)
 |[]=>M []
 |.f x::r=>match yI r with|some l=>M (x::l)|none=>D
 |_::_=>D
def pZ (l:Y AV):BC:=match yI l with|some fs=>.fz fs|none=>.mx l
def NZ (l:Y AV):AV:=match yI l with|some fs=>.f (.agg fs)|none=>.agg l
def splice {α:Type} (l:Y α) (off:Nat) (vs:Y α):Y α:=l.take off++vs++l.drop (off+vs.length)
def BC.toMx:BC->Y AV
 |.fz l=>l.map .f
 |.mx l=>l
 |_=>[]
def gX:Y AV->Bool
 |[]=>J
 |x::r=>x.isCell&&gX r
def BC.put (c:BC) (off:Nat) (vs:Y AV):I BC:=
 if c.isCells&&eR (off+vs.length) c.len&&gX vs then
  match c,yI vs with
  |.fz l,M a=>M (.fz (splice l off a))
  |c,_=>M (.mx (splice c.toMx off vs))
 else D
def BC.sub? (c:BC) (off sz:Nat):Bool->I AV
 |false=>match sz with|1=>c.get off|_=>D
 |true=>match c with
  |.fz l=>if eR (off+sz) l.length then M (.f (.agg ((l.drop off).take sz))) else D
  |.mx l=>if eR (off+sz) l.length then M (.agg ((l.drop off).take sz)) else D
  |_=>D
def AV.cs:AV->Y AV
 |.agg l=>l
 |.f (.agg l)=>l.map .f
 |x=>[x]
def ES (h:oL) (sz:Nat) (ag:Bool):AV->I C5
 |.ptr id off=>match h.get id with
  |some b=>(match b.c.sub? off sz ag with|some v=>M ⟨v,[id],[],[],[]⟩|none=>D)
  |none=>D
 |.f (.ptr cells off)=>(match (BC.fz cells).sub? off sz ag with|some v=>rv v|none=>D)
 |_=>D
def LR (h:oL) (sz:Nat) (v:AV):AV->I C5
 |.ptr id off=>match h.get id with
  |some b=>if v.cs.length==sz then (match b.c.put off v.cs with|some c=>M ⟨raw undef,[id],[id],[(id,⟨b.ty,c⟩)],[]⟩|none=>D) else D
  |none=>D
 |_=>D
def Al (cells:Y AV) (e:AJ):Y (Nat×Nat×Operand)->I (Y AV)
 |[]=>M cells
 |(off,sz,x)::r=>match nl e x with
  |some v=>if v.cs.length==sz&&eR (off+sz) cells.length&&gX v.cs then Al (splice cells off v.cs) e r else D
  |none=>D
def c_ (a b:Int):Bool:=decide (a<=b)
def fP (a b:Int):Bool:=decide (a<b)
def ND (k:IntKind) (n:Int):Int:=
 match k with
 |.i64=>if c_ (-9223372036854775808) n&&c_ n 9223372036854775807 then n else pt .i64 n
 |.u8=>if c_ 0 n&&c_ n 255 then n else pt .u8 n
 |k=>pt k n
def nok:Int->Bool
 |.ofNat k=>aB k k
 |.negSucc k=>aB k k
theorem aps (n:Int):nok n=J:=by cases n<;>exact sF _
def bl (k:IntKind) (n:Int):Int:=bif nok n then ND k n else 0
theorem ID (k:IntKind) (n:Int):bl k n=ND k n:=by unfold bl;rw[aps];rfl
def sT (a b:ByteArray):Bool:=a.data.toList==b.data.toList
def uq (op:BinOp):Value->Value->I Value
 |.int k a,.int k' b=>if k==k' then
   match op with
   |.add=>M (.int k (bl k (a+b)))
   |.sub=>M (.int k (bl k (a-b)))
   |.mul=>M (.int k (bl k (a*b)))
   |.rem=>if b==0 then D else M (.int k (a.tmod b))
   |.quo=>if b==0 then D else M (.int k (bl k (a.tdiv b)))
   |.eql=>M (.bool (a==b))
   |.neq=>M (.bool (a !=b))
   |.lss=>M (.bool (fP a b))
   |.leq=>M (.bool (c_ a b))
   |.gtr=>M (.bool (fP b a))
   |.geq=>M (.bool (c_ b a))
   |_=>D
  else D
 |.string a,.string b=>match op with
   |.eql=>M (.bool (sT a b))
   |.neq=>M (.bool !(sT a b))
   |_=>D
 |_,_=>D
def yw:TypeDesc->FV->FV->I Bool
 |.int _,.raw (.int k a),.raw (.int k' b)=>if k==k' then M (a==b) else D
 |.bool,.raw (.bool a),.raw (.bool b)=>M (a==b)
 |.string,.raw (.string a),.raw (.string b)=>M (sT a b)
 |_,_,_=>D
def pE:Y TypeDesc->Y FV->Y FV->I Bool
 |[],[],[]=>M J
 |d::ds,x::xs,y::a=>match yw d x y with
  |some J=>pE ds xs a
  |some af=>M af
  |none=>D
 |_,_,_=>D
def AV.row? (h:oL) (sz:Nat):AV->I (Y AV×Nat×ι)
 |.f (.sl cells n)=>if eR (n*sz) cells.length then M ((cells.take (n*sz)).map .f,n,[]) else D
 |.f (.raw (.slice D 0 0))=>M ([],0,[])
 |.emp=>M ([],0,[])
 |.row id sz' n=>if sz'==sz then (match h.get id with|some b=>if b.c.isCells&&eR (n*sz) b.c.len then M (b.c.toMx.take (n*sz),n,[id]) else D|none=>D) else D
 |.sl id off n=>match h.get id with|some b=>if b.c.isCells&&eR (off+n*sz) b.c.len then M ((b.c.toMx.drop off).take (n*sz),n,[id]) else D|none=>D
 |_=>D
def AV.slen:AV->I Nat
 |.f (.sl _ n)=>M n
 |.f (.raw (.slice _ n _))=>M n
 |.emp=>M 0
 |.row _ _ n=>M n
 |.sl _ _ n=>M n
 |_=>D
def a8 (n bytes:Nat):Bool:=eR n 1099511627776&&eR (n*bytes) 1099511627776
def repl (z:ξ):Nat->Y FV
 |0=>[]
 |n+1=>z.map .raw++repl z n
def uk:Value->Bool
 |.slice D 0 0=>J
 |_=>af
def JX:AV->Bool
 |.emp=>J
 |.f (.raw v)=>uk v
 |_=>af
def ui (k:Value):Y (Value×AV)->I (I AV)
 |[]=>M D
 |(k',v)::r=>match uq .eql k k' with
  |some (.bool J)=>M (M v)
  |some (.bool af)=>ui k r
  |_=>D
def zX (k:Value) (v:AV):Y (Value×AV)->I (Y (Value×AV))
 |[]=>M [(k,v)]
 |(k',a)::r=>match uq .eql k k' with
  |some (.bool J)=>M ((k,v)::r)
  |some (.bool af)=>(match zX k v r with|some s=>M ((k',a)::s)|none=>D)
  |_=>D
def told (n:Int):Y (Value×AV)->I AV
 |(.int .i64 k,v)::r=>if k=n then M v else told n r
 |_=>D
def me (n:Int) (y:AV):Y (Value×AV)->Y (Value×AV)
 |[]=>[]
 |p::r=>(p.1,match p.1 with|.int .i64 k=>if k=n then y else p.2|_=>p.2)::me n y r
def zZ:Bool->Value->Bool
 |false,.int _ _=>J
 |true,.string _=>J
 |_,_=>af
def eP (s:SOp) (e:AJ) (h:oL) (nx:Nat):I C5:=
 match s with
 |.mv x=>match nl e x with|some v=>rv v|none=>D
 |.pick c a b=>match nl e c with
  |some (.f (.raw (.bool t)))=>(match nl e (if t then a else b) with|some v=>rv v|none=>D)
  |_=>D
 |.alloc ty z=>M ⟨.ptr nx 0,[],[nx],[(nx,⟨ty,.fz (z.map .raw)⟩)],[nx]⟩
 |.box ty x=>match nl e x with
  |some v=>if gX v.cs then M ⟨.ptr nx 0,[],[nx],[(nx,⟨ty,pZ v.cs⟩)],[nx]⟩ else D
  |none=>D
 |.build z parts=>match Al (z.map raw) e parts with|some cs=>rv (NZ cs)|none=>D
 |.bsl ty sz len z parts=>match Al ((repl z len).map .f) e parts with
  |some cs=>M ⟨if len=0 then .emp else .row nx sz len,[],[nx],[(nx,⟨ty,pZ cs⟩)],[nx]⟩
  |none=>D
 |.load sz ag x=>match nl e x with|some p=>ES h sz ag p|none=>D
 |.store sz x v=>match nl e x,nl e v with|some p,M y=>LR h sz y p|_,_=>D
 |.nilc x=>match nl e x with
  |some (.ptr id off)=>rv (.ptr id off)
  |some (.f (.ptr cells off))=>rv (.f (.ptr cells off))
  |some (.clo g cap)=>rv (.clo g cap)
  |_=>D
 |.bin op x y=>match nl e x,nl e y with
  |some (.f (.raw u)),M (.f (.raw v))=>(match uq op u v with|some r=>rv (raw r)|none=>D)
  |_,_=>D
 |.eqs neg ds x y=>match nl e x,nl e y with
  |some (.f (.agg a)),M (.f (.agg b))=>(match pE ds a b with|some r=>rv (raw (.bool (r !=neg)))|none=>D)
  |_,_=>D
 |.eqb neg x y=>match nl e x,nl e y with
  |some (.f (.raw (.bool a))),M (.f (.raw (.bool b)))=>rv (raw (.bool ((a==b) !=neg)))
  |_,_=>D
 |.isnil neg x=>match nl e x with
  |some (.row _ _ _)=>rv (raw (.bool neg))
  |some (.sl _ _ _)=>rv (raw (.bool neg))
  |some (.f (.sl _ (_+1)))=>rv (raw (.bool neg))
  |some (.f (.sl _ 0))=>rv .anyb
  |some .emp=>rv .anyb
  |some (.f (.raw v))=>if uk v then rv (raw (.bool !neg)) else D
  |_=>D
 |.not x=>match nl e x with|some (.f (.raw (.bool b)))=>rv (raw (.bool !b))|_=>D
 |.conv k x=>match nl e x with|some (.f (.raw (.int _ n)))=>rv (raw (.int k (bl k n)))|_=>D
 |.mksl ty sz bytes z l c=>match nl e l,nl e c with
  |some (.f (.raw (.int _ a))),M (.f (.raw (.int _ b)))=>
   if c_ 0 a&&c_ a b&&a8 b.toNat bytes then M ⟨.row nx sz a.toNat,[],[nx],[(nx,⟨ty,.fz (repl z a.toNat)⟩)],[nx]⟩ else D
  |_,_=>D
 |.slc sz x lo hi mx=>match nl e x with
  |some v=>match lo,hi,mx with
   |none,M (.const (.int _ 0)),M (.const (.int _ 0))=>if v.slen.isSome then rv .emp else D
   |none,M b,D=>match v,nl e b with
    |.row id sz' n,M (.f (.raw (.int _ j)))=>if sz'==sz&&c_ 0 j&&c_ j n then (match h.get id with
     |some blk=>if blk.c.isCells&&eR (n*sz) blk.c.len then M ⟨.row nx sz j.toNat,[id],[nx,id],[(nx,⟨blk.ty,pZ (blk.c.toMx.take (j.toNat*sz))⟩)],[nx]⟩ else D
     |none=>D) else D
    |.f (.sl cells n),M (.f (.raw (.int _ j)))=>if c_ 0 j&&c_ j n&&eR (n*sz) cells.length then rv (.f (.sl (cells.take (j.toNat*sz)) j.toNat)) else D
    |_,_=>D
   |some b,D,D=>match v,nl e b with
    |.row id sz' n,M (.f (.raw (.int _ j)))=>if sz'==sz&&c_ 0 j&&fP j n then rv (.sl id (j.toNat*sz) (n-j.toNat)) else D
    |.f (.sl cells n),M (.f (.raw (.int _ j)))=>if c_ 0 j&&c_ j n&&eR (n*sz) cells.length then rv (.f (.sl ((cells.drop (j.toNat*sz)).take ((n-j.toNat)*sz)) (n-j.toNat))) else D
    |_,_=>D
   |_,_,_=>D
  |none=>D
 |.fad off x=>match nl e x with
  |some (.ptr id o)=>rv (.ptr id (o+off))
  |some (.f (.ptr cells o))=>rv (.f (.ptr cells (o+off)))
  |_=>D
 |.fld off sz ag x=>match nl e x with
  |some (.agg l)=>(match (BC.mx l).sub? off sz ag with|some v=>rv v|none=>D)
  |some (.f (.agg l))=>(match (BC.fz l).sub? off sz ag with|some v=>rv v|none=>D)
  |_=>D
 |.iad sz x i=>match nl e x,nl e i with
  |some v,M (.f (.raw (.int _ j)))=>match v with
   |.row id sz' n=>if sz'==sz&&c_ 0 j&&fP j n then rv (.ptr id (j.toNat*sz)) else D
   |.sl id off n=>if c_ 0 j&&fP j n then rv (.ptr id (off+j.toNat*sz)) else D
   |.f (.sl cells n)=>if c_ 0 j&&fP j n then rv (.f (.ptr cells (j.toNat*sz))) else D
   |_=>D
  |_,_=>D
 |.iada n sz x i=>match nl e x,nl e i with
  |some v,M (.f (.raw (.int _ j)))=>if c_ 0 j&&fP j n then (match v with
   |.ptr id off=>rv (.ptr id (off+j.toNat*sz))
   |.f (.ptr cells off)=>rv (.f (.ptr cells (off+j.toNat*sz)))
   |_=>D) else D
  |_,_=>D
 |.idx n sz ag x i=>match nl e x,nl e i with
  |some v,M (.f (.raw (.int _ j)))=>if c_ 0 j&&fP j n then (match v with
   |.agg l=>(match (BC.mx l).sub? (j.toNat*sz) sz ag with|some v=>rv v|none=>D)
   |.f (.agg l)=>(match (BC.fz l).sub? (j.toNat*sz) sz ag with|some v=>rv v|none=>D)
   |_=>D) else D
  |_,_=>D
 |.ext x i=>match nl e x with|some (.tup l)=>(match l[i]? with|some v=>rv v|none=>D)|_=>D
 |.len x=>match nl e x with
  |some v=>(match v.slen with|some n=>rv (raw (.int .i64 n))|none=>D)
  |none=>D
 |.lens x=>match nl e x with
  |some (.f (.raw (.string s)))=>rv (raw (.int .i64 s.data.toList.length))
  |_=>D
 |.lenm x=>match nl e x with
  |some (.mp id)=>(match h.get id with|some ⟨0,.mp es⟩=>M ⟨raw (.int .i64 es.length),[id],[],[],[]⟩|_=>D)
  |_=>D
 |.max x y=>match nl e x,nl e y with
  |some (.f (.raw (.int k a))),M (.f (.raw (.int _ b)))=>rv (raw (.int k (if fP a b then b else a)))
  |_,_=>D
 |.min x y=>match nl e x,nl e y with
  |some (.f (.raw (.int k a))),M (.f (.raw (.int _ b)))=>rv (raw (.int k (if fP b a then b else a)))
  |_,_=>D
 |.sidx x i=>match nl e x,nl e i with
  |some (.f (.raw (.string s))),M (.f (.raw (.int _ j)))=>if c_ 0 j then (match s.data.toList[j.toNat]? with|some b=>rv (raw (.int .u8 b.toNat))|none=>D) else D
  |_,_=>D
 |.app ty sz bytes s x=>match nl e s,nl e x with
  |some b,M y=>match y.row? h sz with
   |some (src,m,rd)=>match b with
    |.row id sz' n=>match h.get id with
     |some blk=>if sz'==sz&& !(VY id rd)&&blk.c.isCells&&eR (n*sz) blk.c.len&&blk.ty==ty&&a8 (n+m) bytes then
       M ⟨.row nx sz (n+m),id::rd,[nx,id],[(nx,⟨ty,pZ (blk.c.toMx.take (n*sz)++src)⟩)],[nx]⟩ else D
     |none=>D
    |b=>if JX b&&a8 m bytes then
      (if m==0 then M ⟨b,rd,[],[],[]⟩ else M ⟨.row nx sz m,rd,[nx],[(nx,⟨ty,pZ src⟩)],[nx]⟩) else D
   |none=>D
  |_,_=>D
 |.copy sz d x=>match nl e d,nl e x with
  |some (.row id sz' n),M y=>(match h.get id,y.row? h sz with
   |some blk,M (src,m,rd)=>if sz'==sz&& !(VY id rd)&&eR (n*sz) blk.c.len then
     (match blk.c.put 0 (src.take (jg m n*sz)) with
     |some c=>M ⟨raw (.int .i64 (jg m n)),id::rd,[id],[(id,⟨blk.ty,c⟩)],[]⟩
     |none=>D) else D
   |_,_=>D)
  |_,_=>D
 |.clr _ z x=>match nl e x with
  |some (.sl id off n)=>(match h.get id with
   |some blk=>if gF 0 n then (match blk.c.put off ((repl z n).map .f) with
    |some c=>M ⟨.tup [],[id],[id],[(id,⟨blk.ty,c⟩)],[]⟩
    |none=>D) else D
   |none=>D)
  |_=>D
 |.mkf f caps=>match YY e caps with|some l=>rv (.clo f l)|none=>D
 |.mkm=>M ⟨.mp nx,[],[nx],[(nx,⟨0,.mp []⟩)],[nx]⟩
 |.lku str ok z x k=>match nl e x,nl e k with
  |some (.mp id),M (.f (.raw key))=>(match h.get id with
   |some ⟨0,.mp es⟩=>if zZ str key then (match ui key es with|some (M v)=>M ⟨pkV ok v J,[id],[],[],[]⟩|some D=>M ⟨pkV ok (raw z) af,[id],[],[],[]⟩|none=>D) else D
   |some ⟨_+1,.mp es⟩=>(match key with
    |.int .i64 n=>if !str&&(!ok&&uk z) then (match told n es with|some v=>M ⟨v,[id],[],[],[]⟩|none=>D) else D
    |_=>D)
   |_=>D)
  |_,_=>D
 |.mup str x k v=>match nl e x,nl e k,nl e v with
  |some (.mp id),M (.f (.raw key)),M y=>(match h.get id with
   |some ⟨0,.mp es⟩=>if zZ str key then (match zX key y es with|some es'=>M ⟨raw undef,[id],[id],[(id,⟨0,.mp es'⟩)],[]⟩|none=>D) else D
   |some ⟨ty+1,.mp es⟩=>(match key with
    |.int .i64 n=>if str then D else M ⟨raw undef,[id],[id],[(id,⟨ty+1,.mp (me n y es)⟩)],[]⟩
    |_=>D)
   |_=>D)
  |_,_,_=>D
 |.rng x=>match nl e x with
  |some (.f (.raw (.string s)))=>M ⟨.ptr nx 0,[],[nx],[(nx,⟨0,.it s 0⟩)],[nx]⟩
  |_=>D
 |.nxt x=>match nl e x with
  |some (.ptr id 0)=>(match h.get id with
   |some ⟨ty,.it s p⟩=>(match s.data.toList[p]? with
    |some b=>if gF b.toNat 128 then M ⟨.tup [raw (.bool J),raw (.int .i64 p),raw (.int .i32 b.toNat)],[id],[id],[(id,⟨ty,.it s (p+1)⟩)],[]⟩ else D
    |none=>M ⟨.tup [raw (.bool af)],[id],[id],[(id,⟨ty,.it s p⟩)],[]⟩)
   |_=>D)
  |_=>D
 |.bad=>D
structure tF where
 dst:Option Nat
 op:SI
 guard:Option (Nat×Bool)
inductive SC where
 |skip
 |reg (ops:List tF) (prs:List (Nat×Nat))
 |seq (a b:SC)
 |cond (c:Nat) (a b:SC)
 |block (id:Nat) (b:SC)
 |loop (b:SC)
 |exit (id:Nat)
 |ret
 |defer (f:FuncId) (caps:List Operand) (t:Nat)
 |bad
structure asn where
 val:AV
 h:oL
 nx:Nat
 wr:Nat
abbrev Zr:=FuncId->Y AV->oL->Nat->I asn
mutual
def AV.ids:AV->Nat->Nat
 |.ptr id _,acc=>acc|||(1<<<id)
 |.sl id _ _,acc=>acc|||(1<<<id)
 |.row id _ _,acc=>acc|||(1<<<id)
 |.mp id,acc=>acc|||(1<<<id)
 |.agg l,acc=>AV.idsL l acc
 |.tup l,acc=>AV.idsL l acc
 |.clo _ l,acc=>AV.idsL l acc
 |.f _,acc=>acc
 |.emp,acc=>acc
 |.anyb,acc=>acc
def AV.idsL:Y AV->Nat->Nat
 |[],acc=>acc
 |x::r,acc=>AV.idsL r (AV.ids x acc)
end
mutual
def AV.all (p:Nat->Bool):AV->Bool
 |.ptr id _=>p id
 |.sl id _ _=>p id
 |.row id _ _=>p id
 |.mp id=>p id
 |.agg l=>AV.allL p l
 |.tup l=>AV.allL p l
 |.clo _ l=>AV.allL p l
 |.f _=>J
 |.emp=>J
 |.anyb=>J
def AV.allL (p:Nat->Bool):Y AV->Bool
 |[]=>J
 |x::r=>AV.all p x&&AV.allL p r
end
def BC.ids:BC->Nat->Nat
 |.mx l,acc=>AV.idsL l acc
 |.mp es,acc=>AV.idsL (es.map (·.2)) acc
 |_,acc=>acc
def BC.all (p:Nat->Bool):BC->Bool
 |.mx l=>AV.allL p l
 |.mp es=>AV.allL p (es.map (·.2))
 |_=>J
def oL.all (p:Nat->Bool) (h:oL):Bool:=PT.all (λi b=>p i&&b.c.all p) 1 0 h
def Yq:Nat->oL->Nat->Nat->Nat
 |0,_,_,Ms=>Ms
 |n+1,h,todo,Ms=>
  if aB todo 0 then Ms else
  match Nat.log2 todo with
  |id=>if aO Ms id then Yq n h (todo ^^^ (1<<<id)) Ms else
   match h.get id with
   |some b=>Yq n h (b.c.ids (todo ^^^ (1<<<id))) (Ms|||(1<<<id))
   |none=>Yq n h (todo ^^^ (1<<<id)) Ms
section force
variable {α:Type}
def tP (n:Nat) (k:Nat->α):α:=match n with|0=>k 0|m+1=>k (m+1)
def frcI (n:Int) (k:Int->α):α:=match n with|.ofNat m=>tP m λm=>k (.ofNat m)|.negSucc m=>tP m λm=>k (.negSucc m)
def frcB (b:Bool) (k:Bool->α):α:=match b with|true=>k J|false=>k af
def frcV (v:Value) (k:Value->α):α:=match v with
 |.int kd n=>frcI n λn=>k (.int kd n)
 |.bool b=>frcB b λb=>k (.bool b)
 |v=>k v
def aq0 (x:FV) (k:FV->α):α:=match x with
 |.raw v=>frcV v λv=>k (.raw v)
 |.ptr cells off=>tP off λoff=>k (.ptr cells off)
 |.sl cells n=>tP n λn=>k (.sl cells n)
 |.agg l=>k (.agg l)
def aeo:Y FV->(Y FV->α)->α
 |[],k=>k []
 |x::r,k=>aq0 x λx=>aeo r λr=>k (x::r)
def apz (x:FV) (k:FV->α):α:=match x with
 |.agg l=>aeo l λl=>k (.agg l)
 |x=>aq0 x k
def akt (x:AV) (k:AV->α):α:=match x with
 |.f x=>apz x λx=>k (.f x)
 |.ptr id off=>tP id λid=>tP off λoff=>k (.ptr id off)
 |.sl id off n=>tP id λid=>tP off λoff=>tP n λn=>k (.sl id off n)
 |.row id sz n=>tP id λid=>tP sz λsz=>tP n λn=>k (.row id sz n)
 |.mp id=>tP id λid=>k (.mp id)
 |x=>k x
def S8:Y AV->(Y AV->α)->α
 |[],k=>k []
 |x::r,k=>akt x λx=>S8 r λr=>k (x::r)
def aq1 (x:AV) (k:AV->α):α:=match x with
 |.agg l=>S8 l λl=>k (.agg l)
 |.tup l=>S8 l λl=>k (.tup l)
 |.clo f l=>S8 l λl=>k (.clo f l)
 |x=>akt x k
def frcC (c:BC) (k:BC->α):α:=match c with
 |.fz l=>aeo l λl=>k (.fz l)
 |.mx l=>S8 l λl=>k (.mx l)
 |.it s p=>tP p λp=>k (.it s p)
 |.mp es=>k (.mp es)
def S7 {β:Type}:PT β->(PT β->α)->α
 |.leaf,k=>k .leaf
 |.node v l r,k=>(match v with
  |none=>λ(k:I β->α)=>k D
  |some x=>λk=>k (M x)) λv=>S7 l λl=>S7 r λr=>k (.node v l r)
def Vu {β:Type}:Nat->PT β->Nat->I β->(PT β->α)->α
 |0,t,_,_,k=>k t
 |f+1,t,n,x,k=>match t with
  |.leaf=>(match n with
   |0=>k (.node x .leaf .leaf)
   |m+1=>if aB (m%2) 0 then tP (m/2) λq=>Vu f .leaf q x λu=>k (.node D u .leaf) else tP (m/2) λq=>Vu f .leaf q x λu=>k (.node D .leaf u))
  |.node v l r=>(match n with
   |0=>k (.node x l r)
   |m+1=>if aB (m%2) 0 then tP (m/2) λq=>Vu f l q x λu=>k (.node v u r) else tP (m/2) λq=>Vu f r q x λu=>k (.node v l u))
theorem Qh {β:Type}:∀(x:PT β) (k:PT β->α),S7 x k=k x
 |.leaf,_=>rfl
 |.node v l r,k=>by cases v<;>simp only[S7,Qh l,Qh r]
end force
structure IS where
 e:AJ
 h:oL
 nx:Nat
 wr:Nat
structure alf where
 val:AV
 rd:Nat
 wr:Nat
 h:oL
 nx:Nat
def bits:ι->Nat->Nat
 |[],acc=>acc
 |x::r,acc=>bits r (acc|||(1<<<x))
def alu {α:Type} (h:oL) (nw:NW):ι->(oL->α)->α
 |[],k=>k h
 |i::r,k=>match jz nw i with
  |none=>Vu (i+1) h i D λh=>alu h nw r k
  |some ⟨ty,c⟩=>frcC c λc=>Vu (i+1) h i (M ⟨ty,c⟩) λh=>alu h nw r k
def al2 (call:Zr) (f:FuncId) (args:Y AV) (h:oL) (nx:Nat):I alf:=
 tP (Yq 1000000 h (AV.idsL args 0) 0) λids=>S7 (PT.only ids 1 0 h) λhc=>
 if AV.allL (gF · nx) args&&oL.all (gF · nx) hc then
  match call f args hc nx with
  |some ⟨val,h',nx',wr⟩=>aq1 val λval=>tP nx' λnx'=>tP wr λwr=>S7 (PT.merge wr 1 0 h h') λhm=>M ⟨val,ids,wr,hm,nx'⟩
  |none=>D
 else D
def opA (call:Zr) (o:SI) (e:AJ) (h:oL) (nx:Nat):I alf:=
 match o with
 |.call f args=>match YY e args with|some l=>al2 call f l h nx|none=>D
 |.callv x args=>match nl e x,YY e args with|some (.clo f cap),M l=>al2 call f (l++cap) h nx|_,_=>D
 |.op o=>match eP o e h nx with
  |some ⟨val,rd,wr,nw,N⟩=>aq1 val λval=>tP (bits rd 0) λrd=>tP (bits wr 0) λa=>tP (nx+N.length) λnx'=>alu h nw wr λh=>M ⟨val,rd,a,h,nx'⟩
  |none=>D
def aph (e:AJ):I (Nat×Bool)->I Bool
 |none=>M J
 |some (t,want)=>match e.get t with
  |some (.f (.raw (.bool b)))=>M (b==want)
  |some (.f (.raw (.tuple _)))=>M af
  |_=>D
def am5 {α:Type} (e:AJ) (dst:I Nat) (v:AV) (k:AJ->α):α:=match dst with
 |none=>k e
 |some d=>Vu (d+1) e d (M v) k
structure FPm where
 rd:Nat
 wr:Nat
def Vy (call:Zr):Y tF->IS->I (IS×Y FPm)
 |[],s=>M (s,[])
 |o::r,⟨e,h,nx,wr⟩=>
  match aph e o.guard with
  |some J=>(match opA call o.op e h nx with
   |some ⟨val,rd,w,h',nx'⟩=>am5 e o.dst val λe'=>tP (wr|||w) λwr'=>(match Vy call r ⟨e',h',nx',wr'⟩ with
    |some (s',fs)=>M (s',⟨rd,w⟩::fs)
    |none=>D)
   |none=>D)
  |some af=>am5 e o.dst (raw undef) λe'=>(match Vy call r ⟨e',h,nx,wr⟩ with
   |some (s',fs)=>M (s',⟨0,0⟩::fs)
   |none=>D)
  |none=>D
def aa1:Y FPm->Nat->I FPm
 |[],_=>D
 |f::_,0=>M f
 |_::r,n+1=>aa1 r n
def Ey (a b:Nat):Bool:=aB (a&&&b) 0
def GD (fs:Y FPm):Y (Nat×Nat)->Bool
 |[]=>J
 |(i,j)::r=>(match aa1 fs i,aa1 fs j with
  |some a,M b=>Ey a.wr b.rd&&Ey a.wr b.wr&&Ey b.wr a.rd
  |_,_=>af)&&GD fs r
inductive Ex where
 |normal
 |exit (id:Nat)
 |ret
def akq (body:IS->I (Ex×IS)) (e0:AJ):Nat->IS->I (Ex×IS)
 |0,_=>D
 |n+1,s=>match body s with
  |some (.normal,⟨e,h,nx,wr⟩)=>S7 (PT.mask e e0) λe=>akq body e0 n ⟨e,h,nx,wr⟩
  |r=>r
def run (call:Zr) (inert:FuncId->Bool) (fuel:Nat):SC->IS->I (Ex×IS)
 |.skip,s=>M (.normal,s)
 |.reg ops prs,s=>match Vy call ops s with
  |some (s',fs)=>if GD fs prs then M (.normal,s') else D
  |none=>D
 |.seq a b,s=>match run call inert fuel a s with
  |some (.normal,s')=>run call inert fuel b s'
  |r=>r
 |.cond c a b,s=>match s.e.get c with
  |some (.f (.raw (.bool J)))=>run call inert fuel a s
  |some (.f (.raw (.bool af)))=>run call inert fuel b s
  |_=>D
 |.block id b,s=>match run call inert fuel b s with
  |some (.exit i,s')=>if aB i id then M (.normal,s') else M (.exit i,s')
  |r=>r
 |.loop b,s=>akq (run call inert fuel b) s.e fuel s
 |.exit id,s=>M (.exit id,s)
 |.ret,s=>M (.ret,s)
 |.defer f caps t,⟨e,h,nx,wr⟩=>match YY e caps with
  |some l=>if inert f then am5 e (M t) (.clo f l) λe'=>M (.normal,⟨e',h,nx,wr⟩) else D
  |none=>D
 |.bad,_=>D
inductive RV where
 |tmp (t:Nat)
 |cell (a:Nat) (sz:Nat) (ag:Bool)
structure SF where
 code:SC
 res:List RV
 nt:Nat
def Fb:Y AV->AV
 |[x]=>x
 |l=>.tup l
def amt:Value->Value->Bool
 |.bool a,.bool b=>a==b
 |.int k a,.int k' b=>k==k'&&a==b
 |.string a,.string b=>sT a b
 |.slice D n c,.slice D s c'=>aB n s&&aB c c'
 |.pointer D,.pointer D=>J
 |.tuple a,.tuple b=>a.isEmpty&&b.isEmpty
 |_,_=>af
def fI (P:Program) (t:TypeId):I Nat:=(P.info? t).map (·.size)
def Gf (P:Program) (t:TypeId):I Nat:=(P.info? t).map (·.bytes)
def tW (P:Program) (t:TypeId):I ξ:=((P.info? t).bind (·.zero)).map (·.cells.toList)
def EU (P:Program) (t:TypeId):I Bool:=(P.underlying t).map λ|.struct _=>J|.array _ _=>J|_=>af
def BL (P:Program) (t:TypeId):I TypeId:=match P.underlying t with|some (.slice e)=>M e|_=>D
def Cp (P:Program) (t:TypeId) (i:Nat):I (Nat×Nat):=match P.underlying t with
 |some (.struct fs)=>(fs[i]?).bind λf=>(fI P f.type).map (f.offset,·)
 |some (.array _ el)=>(fI P el).map λs=>(i*s,s)
 |some (.slice el)=>(fI P el).map λs=>(i*s,s)
 |_=>D
def xZ (P:Program) (t:TypeId):Y (Nat×Operand)->I (Y (Nat×Nat×Operand))
 |[]=>M []
 |(i,x)::r=>match Cp P t i,xZ P t r with|some (o,s),M l=>M ((o,s,x)::l)|_,_=>D
def m_ (z:ξ):Bool:=z.all λv=>v.oneCell'
def Jw:TypeDesc->Bool
 |.int _=>J
 |.bool=>J
 |.string=>J
 |_=>af
def sI (P:Program):Nat→Y Field→I (Y TypeDesc)
 |_,[]=>M []
 |k,f::r=>match P.underlying f.type,sI P (k+1) r with
  |some d,M ds=>if f.name != "_" &&f.offset==k&&Jw d then M (d::ds) else D
  |_,_=>D
def adb (P:Program) (t:TypeId):I (Y TypeDesc):=match P.underlying t with
 |some (.struct fs)=>if P.stoodInHeld t then D else sI P 0 fs.toList
 |_=>D
def Up (P:Program) (c:Call):I SOp:=
 match c.callee with
 |.builtin .len=>(match c.args.toList,c.argTypes.toList with
  |[x],[t]=>(match P.underlying t with
   |some (.slice _)=>M (.len x)
   |some .string=>M (.lens x)
   |some (.map _ _)=>M (.lenm x)
   |_=>D)
  |_,_=>D)
 |.builtin .max=>(match c.args.toList with
  |[x,y]=>M (.max x y)
  |_=>D)
 |.builtin .min=>(match c.args.toList with
  |[x,y]=>M (.min x y)
  |_=>D)
 |.builtin .copy=>(match c.args.toList,c.argTypes.toList with
  |[d,x],[t,u]=>(match BL P t,BL P u with
   |some el,M _=>(fI P el).bind λsz=>if sz !=0 then M (.copy sz d x) else D
   |_,_=>D)
  |_,_=>D)
 |.builtin .clear=>(match c.args.toList,c.argTypes.toList with
  |[x],[t]=>(BL P t).bind λel=>(tW P el).bind λz=>(fI P el).bind λsz=>if m_ z&&z.length==sz&&sz !=0 then M (.clr sz z x) else D
  |_,_=>D)
 |.builtin .append=>(match c.args.toList,c.argTypes.toList with
  |[s,x],[t,u]=>(match BL P t,BL P u with
   |some el,M _=>(fI P el).bind λsz=>(Gf P el).bind λb=>(tW P el).bind λz=>if sz !=0&&z.length==sz then M (.app el sz b s x) else D
   |_,_=>D)
  |_,_=>D)
 |_=>D
def dE (P:Program):Op->I SOp
 |.move x=>M (.mv x)
 |.assign x=>M (.mv x)
 |.pick c a b=>M (.pick c a b)
 |.alloc t=>(tW P t).bind λz=>if m_ z then M (.alloc t z) else D
 |.box t x=>M (.box t x)
 |.build t ps=>match P.underlying t with
  |some (.struct fs)=>(tW P t).bind λz=>if m_ z&&(fs.toList.all λf=>(fI P f.type).isSome) then (xZ P t ps.toList).map (.build z) else D
  |some (.array _ el)=>(tW P t).bind λz=>if m_ z&&(fI P el).isSome then (xZ P t ps.toList).map (.build z) else D
  |_=>D
 |.buildSlice t n ps=>(BL P t).bind λel=>(tW P el).bind λz=>(fI P el).bind λsz=>if m_ z&&z.length==sz&&eR (n*sz) 65536&&sz !=0 then (xZ P t ps.toList).map (.bsl el sz n z) else D
 |.load t x=>(fI P t).bind λsz=>(EU P t).map λag=>.load sz ag x
 |.store t x v=>(fI P t).map λsz=>.store sz x v
 |.nilCheck x=>M (.nilc x)
 |.binOp op t x y _=>match P.underlying t with
  |some (.int _)|some .string=>M (.bin op x y)
  |some .bool=>(match op with|.eql=>M (.eqb af x y)|.neq=>M (.eqb J x y)|_=>D)
  |some (.slice _)=>(match op,y with
   |.eql,.const (.slice D 0 0)=>M (.isnil af x)
   |.neq,.const (.slice D 0 0)=>M (.isnil J x)
   |_,_=>D)
  |some (.struct _)=>(adb P t).bind λds=>(match op with|.eql=>M (.eqs af ds x y)|.neq=>M (.eqs J ds x y)|_=>D)
  |_=>D
 |.unOp .not _ x=>M (.not x)
 |.unOp .neg t x=>match P.underlying t with|some (.int k)=>M (.bin .sub (.const (.int k 0)) x)|_=>D
 |.convert s d x=>match P.underlying s,P.underlying d with|some (.int _),M (.int k)=>M (.conv k x)|_,_=>D
 |.makeSlice t l c=>(BL P t).bind λel=>(tW P el).bind λz=>(fI P el).bind λsz=>(Gf P el).bind λb=>if m_ z&&z.length==sz&&sz !=0 then M (.mksl el sz b z l c) else D
 |.slice t x lo hi mx=>(BL P t).bind λel=>(fI P el).map λsz=>.slc sz x lo hi mx
 |.fieldAddr t x k=>match P.underlying t with
  |some (.struct fs)=>(fs[k]?).bind λf=>(fI P f.type).bind λsz=>if sz !=0 then M (.fad f.offset x) else D
  |_=>D
 |.field t x k=>match P.underlying t with
  |some (.struct fs)=>(fs[k]?).bind λf=>(fI P f.type).bind λsz=>(EU P f.type).map λag=>.fld f.offset sz ag x
  |_=>D
 |.indexAddr t x i=>match P.underlying t with
  |some (.slice el)=>(fI P el).map λsz=>.iad sz x i
  |some (.array n el)=>(fI P el).map λsz=>.iada n sz x i
  |_=>D
 |.index t x i=>match P.underlying t with
  |some (.array n el)=>(fI P el).bind λsz=>(EU P el).map λag=>.idx n sz ag x i
  |some .string=>M (.sidx x i)
  |_=>D
 |.extract x i=>M (.ext x i)
 |.makeFunc (.func f) first caps=>if first.isEmpty then M (.mkf f caps.toList) else D
 |.makeMap t D=>match P.underlying t with|some (.map _ _)=>M .mkm|_=>D
 |.lookup t x k ok=>match P.underlying t with
  |some (.map A el)=>(match P.underlying A,(P.info? el).bind (·.zero) with
   |some (.int _),M z=>if z.oneCell' then M (.lku af ok z x k) else D
   |some .string,M z=>if z.oneCell' then M (.lku J ok z x k) else D
   |_,_=>D)
  |_=>D
 |.mapUpdate t m k v=>match P.underlying t with
  |some (.map A _)=>(match P.underlying A with
   |some (.int _)=>M (.mup af m k v)
   |some .string=>M (.mup J m k v)
   |_=>D)
  |_=>D
 |.range t x=>match P.underlying t with|some .string=>M (.rng x)|_=>D
 |.next x J=>M (.nxt x)
 |.call c=>Up P c
 |_=>D
def QX:Op->I SI
 |.call c=>(match c.callee with
  |.value (.func f)=>M (.call f c.args.toList)
  |.value (.tmp t)=>M (.callv (.tmp t) c.args.toList)
  |_=>D)
 |_=>D
def zn (P:Program) (op:Op):SI:=match QX op with
 |some i=>i
 |none=>(match dE P op with|some s=>.op s|none=>.op .bad)
def SOp.still:SOp->Bool
 |.mv _|.pick _ _ _|.build _ _|.nilc _|.bin _ _ _|.eqs _ _ _ _|.isnil _ _|.eqb _ _ _|.not _|.conv _ _|.fad _ _|.fld _ _ _ _|.iad _ _ _|.iada _ _ _ _|.idx _ _ _ _ _|.ext _ _|.max _ _|.min _ _|.sidx _ _|.mkf _ _|.bad=>J
 |_=>af
def SI.still:SI->Bool
 |.op s=>s.still
 |_=>af
def sS (P:Program) (ops:Array Oper):Y Oper->I (Y tF)
 |[]=>M []
 |o::r=>match sS P ops r with
  |some l=>(match o.guard with
   |none=>M (⟨o.dst,zn P o.op,D⟩::l)
   |some (j,want)=>(match (ops[j]?).bind (·.dst) with
    |some t=>M (⟨o.dst,zn P o.op,M (t,want)⟩::l)
    |none=>D))
  |none=>D
def NT (ops:Array Oper) (l:Y tF):I (Y (Nat×Nat)):=
 let B:=LP ops.toList []
 if (cq ops.size).all λj=>((ops[j]?).all λoj=>oj.after.toList.all λe=> !AL .any e||decide (e.on<j))&&
     (cq j).all λi=>aO (B.getD j 0) i||(match ops[i]?,ops[j]? with|some oi,M oj=>oi.apart ops oj|_,_=>af)
 then M ((cq ops.size).flatMap λj=>(cq j).filterMap λi=>
  if aO (B.getD j 0) i||(match l[i]?,l[j]? with|some a,M b=>a.op.still||b.op.still|_,_=>af) then D else M (i,j))
 else D
def EB (ops:Array Oper) (a:Bool):I (FuncId×Y Operand×Nat):=match ops.toList,a with
 |[p,q],af=>(match p.op,p.guard,p.dst,q.op,q.guard,q.dst with
  |.makeFunc (.func f) first caps,D,M t,.defer c,D,D=>(match c.callee,c.args.toList with
   |.value (.tmp t'),[]=>if aB t t'&&first.isEmpty then M (f,caps.toList,t) else D
   |_,_=>D)
  |_,_,_,_,_,_=>D)
 |_,_=>D
def cB (P:Program) (nt:Nat):Code->SC
 |.skip=>.skip
 |.region _ ops s=>if ops.toList.all λo=>match o.dst with|some d=>decide (d<nt)|none=>J then
   (match EB ops s with
   |some (f,caps,t)=>.defer f caps t
   |none=>(match sS P ops ops.toList with
    |some l=>(match NT ops l with|some prs=>.reg l prs|none=>.bad)
    |none=>.bad)) else .bad
 |.seq a b=>.seq (cB P nt a) (cB P nt b)
 |.cond (.tmp c) a b=>.cond c (cB P nt a) (cB P nt b)
 |.cond (.const (.bool J)) a _=>cB P nt a
 |.cond (.const (.bool af)) _ b=>cB P nt b
 |.block id b=>.block id (cB P nt b)
 |.loop b=>.loop (cB P nt b)
 |.exit id=>.exit id
 |.ret=>.ret
 |_=>.bad
def wj (P:Program):Y ResultVar->I (Y RV)
 |[]=>M []
 |.tmp t::r=>match wj P r with|some l=>M (.tmp t::l)|none=>D
 |.cell a t::r=>match wj P r,fI P t,EU P t with|some l,M sz,M ag=>M (.cell a sz ag::l)|_,_,_=>D
def AB (P:Program) (f:FuncId):I SF:=
 match P.funcs[f]? with
 |some fn=>if fn.name== "runtime.NumGoroutine" then D else (match fn.body,wj P fn.results.toList with
  |some c,M r=>M ⟨cB P fn.ntmps c,r,fn.ntmps⟩
  |_,_=>D)
 |none=>D
inductive Xp where
 |mk (op n:Int) (name:ζ) (l:List Xp)
inductive Sx where
 |mk (op line:Int) (name arg:ζ) (index:List Xp) (expr:Xp) (body els:List Sx)
def Xp.op:Xp->Int|.mk a _ _ _=>a
def Xp.n:Xp->Int|.mk _ a _ _=>a
def Xp.name:Xp->ζ|.mk _ _ a _=>a
def Xp.l:Xp->Y Xp|.mk _ _ _ a=>a
def Sx.op:Sx->Int|.mk a _ _ _ _ _ _ _=>a
def Sx.line:Sx->Int|.mk _ a _ _ _ _ _ _=>a
def Sx.name:Sx->ζ|.mk _ _ a _ _ _ _ _=>a
def Sx.arg:Sx->ζ|.mk _ _ _ a _ _ _ _=>a
def Sx.index:Sx->Y Xp|.mk _ _ _ _ a _ _ _=>a
def Sx.expr:Sx->Xp|.mk _ _ _ _ _ a _ _=>a
def Sx.body:Sx->Y Sx|.mk _ _ _ _ _ _ a _=>a
def Sx.els:Sx->Y Sx|.mk _ _ _ _ _ _ _ a=>a
inductive Ty where
 |int (k:IntKind)
 |bool
 |str
 |sl (t:Ty)
 |st (t:Ty)
 |pr (a b:Ty)
 |un
 |ex
 |sm
 deriving DecidableEq
@[reducible] def Ty.den:Ty->Type
  |.int _=>Int
  |.bool=>Bool
  |.str=>ζ
  |.sl t=>Y t.den
  |.st t=>t.den
  |.pr a b=>a.den×b.den
  |.un=>Unit
  |.ex=>Xp
  |.sm=>Sx
def Ty.size:Ty->Nat
 |.st t=>t.size
 |.pr a b=>a.size+b.size
 |.un=>0
 |.ex=>4
 |.sm=>11
 |_=>1
def Ty.zero:(t:Ty)->t.den
 |.int _=>(0:Int)
 |.bool=>af
 |.str=>[]
 |.sl _=>[]
 |.st t=>t.zero
 |.pr a b=>(a.zero,b.zero)
 |.un=>()
 |.ex=>.mk 0 0 [] []
 |.sm=>.mk 0 0 [] [] [] (.mk 0 0 [] []) [] []
def Ty.one:Ty->Bool
 |.int _=>J
 |.bool=>J
 |.str=>J
 |.sl _=>J
 |_=>af
def Oj:Ty:=.pr (.int .i64) (.pr (.int .i64) (.pr .str (.sl .ex)))
def NL:Ty:=.pr (.int .i64) (.pr (.int .i64) (.pr .str (.pr .str (.pr (.sl .ex) (.pr .ex (.pr (.sl .sm) (.sl .sm)))))))
def Pb (e:Xp):Oj.den:=(e.op,e.n,e.name,e.l)
def eC (x:Oj.den):Xp:=.mk x.1 x.2.1 x.2.2.1 x.2.2.2
def Pa (e:Sx):NL.den:=(e.op,e.line,e.name,e.arg,e.index,e.expr,e.body,e.els)
def oz (x:NL.den):Sx:=.mk x.1 x.2.1 x.2.2.1 x.2.2.2.1 x.2.2.2.2.1 x.2.2.2.2.2.1 x.2.2.2.2.2.2.1 x.2.2.2.2.2.2.2
mutual
def xu:Xp->Y FV
 |.mk op n name l=>[.raw (.int .i64 op),.raw (.int .i64 n),.raw (.string ⟨name.toArray⟩),.sl (KH l) l.length]
def KH:Y Xp->Y FV
 |[]=>[]
 |x::r=>xu x++KH r
end
mutual
def y_:Sx->Y FV
 |.mk op line name arg index expr body els=>[.raw (.int .i64 op),.raw (.int .i64 line),.raw (.string ⟨name.toArray⟩),.raw (.string ⟨arg.toArray⟩),.sl (KH index) index.length]++xu expr++[.sl (KF body) body.length,.sl (KF els) els.length]
def KF:Y Sx->Y FV
 |[]=>[]
 |x::r=>y_ x++KF r
end
def bX:(T:Ty)->T.den->Y FV
 |.int k,n=>[.raw (.int k n)]
 |.bool,b=>[.raw (.bool b)]
 |.str,s=>[.raw (.string ⟨s.toArray⟩)]
 |.sl t,xs=>[.sl (List.flatMap (bX t) xs) (ai xs)]
 |.st t,v=>bX t v
 |.pr a b,v=>bX a v.1++bX b v.2
 |.un,_=>[]
 |.ex,v=>xu v
 |.sm,v=>y_ v
def gL:(T:Ty)->T.den->FV
 |.int k,n=>.raw (.int k n)
 |.bool,b=>.raw (.bool b)
 |.str,s=>.raw (.string ⟨s.toArray⟩)
 |.sl t,xs=>.sl (List.flatMap (bX t) xs) (ai xs)
 |.st t,v=>.agg (bX t v)
 |.pr a b,v=>.agg (bX a v.1++bX b v.2)
 |.un,_=>.agg []
 |.ex,v=>.agg (xu v)
 |.sm,v=>.agg (y_ v)
def Rm:(T:Ty)->T.den->T.den->Bool
 |.int _,a,b=>decide ((a:Int)=b)
 |.bool,a,b=>(a:Bool)==b
 |.str,a,b=>decide ((a:ζ)=b)
 |.st t,a,b=>Rm t a b
 |.pr x y,a,b=>Rm x a.1 b.1&&Rm y a.2 b.2
 |_,_,_=>J
def vu {S:Ty} (T:Ty) (v:S.den):I T.den:=if h:S=T then M (h▸v) else D
def e9 (j:Int) (n:Nat):Bool:=c_ 0 j&&fP j n
def aJ {T:Ty} (xs:Y T.den) (j:Int):T.den:=xs.getD j.toNat T.zero
def cL {α:Type} (xs:Y α) (j:Int) (x:α):Y α:=xs.set j.toNat x
def OR {α:Type} (xs a:Y α):Y α:=a.take xs.length++xs.drop a.length
def fJ (a b:Int):Int:=if fP a b then b else a
def H7 (a b:Int):Int:=if fP b a then b else a
def Bk (s:ζ) (j:Int):Int:=aM (s.getD j.toNat 0).toNat
def aF {R:Type} (b:Bool) (t f:I R):I R:=match b with|true=>t|false=>f
def chk {R:Type} (b:Bool) (k:b=J->I R):I R:=match b,k with|true,k=>k rfl|false,_=>D
open Classical in
def Gg {R:Type} (a b:I R):I R:=if a=b then a else D
open Classical in
def same {α R:Type} (a b:α) (r:I R):I R:=if a=b then r else D
def au {α R:Type} (o:I α) (k:α->I R):I R:=match o with|some x=>k x|none=>D
def lt {α R:Type} (x:α) (k:α->I R):I R:=k x
def jn {α R:Type} (o:I (R⊕α)) (k:α->I R):I R:=match o with|some (.inr x)=>k x|some (.inl r)=>M r|none=>D
def iterN {σ R:Type} (step:σ->I (σ⊕R)):Nat->σ->I R
 |0,_=>D
 |n+1,x=>match step x with
  |some (.inl y)=>iterN step n y
  |some (.inr r)=>M r
  |none=>D
open Classical in
def iter {σ R:Type} (step:σ->I (σ⊕R)) (x:σ):I R:=
 if h:∃n,(iterN step n x).isSome=J then iterN step (Classical.choose h) x else D
def gA {σ R:Type} (step:σ->I (σ⊕R)) (x:σ):I R:=iterN step 18446744073709551616 x
abbrev zG:Type 1:=∀σ R:Type,(σ->I (σ⊕R))->σ->I R
def lY {R:Type} (a b:I R):Prop:=∀y,a=M y->b=M y
theorem lY.rfl {R:Type} {a:I R}:lY a a:=λ_ h=>h
theorem lY.bcase {R:Type} {b:Bool} {t f t' f':I R} (h1:lY t t') (h2:lY f f'):lY (AI.aF b t f) (AI.aF b t' f'):=by cases b<;>assumption
theorem lY.chk {R:Type} {b:Bool} {k k':I R} (h:lY k k'):lY (AI.chk b λ_=>k) (AI.chk b λ_=>k'):=by
 cases b with
 |true=>exact h
 |false=>exact λ_ h=>by cases h
theorem lY.obind {α R:Type} {o o':I α} {k k':α->I R} (h:lY o o') (hk:∀x,lY (k x) (k' x)):lY (AI.au o k) (AI.au o' k'):=by
 intro y a;cases o with
 |none=>cases a
 |some x=>rw[h x (by exact Eq.refl _)];exact hk x y a
theorem lY.lt {α R:Type} {x:α} {k k':α->I R} (h:∀y,lY (k y) (k' y)):lY (AI.lt x k) (AI.lt x k'):=h x
theorem lY.jn {α R:Type} {o o':I (R⊕α)} {k k':α->I R} (h:lY o o') (hk:∀x,lY (k x) (k' x)):lY (AI.jn o k) (AI.jn o' k'):=by
 intro y s;cases o with
 |none=>cases s
 |some x=>
  rw[h x (by exact Eq.refl _)];cases x with
  |inl r=>exact s
  |inr a=>exact hk a y s
theorem lY.iterN {σ R:Type} {f g:σ->I (σ⊕R)} (h:∀x,lY (f x) (g x)):∀(n:Nat) (x:σ),lY (AI.iterN f n x) (AI.iterN g n x)
 |0,_=>λ_ h=>by cases h
 |n+1,x=>by
  intro y a;cases hf:f x with
  |none=>rw[AI.iterN,hf]at a;cases a
  |some s=>
   rw[AI.iterN,hf]at a;rw[AI.iterN,h x s hf];cases s with
   |inl z=>exact lY.iterN h n z y a
   |inr r=>exact a
theorem JW {σ R:Type} {f:σ->I (σ⊕R)}:∀{n:Nat} {x:σ} {r:R},iterN f n x=M r->iterN f (n+1) x=M r
 |0,x,r,h=>by cases h
 |n+1,x,r,h=>by
  cases hf:f x with
  |none=>rw[iterN,hf]at h;cases h
  |some s=>
   cases s with
   |inl y=>rw[iterN,hf]at h;rw[iterN,hf];exact JW h
   |inr q=>rw[iterN,hf]at h;rw[iterN,hf];exact h
theorem Aa {σ R:Type} {f:σ->I (σ⊕R)} {n m:Nat} {x:σ} {r:R} (h:iterN f n x=M r) (hle:n<=m):iterN f m x=M r:=by
 induction hle with
 |refl=>exact h
 |step _ a=>exact JW a
theorem z_ {σ R:Type} {f:σ->I (σ⊕R)} {n:Nat} {x:σ} {r:R} (h:iterN f n x=M r):iter f x=M r:=by
 have s:∃n,(iterN f n x).isSome=J:=⟨n,by rw[h];exact Eq.refl _⟩
 unfold iter;rw[dif_pos s];have hc:=Classical.choose_spec s;obtain⟨z,a⟩:=iY.1 hc;rw[a];rcases Nat.le_total n (Classical.choose s) with hl|hl
 .rw[Aa h hl]at a;exact a.symm
 .rw[Aa a hl]at h;exact h
theorem lY.iter {σ R:Type} {f g:σ->I (σ⊕R)} {x:σ} (h:∀x,lY (f x) (g x)):lY (gA f x) (AI.iter g x):=λy a=>z_ (lY.iterN h _ x y a)
def orE {R:Type} (a b:I R):I R:=match a with|some y=>M y|none=>b
def fuel:Nat:=Classical.choose (⟨100000,rfl⟩:∃n:Nat,n=100000)
theorem kg:fuel=100000:=Classical.choose_spec (⟨100000,rfl⟩:∃n:Nat,n=100000)
def HY (a:Ty):Ty->Ty
 |.un=>a
 |.int k=>.pr a (.int k)
 |.bool=>.pr a .bool
 |.str=>.pr a .str
 |.sl t=>.pr a (.sl t)
 |.st t=>.pr a (.st t)
 |.pr x y=>.pr a (.pr x y)
 |.ex=>.pr a .ex
 |.sm=>.pr a .sm
def spr:Ty->Ty->Ty
 |.un,b=>b
 |.int k,b=>HY (.int k) b
 |.bool,b=>HY .bool b
 |.str,b=>HY .str b
 |.sl t,b=>HY (.sl t) b
 |.st t,b=>HY (.st t) b
 |.pr x y,b=>HY (.pr x y) b
 |.ex,b=>HY .ex b
 |.sm,b=>HY .sm b
def R4 (a:Ty):(b:Ty)->a.den->b.den->(HY a b).den
 |.un,x,_=>x
 |.int _,x,y=>(x,y)
 |.bool,x,y=>(x,y)
 |.str,x,y=>(x,y)
 |.sl _,x,y=>(x,y)
 |.st _,x,y=>(x,y)
 |.pr _ _,x,y=>(x,y)
 |.ex,x,y=>(x,y)
 |.sm,x,y=>(x,y)
def fsN (a:Ty):(b:Ty)->(HY a b).den->a.den
 |.un,z=>z
 |.int _,z=>z.1
 |.bool,z=>z.1
 |.str,z=>z.1
 |.sl _,z=>z.1
 |.st _,z=>z.1
 |.pr _ _,z=>z.1
 |.ex,z=>z.1
 |.sm,z=>z.1
def snN (a:Ty):(b:Ty)->(HY a b).den->b.den
 |.un,_=>()
 |.int _,z=>z.2
 |.bool,z=>z.2
 |.str,z=>z.2
 |.sl _,z=>z.2
 |.st _,z=>z.2
 |.pr _ _,z=>z.2
 |.ex,z=>z.2
 |.sm,z=>z.2
def VX:(a b:Ty)->a.den->b.den->(spr a b).den
 |.un,_,_,y=>y
 |.int k,b,x,y=>R4 (.int k) b x y
 |.bool,b,x,y=>R4 .bool b x y
 |.str,b,x,y=>R4 .str b x y
 |.sl t,b,x,y=>R4 (.sl t) b x y
 |.st t,b,x,y=>R4 (.st t) b x y
 |.pr u v,b,x,y=>R4 (.pr u v) b x y
 |.ex,b,x,y=>R4 .ex b x y
 |.sm,b,x,y=>R4 .sm b x y
def Qg:(a b:Ty)->(spr a b).den->a.den
 |.un,_,_=>()
 |.int k,b,z=>fsN (.int k) b z
 |.bool,b,z=>fsN .bool b z
 |.str,b,z=>fsN .str b z
 |.sl t,b,z=>fsN (.sl t) b z
 |.st t,b,z=>fsN (.st t) b z
 |.pr u v,b,z=>fsN (.pr u v) b z
 |.ex,b,z=>fsN .ex b z
 |.sm,b,z=>fsN .sm b z
def Mq:(a b:Ty)->(spr a b).den->b.den
 |.un,_,z=>z
 |.int k,b,z=>snN (.int k) b z
 |.bool,b,z=>snN .bool b z
 |.str,b,z=>snN .str b z
 |.sl t,b,z=>snN (.sl t) b z
 |.st t,b,z=>snN (.st t) b z
 |.pr u v,b,z=>snN (.pr u v) b z
 |.ex,b,z=>snN .ex b z
 |.sm,b,z=>snN .sm b z
theorem um (a b:Ty) (x:a.den) (y:b.den):Qg a b (VX a b x y)=x:=by cases a<;>cases b<;>rfl
theorem vP (a b:Ty) (x:a.den) (y:b.den):Mq a b (VX a b x y)=y:=by cases a<;>cases b<;>rfl
inductive TV where
 |f (T:Ty) (v:T.den)
 |fel (T:Ty) (xs:List T.den) (j:Int) (h:e9 j xs.length=J) (off:Nat)
 |pel (id sz:Nat) (j:Int) (off:Nat)
 |ptr (id off:Nat)
 |row (id:Nat)
 |csl (id sz n:Nat)
 |emp
 |nil
 |mp (id:Nat)
 |agg (l:List TV)
 |tup (l:List TV)
 |clo (g:FuncId) (l:List TV)
 |undef
 |np
 |anyb
 |rtl (id:Nat) (j:Int)
instance cty (n:Nat):OfNat (I TypeId) n:=⟨M n⟩
inductive iB where
 |rows (ty:TypeId) (p:Bool) (T:Ty) (xs:List T.den)
 |cells (ty:Option TypeId) (l:List TV)
 |dead (p:Bool) (sz n:Nat)
 |mp (K V:Ty) (es:List (K.den×V.den))
abbrev jd:=PT TV
abbrev bk:=PT iB
def cst:Value->I TV
 |.int k n=>M (.f (.int k) n)
 |.bool b=>M (.f .bool b)
 |.string s=>M (.f .str s.data.toList)
 |.slice D 0 0=>M .nil
 |.pointer D=>M .np
 |_=>D
def Lp:ξ->I (Y TV)
 |[]=>M []
 |v::r=>match cst v,Lp r with|some x,M l=>M (x::l)|_,_=>D
def amk:Value->I TV
 |.agg vs=>if LL vs.toList then (match Lp vs.toList with|some l=>M (.agg l)|none=>D) else D
 |v=>cst v
def cellsOf:Nat->(T:Ty)->T.den->I (Y TV)
 |0,_,_=>D
 |n+1,.st t,v=>cellsOf n t v
 |n+1,.pr a b,v=>match cellsOf n a v.1,cellsOf n b v.2 with|some x,M y=>M (x++y)|_,_=>D
 |_+1,.un,_=>M []
 |n+1,.ex,v=>cellsOf n Oj (Pb v)
 |n+1,.sm,v=>cellsOf n NL (Pa v)
 |_+1,.int k,v=>M [.f (.int k) v]
 |_+1,.bool,v=>M [.f .bool v]
 |_+1,.str,v=>M [.f .str v]
 |_+1,.sl t,v=>M [.f (.sl t) v]
def TV.isC:TV->Bool
 |.f T _=>T.one
 |.fel _ _ _ _ _=>J
 |.pel _ _ _ _=>J
 |.ptr _ _=>J
 |.row _=>J
 |.csl _ _ _=>J
 |.emp=>J
 |.nil=>J
 |.np=>J
 |.mp _=>J
 |.clo _ _=>J
 |_=>af
def kV:Y TV->Bool
 |[]=>J
 |x::r=>x.isC&&kV r
def TV.cs (v:TV):I (Y TV):=match v with
 |.agg l=>if kV l then M l else D
 |.f T x=>cellsOf 40 T x
 |x=>if x.isC then M [x] else D
def kQ (i:Nat):Nat:=1<<<i
def iW (h:bk) (T:Ty):TV->I (T.den×Nat)
 |.f _ v=>match vu T v with|some x=>M (x,0)|none=>D
 |.emp=>(match T with|.sl _=>M ([],0)|_=>D)
 |.nil=>(match T with|.sl _=>M ([],0)|_=>D)
 |.row id=>match h.get id with
  |some (.rows _ _ S xs)=>(match vu (S:=.sl S) T xs with|some x=>M (x,kQ id)|none=>D)
  |_=>D
 |_=>D
def fh (h:bk):Nat->(T:Ty)->Y TV->I (T.den×Nat×Y TV)
 |0,_,_=>D
 |n+1,.st t,l=>fh h n t l
 |n+1,.pr a b,l=>match fh h n a l with
  |some (x,m,r)=>(match fh h n b r with|some (y,m',s)=>M ((x,y),m|||m',s)|none=>D)
  |none=>D
 |_+1,.un,l=>M ((),0,l)
 |n+1,.ex,l=>match fh h n Oj l with|some (x,m,r)=>M (eC x,m,r)|none=>D
 |n+1,.sm,l=>match fh h n NL l with|some (x,m,r)=>M (oz x,m,r)|none=>D
 |_+1,.int k,l=>match l with|c::r=>(match iW h (.int k) c with|some (x,m)=>M (x,m,r)|none=>D)|[]=>D
 |_+1,.bool,l=>match l with|c::r=>(match iW h .bool c with|some (x,m)=>M (x,m,r)|none=>D)|[]=>D
 |_+1,.str,l=>match l with|c::r=>(match iW h .str c with|some (x,m)=>M (x,m,r)|none=>D)|[]=>D
 |_+1,.sl t,l=>match l with|c::r=>(match iW h (.sl t) c with|some (x,m)=>M (x,m,r)|none=>D)|[]=>D
def ER (h:bk) (T:Ty) (v:TV):I (T.den×Nat):=match v with
 |.agg l=>if T.one then D else (match fh h 40 T l with|some (x,m,[])=>M (x,m)|_=>D)
 |x=>iW h T x
def oN:Nat->(T:Ty)->T.den->Nat->Nat->Bool->I TV
 |0,_,_,_,_,_=>D
 |n+1,.st t,v,off,sz,ag=>if aB off 0&&aB sz t.size&&ag then M (.f (.st t) v) else oN n t v off sz ag
 |n+1,.pr a b,v,off,sz,ag=>if gF off a.size then oN n a v.1 off sz ag else oN n b v.2 (off-a.size) sz ag
 |_+1,.un,_,_,_,_=>D
 |n+1,.ex,v,off,sz,ag=>if aB off 0&&aB sz 4&&ag then M (.f .ex v) else oN n Oj (Pb v) off sz ag
 |n+1,.sm,v,off,sz,ag=>if aB off 0&&aB sz 11&&ag then M (.f .sm v) else oN n NL (Pa v) off sz ag
 |_+1,.int k,v,off,sz,ag=>if aB off 0&&aB sz 1&& !ag then M (.f (.int k) v) else D
 |_+1,.bool,v,off,sz,ag=>if aB off 0&&aB sz 1&& !ag then M (.f .bool v) else D
 |_+1,.str,v,off,sz,ag=>if aB off 0&&aB sz 1&& !ag then M (.f .str v) else D
 |_+1,.sl t,v,off,sz,ag=>if aB off 0&&aB sz 1&& !ag then M (.f (.sl t) v) else D
def hZ (h:bk) (x:TV):Nat->(T:Ty)->T.den->Nat->Nat->I (T.den×Nat)
 |0,_,_,_,_=>D
 |n+1,.st t,v,off,sz=>match (if aB off 0&&aB sz t.size then ER h (.st t) x else D) with
  |some y=>M y
  |none=>hZ h x n t v off sz
 |n+1,.pr a b,v,off,sz=>if gF off a.size then (match hZ h x n a v.1 off sz with|some (y,m)=>M ((y,v.2),m)|none=>D) else (match hZ h x n b v.2 (off-a.size) sz with|some (y,m)=>M ((v.1,y),m)|none=>D)
 |_+1,.un,_,_,_=>D
 |n+1,.ex,v,off,sz=>match (if aB off 0&&aB sz 4 then ER h .ex x else D) with
  |some y=>M y
  |none=>(match hZ h x n Oj (Pb v) off sz with|some (y,m)=>M (eC y,m)|none=>D)
 |n+1,.sm,v,off,sz=>match (if aB off 0&&aB sz 11 then ER h .sm x else D) with
  |some y=>M y
  |none=>(match hZ h x n NL (Pa v) off sz with|some (y,m)=>M (oz y,m)|none=>D)
 |_+1,.int k,_,off,sz=>if aB off 0&&aB sz 1 then iW h (.int k) x else D
 |_+1,.bool,_,off,sz=>if aB off 0&&aB sz 1 then iW h .bool x else D
 |_+1,.str,_,off,sz=>if aB off 0&&aB sz 1 then iW h .str x else D
 |_+1,.sl t,_,off,sz=>if aB off 0&&aB sz 1 then iW h (.sl t) x else D
def zO (h:bk) (T:Ty):Nat->Y TV->I (Y T.den×Nat)
 |0,[]=>M ([],0)
 |0,_::_=>D
 |n+1,l=>match fh h 40 T l with
  |some (x,m,r)=>(match zO h T n r with|some (xs,m')=>M (x::xs,m|||m')|none=>D)
  |none=>D
def tV:Ty->ξ
 |.int k=>[.int k 0]
 |.bool=>[.bool af]
 |.str=>[.string ⟨#[]⟩]
 |.sl _=>[.slice D 0 0]
 |.st t=>tV t
 |.pr a b=>tV a++tV b
 |.un=>[]
 |.ex=>[.int .i64 0,.int .i64 0,.string ⟨#[]⟩,.slice D 0 0]
 |.sm=>[.int .i64 0,.int .i64 0,.string ⟨#[]⟩,.string ⟨#[]⟩,.slice D 0 0,.int .i64 0,.int .i64 0,.string ⟨#[]⟩,.slice D 0 0,.slice D 0 0,.slice D 0 0]
def Uy:ξ->ξ->Bool
 |[],[]=>J
 |x::xs,y::a=>amt x y&&Uy xs a
 |_,_=>af
def Ty.flat:Ty->Bool
 |.int _=>J
 |.bool=>J
 |.str=>J
 |.st t=>t.flat
 |.pr a b=>a.flat&&b.flat
 |.un=>J
 |_=>af
def rJ:Y TypeDesc->I Ty
 |[]=>M .un
 |.int k::r=>match rJ r with|some t=>M (.pr (.int k) t)|none=>D
 |.bool::r=>match rJ r with|some t=>M (.pr .bool t)|none=>D
 |.string::r=>match rJ r with|some t=>M (.pr .str t)|none=>D
 |_=>D
inductive PV where
 |d (T:Ty)
 |ptr (id off:Nat)
 |row (id:Nat)
 |csl (id sz n:Nat)
 |mp (id:Nat)
 |nil
 |emp
 |clo (q:FuncId) (id off:Nat)
 |agg (l:List PV)
inductive PB where
 |rows (ty:TypeId) (p:Bool) (T:Ty)
 |rowsP (ty:TypeId) (T:Ty)
 |cells (ty:Option TypeId) (l:List PV)
 |mp (K V:Ty)
 |gone
mutual
def PV.ty:PV->Ty
 |.d T=>T
 |.agg l=>PV.tyL l
 |.ptr _ _=>.un
 |.row _=>.un
 |.csl _ _ _=>.un
 |.clo _ _ _=>.un
 |.mp _=>.un
 |.nil=>.un
 |.emp=>.un
def PV.tyL:Y PV->Ty
 |[]=>.un
 |p::r=>spr p.ty (PV.tyL r)
end
def PB.ty:PB->Ty
 |.rows _ _ T=>.sl T
 |.rowsP _ T=>.pr .bool (.sl T)
 |.cells _ l=>PV.tyL l
 |.mp K V=>.sl (.pr K V)
 |.gone=>.un
def PB.tyL:Y PB->Ty
 |[]=>.un
 |p::r=>spr p.ty (PB.tyL r)
structure Tm where
 vs:List PV
 bs:List PB
def Tm.ty (t:Tm):Ty:=spr (PV.tyL t.vs) (PB.tyL t.bs)
mutual
def qb (g:Nat->Nat) (h:bk):(p:PV)->Y TV->I (p.ty.den×Nat×Y TV)
 |.d T,l=>fh h 40 T l
 |.ptr i o,l=>match l with|.ptr i' o'::r=>if aB (g i) i'&&aB o o' then M ((),0,r) else D|_=>D
 |.row i,l=>match l with|.row i'::r=>if aB (g i) i' then M ((),0,r) else D|_=>D
 |.csl i s n,l=>match l with|.csl i' s' n'::r=>if aB (g i) i'&&aB s s'&&aB n n' then M ((),0,r) else D|_=>D
 |.clo q i o,l=>match l with|.clo q' [.ptr i' o']::r=>if aB q q'&&aB (g i) i'&&aB o o' then M ((),0,r) else D|_=>D
 |.mp i,l=>match l with|.mp i'::r=>if aB (g i) i' then M ((),0,r) else D|_=>D
 |.nil,l=>match l with|.nil::r=>M ((),0,r)|_=>D
 |.emp,l=>match l with|.nil::r=>M ((),0,r)|.emp::r=>M ((),0,r)|_=>D
 |.agg ps,l=>Ah g h ps l
def Ah (g:Nat->Nat) (h:bk):(ps:Y PV)->Y TV->I ((PV.tyL ps).den×Nat×Y TV)
 |[],l=>M ((),0,l)
 |p::r,l=>match qb g h p l with
  |some (x,m,l')=>(match Ah g h r l' with|some (y,m',l'')=>M (VX p.ty (PV.tyL r) x y,m|||m',l'')|none=>D)
  |none=>D
end
def ym (g:Nat->Nat) (h:bk):(p:PV)->TV->I (p.ty.den×Nat)
 |.d T,v=>ER h T v
 |.agg ps,v=>if v.isC then D else (match v.cs with
  |some l=>(match Ah g h ps l with|some (x,m,[])=>M (x,m)|_=>D)
  |none=>D)
 |.ptr i o,v=>match qb g h (.ptr i o) [v] with|some (x,m,_)=>M (x,m)|none=>D
 |.row i,v=>match qb g h (.row i) [v] with|some (x,m,_)=>M (x,m)|none=>D
 |.csl i s n,v=>match qb g h (.csl i s n) [v] with|some (x,m,_)=>M (x,m)|none=>D
 |.clo q i o,v=>match qb g h (.clo q i o) [v] with|some (x,m,_)=>M (x,m)|none=>D
 |.mp i,v=>match qb g h (.mp i) [v] with|some (x,m,_)=>M (x,m)|none=>D
 |.nil,v=>match qb g h .nil [v] with|some (x,m,_)=>M (x,m)|none=>D
 |.emp,v=>match qb g h .emp [v] with|some (x,m,_)=>M (x,m)|none=>D
def yW (g:Nat->Nat) (h:bk):(ps:Y PV)->Y TV->I ((PV.tyL ps).den×Nat)
 |[],[]=>M ((),0)
 |p::r,v::vs=>match ym g h p v with
  |some (x,m)=>(match yW g h r vs with|some (y,m')=>M (VX p.ty (PV.tyL r) x y,m|||m')|none=>D)
  |none=>D
 |[],_::_=>D
 |_::_,[]=>D
def FN (g:Nat->Nat) (h:bk) (i:Nat):(b:PB)->I (b.ty.den×Nat)
 |.rows ty p T=>match h.get (g i) with
  |some (.rows ty' a S xs)=>if ty==ty'&&p==a then (match vu (S:=.sl S) (.sl T) xs with|some x=>M (x,0)|none=>D) else D
  |_=>D
 |.rowsP ty T=>match h.get (g i) with
  |some (.rows ty' a S xs)=>if ty==ty' then (match vu (S:=.sl S) (.sl T) xs with|some x=>M ((a,x),0)|none=>D) else D
  |_=>D
 |.cells ty ps=>match h.get (g i) with
  |some (.cells ty' l)=>if ty==ty' then (match Ah g h ps l with|some (x,m,[])=>M (x,m)|_=>D) else D
  |_=>D
 |.mp K V=>match h.get (g i) with
  |some (.mp K' V' es)=>(match vu (S:=.sl (.pr K' V')) (.sl (.pr K V)) es with|some x=>M (x,0)|none=>D)
  |_=>D
 |.gone=>M ((),0)
def BK (g:Nat->Nat) (h:bk):Nat->(bs:Y PB)->I ((PB.tyL bs).den×Nat)
 |_,[]=>M ((),0)
 |i,b::r=>match FN g h i b with
  |some (x,m)=>(match BK g h (i+1) r with|some (y,m')=>M (VX b.ty (PB.tyL r) x y,m|||m')|none=>D)
  |none=>D
mutual
def qD (g:Nat->Nat):(p:PV)->p.ty.den->I (Y TV)
 |.d T,x=>cellsOf 40 T x
 |.ptr i o,_=>M [.ptr (g i) o]
 |.row i,_=>M [.row (g i)]
 |.csl i s n,_=>M [.csl (g i) s n]
 |.mp i,_=>M [.mp (g i)]
 |.clo q i o,_=>M [.clo q [.ptr (g i) o]]
 |.nil,_=>M [.nil]
 |.emp,_=>M [.emp]
 |.agg ps,x=>rH g ps x
def rH (g:Nat->Nat):(ps:Y PV)->(PV.tyL ps).den->I (Y TV)
 |[],_=>M []
 |p::r,x=>match qD g p (Qg p.ty (PV.tyL r) x) with
  |some a=>(match rH g r (Mq p.ty (PV.tyL r) x) with|some b=>M (a++b)|none=>D)
  |none=>D
end
def uf (g:Nat->Nat):(p:PV)->p.ty.den->I TV
 |.d T,x=>M (.f T x)
 |.ptr i o,_=>M (.ptr (g i) o)
 |.row i,_=>M (.row (g i))
 |.csl i s n,_=>M (.csl (g i) s n)
 |.mp i,_=>M (.mp (g i))
 |.clo q i o,_=>M (.clo q [.ptr (g i) o])
 |.nil,_=>M .nil
 |.emp,_=>M .emp
 |.agg ps,x=>match rH g ps x with|some l=>M (.agg l)|none=>D
def qJ (g:Nat->Nat):(ps:Y PV)->(PV.tyL ps).den->I (Y TV)
 |[],_=>M []
 |p::r,x=>match uf g p (Qg p.ty (PV.tyL r) x) with
  |some a=>(match qJ g r (Mq p.ty (PV.tyL r) x) with|some b=>M (a::b)|none=>D)
  |none=>D
def Dv (g:Nat->Nat):(b:PB)->b.ty.den->I (I iB)
 |.rows ty p T,x=>M (M (.rows ty p T x))
 |.rowsP ty T,x=>M (M (.rows ty x.1 T x.2))
 |.cells ty ps,x=>match rH g ps x with|some l=>M (M (.cells ty l))|none=>D
 |.mp K V,x=>M (M (.mp K V x))
 |.gone,_=>M D
def vV:iB->iB
 |.rows _ p T xs=>.dead p T.size xs.length
 |.cells _ _=>.dead J 0 0
 |.mp _ _ _=>.dead J 0 0
 |.dead p sz n=>.dead p sz n
def kill (h:bk) (i:Nat):bk:=match h.get i with
 |some b=>h.set i (M (vV b))
 |none=>h
def o7 (g:Nat->Nat):(bs:Y PB)->(PB.tyL bs).den->I (Y (I iB))
 |[],_=>M []
 |b::r,x=>match Dv g b (Qg b.ty (PB.tyL r) x) with
  |some c=>(match o7 g r (Mq b.ty (PB.tyL r) x) with|some l=>M (c::l)|none=>D)
  |none=>D
def Br (g:Nat->Nat):Nat->Y (I iB)->bk->bk
 |_,[],h=>h
 |i,M c::r,h=>Br g (i+1) r (h.set (g i) (M c))
 |i,D::r,h=>Br g (i+1) r (kill h (g i))
def NS (g:Nat->Nat) (bs:Y PB) (x:(PB.tyL bs).den) (h:bk):I bk:=match o7 g bs x with
 |some l=>M (Br g 0 l h)
 |none=>D
def N2 {K V:Ty} (k:K.den):Y (K.den×V.den)->I V.den
 |[]=>D
 |(k',v)::r=>if Rm K k k' then M v else N2 k r
def VV {K V:Ty} (k:K.den) (v:V.den):Y (K.den×V.den)->Y (K.den×V.den)
 |[]=>[(k,v)]
 |(k',a)::r=>if Rm K k k' then (k,v)::r else (k',a)::VV k v r
def am9 {K V:Ty} (k:K.den) (es:Y (K.den×V.den)):Bool:=match N2 k es with|some _=>J|none=>af
def R5 {K V:Ty} (k:K.den) (es:Y (K.den×V.den)) (z:V.den):V.den:=match N2 k es with|some v=>v|none=>z
def apo (T:Ty):Nat->Ty
 |0=>.un
 |1=>T
 |n+2=>.pr T (apo T (n+1))
def kwT:Ty:=.st (apo .str 22)
def kwV:kwT.den:=([118,97,114],[118,111,108,97,116,105,108,101],[109,117,116,101,120],[114,119,108,111,99,107],[99,111,110,100],[102,117,116,117,114,101],[116,104,114,101,97,100],[105,102],[101,108,115,101],[119,104,105,108,101],[108,111,99,107],[114,101,97,100],[119,114,105,116,101],[116,114,97,110,115,97,99,116,105,111,110],[97,116,111,109,105,99],[119,97,105,116],[110,111,116,105,102,121],[110,111,116,105,102,121,97,108,108],[115,112,97,119,110],[106,111,105,110],[115,101,116],[103,101,116])
@[simp] theorem c6 {R:Type} (t f:I R):aF J t f=t:=Eq.trans rfl rfl
@[simp] theorem c7 {R:Type} (t f:I R):aF af t f=f:=Eq.trans rfl rfl
@[simp] theorem chk_t {R:Type} (k:J=J->I R):chk J k=k rfl:=Eq.trans rfl rfl
theorem cE {R:Type} {b:Bool} (h:b=J) (k:I R):chk b (λ_=>k)=k:=by cases b with|true=>rfl|false=>cases h
@[simp] theorem cZ {α R:Type} (x:α) (k:α->I R):au (M x) k=k x:=Eq.trans rfl rfl
@[simp] theorem jB {α R:Type} (x:α) (k:α->I R):jn (M (.inr x)) k=k x:=Eq.trans rfl rfl
@[simp] theorem jn_l {α R:Type} (r:R) (k:α->I R):jn (M (.inl r)) k=M r:=Eq.trans rfl rfl
theorem ahz {σ R:Type} {f:σ->I (σ⊕R)} {n:Nat} {x:σ} {r:R} (h:iterN f n x=M r) (hn:n<=18446744073709551616):gA f x=M r:=Aa h hn
theorem xl {σ R:Type} {f:σ->I (σ⊕R)} (n:Nat) (hn:n<18446744073709551616) (st:Nat->σ) {r:R} (h0:∀i,i<n->f (st i)=M (.inl (st (i+1)))) (h1:f (st n)=M (.inr r)):gA f (st 0)=M r:=by
 have key:∀k i,i+k=n->iterN f (k+1) (st i)=M r:=by
  intro k;induction k with
  |zero=>intro i hi;have:i=n:=by omega
         subst this;simp only[iterN,h1]
  |succ k a=>intro i hi;rw[iterN,h0 i (by omega)];exact a (i+1) (by omega)
 exact ahz (key n 0 (by omega)) (by omega)
@[simp] theorem ae8 {a b:Int}:c_ a b=J↔a<=b:=by unfold c_;simp
@[simp] theorem ae7 {a b:Int}:fP a b=J↔a<b:=by unfold fP;simp
theorem re {a b:Int} (h:a<=b):c_ a b=J:=ae8.2 h
theorem vW {a b:Int} (h:a<b):fP a b=J:=ae7.2 h
theorem Ob {a b:Int} (h:b<a):c_ a b=af:=by unfold c_;simp;omega
theorem xo {a b:Int} (h:b<=a):fP a b=af:=by unfold fP;simp;omega
theorem apv {j:Int} {n:Nat} (h0:0<=j) (h1:j<n):e9 j n=J:=by unfold e9;rw[re h0,vW h1];rfl
theorem c4 {j n:Nat} (h1:j<n):e9 (j:Int) n=J:=apv (by omega) (by omega)
theorem ud {n b:Nat} (h0:n<=1099511627776) (h1:n*b<=1099511627776):a8 n b=J:=by
 unfold a8;rw[bE h0,bE h1];rfl
theorem aci {n:Int} (h0: -9223372036854775808<=n) (h1:n<=9223372036854775807):bl .i64 n=n:=by
 rw[ID];unfold ND;simp only[];rw[re h0,re h1];rfl
theorem rM {i n:Nat} (h:i<n) (hn:n<=1099511627776):bl .i64 ((i:Int)+1)=((i+1:Nat):Int):=by
 rw[aci (by omega) (by omega)];omega
theorem q_ (a b:Nat):fJ (aM a) (aM b)=((max a b:Nat):Int):=by
 unfold fJ;by_cases h:a<b
 .rw[vW (by simp;omega),aC rfl];simp;omega
 .rw[xo (by simp;omega)];simp;omega
theorem tj {T:Ty} (xs:Y T.den) (i:Nat):aJ xs (i:Int)=xs.getD i T.zero:=by unfold aJ;simp
theorem rm (xs:Y η) (i:Nat):aJ (T:=.sl (.int .i64)) xs (i:Int)=xs.getD i []:=tj (T:=.sl (.int .i64)) xs i
theorem amd (xs:η) (i:Nat):aJ (T:=.int .i64) xs (i:Int)=xs.getD i 0:=tj (T:=.int .i64) xs i
theorem dR {α:Type} (xs:Y α) (i:Nat) (x:α):cL xs (i:Int) x=xs.set i x:=by unfold cL;simp
structure co where
 pre:Tm
 post:Tm
 m:pre.ty.den->Option post.ty.den
mutual
def al4:PV->Y TV->PT Nat->PT Nat×Y TV
 |.d T,l,σ=>(σ,l.drop T.size)
 |.ptr i _,l,σ=>match l with|.ptr a _::r=>(σ.set i (M a),r)|l=>(σ,l.drop 1)
 |.row i,l,σ=>match l with|.row a::r=>(σ.set i (M a),r)|l=>(σ,l.drop 1)
 |.csl i _ _,l,σ=>match l with|.csl a _ _::r=>(σ.set i (M a),r)|l=>(σ,l.drop 1)
 |.mp i,l,σ=>match l with|.mp a::r=>(σ.set i (M a),r)|l=>(σ,l.drop 1)
 |.clo _ i _,l,σ=>match l with|.clo _ [.ptr a _]::r=>(σ.set i (M a),r)|l=>(σ,l.drop 1)
 |.nil,l,σ=>(σ,l.drop 1)
 |.emp,l,σ=>(σ,l.drop 1)
 |.agg ps,l,σ=>XG ps l σ
def XG:Y PV->Y TV->PT Nat->PT Nat×Y TV
 |[],l,σ=>(σ,l)
 |p::r,l,σ=>match al4 p l σ with|(σ',l')=>XG r l' σ'
end
def aqj (p:PV) (v:TV) (σ:PT Nat):PT Nat:=match p with
 |.d _=>σ
 |p=>match v.cs with|some l=>(al4 p l σ).1|none=>σ
def afh:Y PV->Y TV->PT Nat->PT Nat
 |p::r,v::vs,σ=>afh r vs (aqj p v σ)
 |_,_,σ=>σ
def XH (h:bk):Nat->Y PB->PT Nat->PT Nat
 |_,[],σ=>σ
 |i,b::r,σ=>XH h (i+1) r (match b with
  |.cells _ ps=>(match σ.get i with
   |some a=>(match h.get a with|some (.cells _ l)=>(XG ps l σ).1|_=>σ)
   |none=>σ)
  |_=>σ)
def iy (σ:PT Nat) (i:Nat):Nat:=match σ.get i with|some a=>a|none=>0
def acx (σ:PT Nat):Nat->Nat->Nat->I Nat
 |0,_,acc=>M acc
 |n+1,i,acc=>match σ.get i with
  |some a=>if aO acc a then D else acx σ n (i+1) (acc|||kQ a)
  |none=>D
def idn:Nat->PT Nat
 |0=>.leaf
 |n+1=>(idn n).set n (M n)
def YU (σ:PT Nat):Nat->Bool
 |0=>J
 |n+1=>(match σ.get n with|some a=>aB a n|none=>af)&&YU σ n
structure alh (t:Tm) where
 x:t.ty.den
 m:Nat
 σ:PT Nat
 sm:Nat
def Fr (np:Nat) (t:Tm) (vs:Y TV) (h:bk):I (alh t):=
 S7 (XH h 0 t.bs (XH h 0 t.bs (afh t.vs vs (idn np)))) λσ=>
 match acx σ t.bs.length 0 0 with
 |some sm=>(match yW (iy σ) h t.vs vs with
  |some (x,m)=>(match BK (iy σ) h 0 t.bs with
   |some (y,m')=>if Ey (m|||m') sm&&YU σ np then M ⟨VX _ _ x y,m|||m',σ,sm⟩ else D
   |none=>D)
  |none=>D)
 |none=>D
def PT.updI {α:Type} (f:Nat->α->α):Nat->Nat->PT α->PT α
 |_,_,.leaf=>.leaf
 |a,b,.node v l r=>.node (match v with|some x=>M (f b x)|none=>D) (PT.updI f (2*a) (a+b) l) (PT.updI f (2*a) (2*a+b) r)
def eJ (m:Nat) (h:bk):bk:=if aB m 0 then h else PT.updI (λi b=>if aO m i then vV b else b) 1 0 h
def V6:Operand->Bool
 |.const (.agg _)=>J
 |_=>af
def f_ (e:jd):Operand->I TV
 |.tmp t=>e.get t
 |.const v=>amk v
 |.func g=>M (.clo g [])
 |.global g=>match G g with|some _=>M (.fel kwT [kwV] 0 (Eq.refl J) 0)|none=>D
def GF (e:jd):Y Operand->I (Y TV)
 |[]=>M []
 |x::xs=>match f_ e x with|some y=>(match GF e xs with|some a=>M (y::a)|none=>D)|none=>D
def Ku (cells:Y TV) (e:jd):Y (Nat×Nat×Operand)->I (Y TV)
 |[]=>M cells
 |(off,sz,x)::r=>match f_ e x with
  |some v=>(match v.cs with
   |some cs=>if cs.length==sz&&eR (off+sz) cells.length then Ku (splice cells off cs) e r else D
   |none=>D)
  |none=>D
def Vp (l:Y TV) (off sz:Nat):Bool->I TV
 |false=>if aB sz 1 then l[off]? else D
 |true=>if eR (off+sz) l.length then M (.agg ((l.drop off).take sz)) else D
def eM (h:bk) (id:Nat):I (Bool×Nat×Nat):=match h.get id with
 |some (.rows _ p T xs)=>M (p,T.size,xs.length)
 |some (.dead p sz n)=>M (p,sz,n)
 |_=>D
def lenOf (h:bk):TV->I Nat
 |.f (.sl _) xs=>M (ai xs)
 |.emp=>M 0
 |.nil=>M 0
 |.row id=>match eM h id with|some (_,_,n)=>M n|none=>D
 |.csl _ _ n=>M n
 |_=>D
mutual
def Mx (h:bk):TV->Bool
 |.row id=>(eM h id).isSome
 |.rtl id _=>(eM h id).isSome
 |.agg l=>lz h l
 |.tup l=>lz h l
 |.clo _ l=>lz h l
 |.f _ _=>J
 |.fel _ _ _ _ _=>J
 |.pel _ _ _ _=>J
 |.ptr _ _=>J
 |.csl _ _ _=>J
 |.emp=>J
 |.nil=>J
 |.mp _=>J
 |.undef=>J
 |.np=>J
 |.anyb=>J
def lz (h:bk):Y TV->Bool
 |[]=>J
 |x::r=>Mx h x&&lz h r
end
mutual
def Mz (n:Nat):TV->Bool
 |.row id=>gF id n
 |.rtl id _=>gF id n
 |.pel id _ _ _=>gF id n
 |.ptr id _=>gF id n
 |.csl id _ _=>gF id n
 |.mp id=>gF id n
 |.agg l=>sh n l
 |.tup l=>sh n l
 |.clo _ l=>sh n l
 |.f _ _=>J
 |.fel _ _ _ _ _=>J
 |.emp=>J
 |.nil=>J
 |.undef=>J
 |.np=>J
 |.anyb=>J
def sh (n:Nat):Y TV->Bool
 |[]=>J
 |x::r=>Mz n x&&sh n r
end
def DL (t:Tm) (x:t.ty.den):I (Y TV×bk):=
 match qJ (λi=>i) t.vs (Qg _ _ x) with
 |some vs=>(match NS (λi=>i) t.bs (Mq _ _ x) PT.leaf with
  |some h=>if lz h vs&&sh t.bs.length vs&&PT.all (λ_ b=>match b with|.cells _ l=>lz h l&&sh t.bs.length l|_=>J) 1 0 h then M (vs,h) else D
  |none=>D)
 |none=>D
abbrev KO (R:Type):=TV->Nat->Nat->bk->Nat->I R
def RK:Y TV->TV
 |[x]=>x
 |l=>.tup l
def Cx:Y PB->Bool
 |[]=>J
 |.gone::_=>af
 |_::r=>Cx r
def I7:Y PB->Bool
 |[]=>J
 |.rows _ _ _::r=>I7 r
 |_::_=>af
def uE (h h2:bk) (g:Nat->Nat):Nat->Bool
 |0=>J
 |n+1=>(match eM h (g n) with
  |some (p,s,k)=>(match eM h2 (g n) with|some (a,s',k')=>(p==a)&&aB s s'&&aB k k'|none=>af)
  |none=>J)&&uE h h2 g n
def Za {R:Type} (con:FuncId->I co) (f:FuncId) (l:Y TV) (h:bk) (nx:Nat) (K:KO R):I R:=
 match con f with
 |some c=>(match Fr 0 c.pre l h with
  |some ⟨x,m,σ,sm⟩=>(match DL c.pre x with
   |some _=>au (c.m x) λy=>(match DL c.post y with
    |some _=>if eR c.pre.bs.length c.post.bs.length&&Cx c.pre.bs then
      let np:=c.pre.bs.length
      let a:=c.post.bs.length-np
      let g:=λi=>if gF i np then iy σ i else nx+(i-np)
      (match qJ g c.post.vs (Qg _ _ y) with
      |some rs=>if !(aB m 0)&&aB c.post.bs.length 0&&(PV.tyL c.post.vs).flat then K (RK rs) m 0 h nx else
       (match NS g c.post.bs (Mq _ _ y) (eJ m h) with
       |some h2=>chk (uE h h2 g np) λ_=>K (RK rs) (sm|||m) (sm|||m|||(((1<<<a)-1)<<<nx)) h2 (nx+a)
       |none=>D)
      |none=>D) else if aB c.post.bs.length 0&&I7 c.pre.bs then
      let np:=c.pre.bs.length
      let g:=λi=>if gF i np then iy σ i else nx+(i-np)
      (match qJ g c.post.vs (Qg _ _ y) with
      |some rs=>(match NS g c.pre.bs (Mq _ _ x) (eJ m h) with
       |some h2=>K (RK rs) (sm|||m) m h2 nx
       |none=>D)
      |none=>D) else D
    |none=>D)
   |none=>D)
  |none=>D)
 |none=>D
def ams {R:Type} (op:BinOp) (x y:TV) (q:TV->I R):I R:=
 match x,y with
 |.f (.int k) a,.f (.int k') b=>if k==k' then
   (match op with
   |.add=>q (.f (.int k) (bl k (a+b)))
   |.sub=>q (.f (.int k) (bl k (a-b)))
   |.mul=>q (.f (.int k) (bl k (a*b)))
   |.rem=>chk (!decide ((b:Int)=0)) λ_=>q (.f (.int k) (AQ a b))
   |.quo=>chk (!decide ((b:Int)=0)) λ_=>q (.f (.int k) (bl k (Int.tdiv a b)))
   |.eql=>q (.f .bool (decide ((a:Int)=b)))
   |.neq=>q (.f .bool (!decide ((a:Int)=b)))
   |.lss=>q (.f .bool (fP a b))
   |.leq=>q (.f .bool (c_ a b))
   |.gtr=>q (.f .bool (fP b a))
   |.geq=>q (.f .bool (c_ b a))
   |_=>D)
  else D
 |.f .str a,.f .str b=>match op with
   |.eql=>q (.f .bool (decide ((a:ζ)=b)))
   |.neq=>q (.f .bool (!decide ((a:ζ)=b)))
   |_=>D
 |_,_=>D
def ZK:Bool->Ty->Bool
 |false,.int _=>J
 |true,.str=>J
 |_,_=>af
abbrev itK:Ty:=.st (.pr .str (.int .i64))
def isIt:Ty->Bool
 |.st (.pr .str (.int .i64))=>J
 |_=>af
def VW (K:Ty):Bool:= !isIt K
def Rl:Y ((ζ×Int)×Unit)->ζ
 |[]=>[]
 |e::_=>e.1.1
def PI:Y ((ζ×Int)×Unit)->Nat
 |[]=>0
 |e::_=>aQ e.1.2
def itE:(K V:Ty)->Y (K.den×V.den)->I (ζ×Nat)
 |.st (.pr .str (.int .i64)),.un,es=>M (Rl es,PI es)
 |_,_,_=>D
def mpE:(K V:Ty)->Y (K.den×V.den)->Bool
 |.un,.un,[]=>J
 |_,_,_=>af
def zD (T:Ty):Y TV->I (Y T.den)
 |[]=>M []
 |.f S v::r=>match vu (S:=S) T v with
  |some x=>(match zD T r with|some l=>M (x::l)|none=>D)
  |none=>D
 |_::_=>D
def afl:Y TV->I ((T:Ty)×Y T.den)
 |.f T v::r=>match zD T (.f T v::r) with|some l=>M ⟨T,l⟩|none=>D
 |_=>D
def apx (n sz:Nat) (v:TV):Bool->I ((T:Ty)×Y T.den)
 |true=>D
 |false=>if aB sz 1&& !v.isC then (match v.cs with|some l=>if aB l.length n then afl l else D|none=>D) else D
def arrB (n sz off:Nat):I iB->I ((T:Ty)×Y T.den)
 |some (.cells (M _) l)=>if aB sz 1&&aB off 0&&aB l.length n then afl l else D
 |_=>D
def akx:Ty->Nat
 |.pr .un t=>akx t+1
 |_=>0
def EI:I Ty->I Nat
 |some (.pr .un t)=>M (akx t)
 |_=>D
def al1 {R:Type} (ty:TypeId) (sz bytes:Nat) (b y:TV) (h:bk) (nx:Nat) (K:KO R):I R:=match y with
 |.csl id2 sz2 m=>(match h.get id2 with
  |some (.cells (M _) l2)=>if aB sz2 sz&&aB l2.length (m*sz)&& !(aB m 0) then (match b with
   |.csl id sz1 n=>(match h.get id with
    |some (.cells (M ty1) l)=>if aB sz1 sz&&ty1==ty&&aB l.length (n*sz)&& !(aB id id2) then
      chk (a8 (n+m) bytes) λ_=>K (.csl nx sz (n+m)) (kQ id|||kQ id2) (kQ id|||kQ nx) ((h.set id (M (.dead J 0 0))).set nx (M (.cells (M ty) (l++l2)))) (nx+1) else D
    |_=>D)
   |.nil=>chk (a8 m bytes) λ_=>K (.csl nx sz m) (kQ id2) (0|||kQ nx) ((eJ 0 h).set nx (M (.cells (M ty) l2))) (nx+1)
   |_=>D) else D
  |_=>D)
 |_=>D
def pkT (ok:Bool) (v b:TV):TV:=match ok with|true=>.tup [v,b]|false=>v
def eh {R:Type} (con:FuncId->I co) (b_:TypeId->I Ty) (o:SI) (e:jd) (h:bk) (nx:Nat) (K:KO R):I R:=
 match o with
 |.call f args=>match GF e args with|some l=>Za con f l h nx K|none=>D
 |.callv x args=>match f_ e x,GF e args with
  |some (.clo f cap),M l=>Za con f (l++cap) h nx K
  |_,_=>D
 |.op s=>match s with
  |.mksl ty sz bytes z l c=>match EI (b_ ty) with
   |some n=>(match Lp z,f_ e l,f_ e c with
    |some U,M (.f (.int _) a),M (.f (.int _) b)=>chk (c_ 0 a&&c_ a b&&a8 (aQ b) bytes&&decide ((a:Int)=aM n)) λ_=>K (.csl nx sz n) 0 (0|||kQ nx) ((eJ 0 h).set nx (M (.cells (M ty) (aA n U).flatten))) (nx+1)
    |_,_,_=>D)
   |none=>match b_ ty,f_ e l,f_ e c with
   |some T,M (.f (.int _) a),M (.f (.int _) b)=>if aB sz T.size&&Uy z (tV T) then
     chk (c_ 0 a&&c_ a b&&a8 (aQ b) bytes) λ_=>K (.row nx) 0 (kQ nx) (h.set nx (M (.rows ty af T (aA (aQ a) T.zero)))) (nx+1) else D
   |_,_,_=>D
  |.bsl ty sz len z parts=>match EI (b_ ty) with
   |some _=>(match Lp z with
    |some U=>(match Ku ((aA len U).flatten) e parts with
     |some cs=>if aB len 0 then D else K (.csl nx sz len) 0 (0|||kQ nx) ((eJ 0 h).set nx (M (.cells (M ty) cs))) (nx+1)
     |none=>D)
    |none=>D)
   |none=>match b_ ty,Lp z with
   |some T,M U=>if aB sz T.size then (match Ku ((aA len U).flatten) e parts with
    |some cs=>(match zO h T len cs with
     |some (xs,m)=>K (.row nx) m (m|||kQ nx) ((eJ m h).set nx (M (.rows ty (aB len 0) T xs))) (nx+1)
     |none=>D)
    |none=>D) else D
   |_,_=>D
  |.app ty sz bytes s x=>match EI (b_ ty) with
   |some _=>(match f_ e s,f_ e x with
    |some b,M y=>al1 ty sz bytes b y h nx K
    |_,_=>D)
   |none=>match b_ ty,f_ e s,f_ e x with
   |some T,M b,M y=>if aB sz T.size then (match ER h (.sl T) y with
    |some (A,m)=>(match b with
     |.row id=>(match h.get id with
      |some (.rows ty' p S xs)=>(match vu (S:=.sl S) (.sl T) xs with
       |some xs=>if ty'==ty&& !(aO m id) then
         chk (a8 (ai xs+ai A) bytes) λ_=>K (.row nx) (kQ id|||m) (kQ id|||kQ nx) ((h.set id (M (.dead p sz (ai xs)))).set nx (M (.rows ty p T (xs++A)))) (nx+1)
        else D
       |none=>D)
      |_=>D)
     |.emp=>chk (a8 (ai A) bytes) λ_=>K (.row nx) m (kQ nx) (h.set nx (M (.rows ty J T A))) (nx+1)
     |.nil=>chk (a8 (ai A) bytes) λ_=>K (.row nx) m (kQ nx) (h.set nx (M (.rows ty J T A))) (nx+1)
     |_=>D)
    |none=>D) else D
   |_,_,_=>D
  |.copy sz d x=>match f_ e d,f_ e x with
   |some (.row id),M y=>(match h.get id with
    |some (.rows ty p T xs)=>if aB sz T.size then (match ER h (.sl T) y with
     |some (A,m)=>if !(aO m id)&& !p then
       K (.f (.int .i64) (aM (jg (ai A) (ai xs)))) (kQ id|||m) (kQ id) (h.set id (M (.rows ty p T (OR xs A)))) nx else D
     |none=>D) else D
    |_=>D)
   |_,_=>D
  |.clr sz z x=>match f_ e x with
   |some (.rtl id j)=>(match h.get id with
    |some (.rows ty p T xs)=>if (aB sz T.size&&Uy z (tV T))&&m_ z then
      chk (c_ 0 j&&fP j (ai xs)) λ_=>K (.tup []) (kQ id) (0|||kQ id) ((eJ 0 h).set id (M (.rows ty p T (dQ (aQ j) xs++aA (ai xs-aQ j) T.zero)))) nx
     else D
    |_=>D)
   |_=>D
  |.mv x=>match f_ e x with|some v=>K v 0 0 h nx|none=>D
  |.pick c a b=>match f_ e c with
   |some (.f .bool t)=>aF t (match f_ e a with|some v=>K v 0 0 h nx|none=>D) (match f_ e b with|some v=>K v 0 0 h nx|none=>D)
   |_=>D
  |.alloc ty z=>match Lp z with
   |some l=>K (.ptr nx 0) 0 (kQ nx) (h.set nx (M (.cells (M ty) l))) (nx+1)
   |none=>D
  |.box ty x=>match f_ e x with
   |some v=>(match v.cs with|some l=>K (.ptr nx 0) 0 (kQ nx) (h.set nx (M (.cells (M ty) l))) (nx+1)|none=>D)
   |none=>D
  |.build z parts=>match Lp z with
   |some l=>(match Ku l e parts with|some cs=>K (.agg cs) 0 0 h nx|none=>D)
   |none=>D
  |.load sz ag x=>match f_ e x with
   |some (.ptr id off)=>(match h.get id with
    |some (.cells (M _) l)=>(match Vp l off sz ag with|some v=>K v (kQ id) 0 h nx|none=>D)
    |_=>D)
   |some (.pel id sz' j off)=>(match h.get id with
    |some (.rows _ _ T xs)=>if aB sz' T.size then chk (e9 j xs.length) λ_=>(match oN 40 T (aJ xs j) off sz ag with|some v=>K v (kQ id) 0 h nx|none=>D) else D
    |some (.cells (M _) l)=>(match ag with
     |true=>D
     |false=>if aB sz 1&&aB sz' 1&&aB off 0 then (match afl l with
      |some ⟨T,xs⟩=>chk (e9 j l.length) λ_=>K (.f T (aJ xs j)) (kQ id) 0 h nx
      |none=>D) else D)
    |_=>D)
   |some (.fel T xs j _ off)=>(match oN 40 T (aJ xs j) off sz ag with|some v=>K v 0 0 h nx|none=>D)
   |_=>D
  |.store sz x v=>match f_ e x,f_ e v with
   |some (.ptr id off),M y=>(match h.get id with
    |some (.cells (M ty) l)=>(match y.cs with
     |some cs=>if cs.length==sz&&eR (off+sz) l.length then K .undef (kQ id) (kQ id) (h.set id (M (.cells (M ty) (splice l off cs)))) nx else D
     |none=>D)
    |_=>D)
   |some (.pel id sz' j off),M y=>(match h.get id with
    |some (.rows ty p T xs)=>if aB sz' T.size then chk (e9 j xs.length) λ_=>(match hZ h y 40 T (aJ xs j) off sz with
     |some (z,m)=>if aO m id then D else K .undef (m|||kQ id) (m|||kQ id) ((eJ m h).set id (M (.rows ty p T (cL xs j z)))) nx
     |none=>D) else D
    |some (.cells (M ty) l)=>if aB sz 1&&(aB sz' 1&&aB off 0) then chk (e9 j l.length) λ_=>(match y.cs with
     |some cs=>if aB cs.length 1 then K .undef (kQ id) (kQ id) (h.set id (M (.cells (M ty) (splice l j.toNat cs)))) nx else D
     |none=>D) else D
    |_=>D)
   |_,_=>D
  |.nilc x=>match f_ e x with
   |some (.ptr id off)=>K (.ptr id off) 0 0 h nx
   |some (.pel id sz j off)=>K (.pel id sz j off) 0 0 h nx
   |some (.fel T xs j hj off)=>K (.fel T xs j hj off) 0 0 h nx
   |some (.clo g cap)=>K (.clo g cap) 0 0 h nx
   |_=>D
  |.bin op x y=>match f_ e x,f_ e y with
   |some u,M v=>ams op u v λr=>K r 0 0 h nx
   |_,_=>D
  |.eqs neg ds x y=>match rJ ds,f_ e x,f_ e y with
   |some T,M u,M v=>if u.isC||v.isC||V6 x||V6 y then D else (match u.cs,v.cs with
    |some lu,M lv=>(match fh PT.leaf 40 T lu,fh PT.leaf 40 T lv with
     |some (a,_,[]),M (b,_,[])=>K (.f .bool (Rm T a b !=neg)) 0 0 h nx
     |_,_=>D)
    |_,_=>D)
   |_,_,_=>D
  |.isnil neg x=>match f_ e x with
   |some .nil=>K (.f .bool (!neg)) 0 0 h nx
   |some .emp=>K .anyb 0 0 h nx
   |some (.f (.sl _) xs)=>aF (aB (ai xs) 0) (K .anyb 0 0 h nx) (K (.f .bool neg) 0 0 h nx)
   |some (.row id)=>(match h.get id with
    |some (.rows _ af _ _)=>K (.f .bool neg) 0 0 h nx
    |_=>D)
   |_=>D
  |.eqb neg x y=>match f_ e x,f_ e y with
   |some (.f .bool a),M (.f .bool b)=>K (.f .bool ((a==b) !=neg)) 0 0 h nx
   |_,_=>D
  |.not x=>match f_ e x with|some (.f .bool b)=>K (.f .bool (!b)) 0 0 h nx|_=>D
  |.conv k x=>match f_ e x with|some (.f (.int _) n)=>K (.f (.int k) (bl k n)) 0 0 h nx|_=>D
  |.slc sz x lo hi mx=>match f_ e x with
   |some v=>(match lo,hi,mx with
    |none,M (.const (.int _ 0)),M (.const (.int _ 0))=>if (lenOf h v).isSome then K .emp 0 0 h nx else D
    |none,M b,D=>(match v,f_ e b with
     |.f (.sl T) xs,M (.f (.int _) j)=>if aB sz T.size then chk (c_ 0 j&&c_ j (ai xs)) λ_=>K (.f (.sl T) (dQ (aQ j) xs)) 0 0 h nx else D
     |.row id,M (.f (.int _) j)=>(match h.get id with
      |some (.rows ty p T xs)=>if aB sz T.size then
        chk (c_ 0 j&&fP j (ai xs)) λ_=>K (.row nx) (kQ id) (kQ id|||kQ nx) ((h.set id (M (.dead p sz (ai xs)))).set nx (M (.rows ty af T (dQ (aQ j) xs)))) (nx+1)
       else D
      |_=>D)
     |_,_=>D)
    |some b,D,D=>(match v,f_ e b with
     |.f (.sl T) xs,M (.f (.int _) j)=>if aB sz T.size then chk (c_ 0 j&&c_ j (ai xs)) λ_=>K (.f (.sl T) (List.drop (aQ j) xs)) 0 0 h nx else D
     |.row id,M (.f (.int _) j)=>(match h.get id with
      |some (.rows _ _ T xs)=>if aB sz T.size then chk (c_ 0 j&&fP j (ai xs)) λ_=>K (.rtl id j) 0 0 h nx else D
      |_=>D)
     |_,_=>D)
    |_,_,_=>D)
   |none=>D
  |.fad off x=>match f_ e x with
   |some (.ptr id o)=>K (.ptr id (o+off)) 0 0 h nx
   |some (.pel id sz j o)=>K (.pel id sz j (o+off)) 0 0 h nx
   |some (.fel T xs j hj o)=>K (.fel T xs j hj (o+off)) 0 0 h nx
   |_=>D
  |.fld off sz ag x=>match f_ e x with
   |some (.agg l)=>(match Vp l off sz ag with|some v=>K v 0 0 h nx|none=>D)
   |some (.f T v)=>if T.one then D else (match oN 40 T v off sz ag with|some v=>K v 0 0 h nx|none=>D)
   |_=>D
  |.iad sz x i=>match f_ e x,f_ e i with
   |some (.row id),M (.f (.int _) j)=>(match h.get id with
    |some (.rows _ _ T xs)=>if aB sz T.size then chk (e9 j xs.length) λ_=>K (.pel id sz j 0) 0 0 h nx else D
    |_=>D)
   |some (.f (.sl T) xs),M (.f (.int _) j)=>if aB sz T.size then chk (e9 j (ai xs)) λhj=>K (.fel T xs j hj 0) 0 0 h nx else D
   |some (.csl id sz' n),M (.f (.int _) j)=>if aB sz' sz then chk (c_ 0 j&&fP j n) λ_=>K (.ptr id (aQ j*sz)) 0 0 h nx else D
   |_,_=>D
  |.iada n sz x i=>match f_ e x,f_ e i with
   |some (.ptr id off),M (.f (.int _) j)=>(match arrB n sz off (h.get id) with
    |some _=>chk (c_ 0 j&&fP j n) λ_=>K (.pel id sz j off) 0 0 h nx
    |none=>chk (c_ 0 j&&fP j n) λ_=>K (.ptr id (off+aQ j*sz)) 0 0 h nx)
   |_,_=>D
  |.idx n sz ag x i=>match f_ e x,f_ e i with
   |some v,M (.f (.int _) j)=>(match apx n sz v ag with
    |some ⟨T,xs⟩=>chk (c_ 0 j&&fP j n) λ_=>K (.f T (aJ xs j)) 0 0 h nx
    |none=>(match v with
     |.agg l=>chk (c_ 0 j&&fP j n) λ_=>(match Vp l (aQ j*sz) sz ag with|some v=>K v 0 0 h nx|none=>D)
     |.f T v=>if T.one then D else chk (c_ 0 j&&fP j n) λ_=>(match oN 40 T v (aQ j*sz) sz ag with|some v=>K v 0 0 h nx|none=>D)
     |_=>D))
   |_,_=>D
  |.ext x i=>match f_ e x with|some (.tup l)=>(match l[i]? with|some v=>K v 0 0 h nx|none=>D)|_=>D
  |.len x=>match f_ e x with
   |some v=>(match lenOf h v with|some n=>K (.f (.int .i64) (aM n)) 0 0 h nx|none=>D)
   |none=>D
  |.lens x=>match f_ e x with
   |some (.f .str s)=>K (.f (.int .i64) (aM (ai s))) 0 0 h nx
   |_=>D
  |.max x y=>match f_ e x,f_ e y with
   |some (.f (.int k) a),M (.f (.int k') b)=>if k==k' then K (.f (.int k) (fJ a b)) 0 0 h nx else D
   |_,_=>D
  |.min x y=>match f_ e x,f_ e y with
   |some (.f (.int k) a),M (.f (.int k') b)=>if k==k' then K (.f (.int k) (H7 a b)) 0 0 h nx else D
   |_,_=>D
  |.sidx x i=>match f_ e x,f_ e i with
   |some (.f .str s),M (.f (.int _) j)=>chk (e9 j (ai s)) λ_=>K (.f (.int .u8) (Bk s j)) 0 0 h nx
   |_,_=>D
  |.rng x=>match f_ e x with
   |some (.f .str s)=>K (.ptr nx 0) 0 (0|||kQ nx) ((eJ 0 h).set nx (M (.mp itK .un [((s,0),())]))) (nx+1)
   |_=>D
  |.nxt x=>match f_ e x with
   |some (.ptr id 0)=>(match h.get id with
    |some (.mp K' V es)=>(match itE K' V es with
     |some (s,p)=>aF (gF p (ai s)) (chk (fP (Bk s (aM p)) 128) λ_=>K (.tup [.f .bool J,.f (.int .i64) (aM p),.f (.int .i32) (Bk s (aM p))]) (kQ id) (0|||kQ id) ((eJ 0 h).set id (M (.mp itK .un [((s,aM (p+1)),())]))) nx)
       (K (.tup [.f .bool af]) (kQ id) (0|||kQ id) ((eJ 0 h).set id (M (.mp itK .un [((s,aM p),())]))) nx)
     |none=>D)
    |_=>D)
   |_=>D
  |.mkm=>K (.mp nx) 0 (0|||kQ nx) ((eJ 0 h).set nx (M (.mp .un .un []))) (nx+1)
  |.lku str ok z x k=>match f_ e x,f_ e k with
   |some (.mp id),M (.f KT L)=>(match h.get id with
    |some (.mp K' V es)=>if ZK str KT&&VW K' then (match mpE K' V es with
     |true=>(match cst z with|some v=>K (pkT ok v (.f .bool af)) (kQ id) 0 h nx|none=>D)
     |false=>(match vu (S:=KT) K' L,cst z with
      |some kv',M (.f Z zv)=>(match vu (S:=Z) V zv with
       |some zv'=>K (pkT ok (.f V (R5 kv' es zv')) (.f .bool (am9 kv' es))) (kQ id) 0 h nx
       |none=>D)
      |_,_=>D)) else D
    |some (.cells D l)=>(match vu (S:=KT) (.int .i64) L with
     |some n=>if !str&&(!ok&&uk z)&&(c_ 0 n&&fP n l.length) then (match l[aQ n]? with|some v=>K v (kQ id) 0 h nx|none=>D) else D
     |none=>D)
    |_=>D)
   |_,_=>D
  |.mup str x k v=>match f_ e x,f_ e k,f_ e v with
   |some (.mp id),M (.f KT L),M (.f VT vv)=>(match h.get id with
    |some (.mp K' V es)=>if (ZK str KT&&VT.one)&&VW K' then (match mpE K' V es with
     |true=>K .undef (kQ id) (0|||kQ id) ((eJ 0 h).set id (M (.mp KT VT [(L,vv)]))) nx
     |false=>(match vu (S:=KT) K' L,vu (S:=VT) V vv with
      |some kv',M vv'=>K .undef (kQ id) (0|||kQ id) ((eJ 0 h).set id (M (.mp K' V (VV kv' vv' es)))) nx
      |_,_=>D)) else D
    |_=>D)
   |some (.mp id),M (.f KT L),M (.row i)=>(match h.get id with
    |some (.cells D l)=>(match vu (S:=KT) (.int .i64) L with
     |some n=>if !str&&(c_ 0 n&&fP n l.length) then K .undef (kQ id) (0|||kQ id) ((eJ 0 h).set id (M (.cells D (splice l (aQ n) [.row i])))) nx else D
     |none=>D)
    |_=>D)
   |_,_,_=>D
  |.lenm x=>match f_ e x with
   |some (.mp id)=>(match h.get id with
    |some (.mp K' _ es)=>if VW K' then K (.f (.int .i64) (aM es.length)) (kQ id) 0 h nx else D
    |_=>D)
   |_=>D
  |.mkf f caps=>match GF e caps with|some l=>K (.clo f l) 0 0 h nx|none=>D
  |_=>D
def acl {R:Type} (e:jd) (g:I (Nat×Bool)) (K:Bool->jd->I R):I R:=match g with
 |none=>K J e
 |some (t,want)=>match e.get t with
  |some (.f .bool b)=>(match want with
   |true=>aF b (K J (e.set t (M (.f .bool J)))) (K af (e.set t (M (.f .bool af))))
   |false=>aF b (K af (e.set t (M (.f .bool J)))) (K J (e.set t (M (.f .bool af)))))
  |some .undef=>K af e
  |_=>D
def Fh (e:jd) (d:I Nat) (v:TV):jd:=match d with
 |none=>e
 |some d=>e.set d (M v)
structure TS where
 e:jd
 h:bk
 nx:Nat
def Mu {R:Type} (con:FuncId->I co) (b_:TypeId->I Ty):Y tF->TS->Y FPm->(TS->Y FPm->I R)->I R
 |[],s,fs,K=>K s fs.reverse
 |o::r,s,fs,K=>acl s.e o.guard λrun e=>match run with
  |true=>eh con b_ o.op e s.h s.nx λv rd wr h nx=>if Mx h v then Mu con b_ r ⟨Fh e o.dst v,h,nx⟩ (⟨rd,wr⟩::fs) K else D
  |false=>Mu con b_ r ⟨Fh e o.dst .undef,s.h,s.nx⟩ (⟨0,0⟩::fs) K
inductive Adj where
 |nil (k:Nat) (ty:TypeId) (T:Ty)
 |cel (k:Nat) (off:Nat) (ty:TypeId) (T:Ty)
 |mpt (k:Nat) (K V:Ty)
 |mz (k n:Nat)
 |pk (k:Nat) (off:Nat) (T:Ty)
 |ren (k:Nat) (off:Nat)
mutual
def Mp (id sz n:Nat):TV->TV
 |.csl i s m=>if aB i id&&aB s sz&&aB m n then .row id else .csl i s m
 |.agg l=>.agg (Di id sz n l)
 |.tup l=>.tup (Di id sz n l)
 |.clo g l=>.clo g (Di id sz n l)
 |.f T v=>.f T v
 |.fel T xs j h off=>.fel T xs j h off
 |.pel a b c d=>.pel a b c d
 |.ptr a b=>.ptr a b
 |.row a=>.row a
 |.rtl a j=>.rtl a j
 |.emp=>.emp
 |.nil=>.nil
 |.mp a=>.mp a
 |.undef=>.undef
 |.np=>.np
 |.anyb=>.anyb
def Di (id sz n:Nat):Y TV->Y TV
 |[]=>[]
 |x::r=>Mp id sz n x::Di id sz n r
end
def Zw (id sz n:Nat):iB->iB
 |.cells ty l=>.cells ty (Di id sz n l)
 |.rows ty p T xs=>.rows ty p T xs
 |.dead p s m=>.dead p s m
 |.mp K V es=>.mp K V es
def aqg (s:TS) (k off:Nat):I (Nat×Nat×Nat):=match s.e.get k with
 |some (.csl id sz n)=>M (id,sz,n)
 |some (.agg l)=>(match l[off]? with|some (.csl id sz n)=>M (id,sz,n)|_=>D)
 |some (.ptr a o)=>(match s.h.get a with
  |some (.cells (M _) l)=>(match l[o+off]? with|some (.csl id sz n)=>M (id,sz,n)|_=>D)
  |_=>D)
 |_=>D
def pkS (s:TS) (T:Ty) (id sz n:Nat):I TS:=match s.h.get id with
 |some (.cells (M ty) l)=>if aB sz T.size then (match zO s.h T n l with
  |some (xs,m)=>if aO m id then D else M ⟨PT.updI (λ_ v=>Mp id sz n v) 1 0 s.e,(PT.updI (λ_ b=>Zw id sz n b) 1 0 (eJ m s.h)).set id (M (.rows ty af T xs)),s.nx⟩
  |none=>D) else D
 |_=>D
def ai0:TV->Bool
 |.nil=>J
 |.emp=>J
 |_=>af
def apn:I TV->I (Nat×Nat)
 |some (.ptr id o)=>M (id,o)
 |some (.csl id _ _)=>M (id,0)
 |some (.mp id)=>M (id,0)
 |_=>D
def Ns (s:TS):Adj->I TS
 |.nil k ty T=>match s.e.get k with
  |some v=>if ai0 v then M ⟨s.e.set k (M (.row s.nx)),s.h.set s.nx (M (.rows ty J T [])),s.nx+1⟩ else M s
  |none=>D
 |.cel k off ty T=>match apn (s.e.get k) with
  |some (id,o)=>(match s.h.get id with
   |some (.cells cty l)=>(match l[o+off]? with
    |some v=>if ai0 v then M ⟨s.e,(s.h.set s.nx (M (.rows ty J T []))).set id (M (.cells cty (splice l (o+off) [.row s.nx]))),s.nx+1⟩ else M s
    |none=>D)
   |_=>D)
  |_=>D
 |.mpt k K V=>match s.e.get k with
  |some (.mp id)=>(match s.h.get id with
   |some (.mp K' V' es)=>(match mpE K' V' es&&VW K with
    |true=>M ⟨s.e,s.h.set id (M (.mp K V [])),s.nx⟩
    |false=>M s)
   |_=>D)
  |_=>D
 |.mz k n=>match s.e.get k with
  |some (.mp id)=>(match s.h.get id with
   |some (.mp K' V' es)=>(match mpE K' V' es with
    |true=>M ⟨s.e,s.h.set id (M (.cells D (aA n .nil))),s.nx⟩
    |false=>D)
   |_=>M s)
  |_=>D
 |.pk k off T=>match aqg s k off with
  |some (id,sz,n)=>pkS s T id sz n
  |none=>D
 |.ren k off=>match s.e.get k with
  |some (.ptr b o)=>(match s.h.get b with
   |some (.cells (M cty) l)=>(match l[o+off]? with
    |some (.row id)=>(match s.h.get id with
     |some (.rows ty p T xs)=>M ⟨s.e,((s.h.set id (M (.dead p T.size xs.length))).set s.nx (M (.rows ty p T xs))).set b (M (.cells (M cty) (splice l (o+off) [.row s.nx]))),s.nx+1⟩
     |_=>D)
    |_=>D)
   |_=>D)
  |some (.row id)=>(match s.h.get id with
   |some (.rows ty p T xs)=>M ⟨s.e.set k (M (.row s.nx)),(s.h.set id (M (.dead p T.size xs.length))).set s.nx (M (.rows ty p T xs)),s.nx+1⟩
   |_=>D)
  |_=>D
def ab1 (s:TS):Y Adj->I TS
 |[]=>M s
 |a::r=>match Ns s a with|some s'=>ab1 s' r|none=>D
structure Ann where
 keep:ι
 ks:ι
 t:Tm
 pre:List Adj
abbrev Ann.D (A:Ann):Type:=A.t.ty.den
mutual
def uY:TV->Bool
 |.f _ _=>J
 |.fel _ _ _ _ _=>J
 |.emp=>J
 |.nil=>J
 |.undef=>J
 |.np=>J
 |.anyb=>J
 |.agg l=>rf l
 |.tup l=>rf l
 |.pel _ _ _ _=>af
 |.ptr _ _=>af
 |.csl _ _ _=>af
 |.row _=>af
 |.rtl _ _=>af
 |.mp _=>af
 |.clo _ _=>af
def rf:Y TV->Bool
 |[]=>J
 |x::r=>uY x&&rf r
end
def DJ (am:Nat) (e:jd):ι->jd
 |[]=>PT.leaf
 |k::r=>match e.get k with|some v=>if uY v&& !(aO am k) then (DJ am e r).set k (M v) else DJ am e r|none=>DJ am e r
def oG (e:jd):ι->I (Y TV)
 |[]=>M []
 |k::r=>match e.get k with|some v=>(match oG e r with|some l=>M (v::l)|none=>D)|none=>D
def Zy (e:jd):ι->Y TV->jd
 |k::r,v::l=>(Zy e r l).set k (M v)
 |_,_=>e
def IR (am:Nat) (e0 e:jd):ι->Bool
 |[]=>J
 |k::r=>(match e0.get k with
  |some v=> !(uY v)||aO am k||(match e.get k with|some _=>J|none=>af)
  |none=>J)&&IR am e0 e r
def M1 (np:Nat) (A:Ann) (am:Nat) (a s:TS):I A.D:=if eR np A.t.bs.length&&IR am a.e s.e A.keep then (match ab1 s A.pre with
 |some s=>(match oG s.e A.ks with
  |some vs=>(match Fr np A.t vs s.h with
   |some ⟨x,_,_,_⟩=>M x
   |none=>D)
  |none=>D)
 |none=>D) else D
def HZ (A:Ann) (am:Nat) (s:TS) (x:A.D):I TS:=match DL A.t x with
 |some (vs,h)=>if aB vs.length A.ks.length then M ⟨Zy (DJ am s.e A.keep) A.ks vs,h,A.t.bs.length⟩ else D
 |none=>D
inductive TC where
 |skip
 |reg (ops:List tF) (prs:List (Nat×Nat))
 |seq (a b:TC)
 |jseq (A:Ann) (a b:TC)
 |cond (c:Nat) (a b:TC)
 |block (id:Nat) (b:TC)
 |jblock (A:Ann) (id:Nat) (b:TC)
 |loop (A:Ann) (b:TC)
 |exit (id:Nat)
 |ret
 |defer (f:FuncId) (caps:List Operand) (t:Nat)
 |adj (l:List Adj) (c:TC)
 |split (k off lo n:Nat) (c:TC)
 |unl (n:Nat) (b:TC)
 |bad
def Q0:Y tF->Nat->Nat
 |[],acc=>acc
 |o::r,acc=>Q0 r (match o.dst with|some d=>acc|||kQ d|none=>acc)
def MA:ι->Nat->Nat
 |[],acc=>acc
 |k::r,acc=>MA r (acc|||kQ k)
def mU:Y Adj->Nat->Nat
 |[],acc=>acc
 |.nil k _ _::r,acc=>mU r (acc|||kQ k)
 |.cel _ _ _ _::r,acc=>mU r acc
 |.mpt _ _ _::r,acc=>mU r acc
 |.mz _ _::r,acc=>mU r acc
 |.pk _ _ _::r,acc=>mU r acc
 |.ren k _::r,acc=>mU r (acc|||kQ k)
def TC.asg:TC->Nat->Nat
 |.reg ops _,acc=>Q0 ops acc
 |.seq a b,acc=>b.asg (a.asg acc)
 |.jseq A a b,acc=>b.asg (a.asg (MA A.ks acc))
 |.cond _ a b,acc=>b.asg (a.asg acc)
 |.block _ b,acc=>b.asg acc
 |.jblock A _ b,acc=>b.asg (MA A.ks acc)
 |.loop A b,acc=>b.asg (MA A.ks acc)
 |.defer _ _ t,acc=>acc|||kQ t
 |.adj l c,acc=>c.asg (mU l acc)
 |.split _ _ _ _ c,acc=>c.asg acc
 |.unl _ b,acc=>b.asg acc
 |.skip,acc=>acc
 |.exit _,acc=>acc
 |.ret,acc=>acc
 |.bad,acc=>acc
inductive agi where
 |j (A:Ann)
 |a (l:List Adj)
 |s (k off lo n:Nat)
 |u (n:Nat)
def Jd (H:PT agi) (n:Nat) (c:TC):TC:=match H.get n with|some (.a l)=>.adj l c|some (.s k off lo m)=>.split k off lo m c|_=>c
def EC (H:PT agi):SC->Nat->TC×Nat
 |.skip,n=>(Jd H n .skip,n+1)
 |.reg o p,n=>(Jd H n (.reg o p),n+1)
 |.seq a b,n=>match EC H a (n+1) with
  |(a',k)=>(match EC H b k with|(b',k')=>((match H.get n with|some (.j A)=>.jseq A a' b'|_=>.seq a' b'),k'))
 |.cond c a b,n=>match EC H a (n+1) with
  |(a',k)=>(match EC H b k with|(b',k')=>(Jd H n (.cond c a' b'),k'))
 |.block id b,n=>match EC H b (n+1) with|(b',k)=>((match H.get n with|some (.j A)=>.jblock A id b'|_=>.block id b'),k)
 |.loop b,n=>match EC H b (n+1) with|(b',k)=>((match H.get n with|some (.j A)=>.loop A b'|some (.u m)=>.unl m b'|_=>.bad),k)
 |.exit id,n=>(Jd H n (.exit id),n+1)
 |.ret,n=>(Jd H n .ret,n+1)
 |.defer f c t,n=>(.defer f c t,n+1)
 |.bad,n=>(.bad,n+1)
def ae3 (s:TS) (k off:Nat):I (IntKind×Int):=match s.e.get k with
 |some (.f (.int kd) v)=>M (kd,v)
 |some (.ptr a o)=>(match s.h.get a with
  |some (.cells (M _) l)=>(match l[o+off]? with|some (.f (.int kd) v)=>M (kd,v)|_=>D)
  |_=>D)
 |_=>D
def Vv (s:TS) (k off:Nat) (kd:IntKind) (v:Int):I TS:=match s.e.get k with
 |some (.f (.int _) _)=>M ⟨s.e.set k (M (.f (.int kd) v)),s.h,s.nx⟩
 |some (.ptr a o)=>(match s.h.get a with
  |some (.cells (M ty) l)=>M ⟨s.e,s.h.set a (M (.cells (M ty) (splice l (o+off) [.f (.int kd) v]))),s.nx⟩
  |_=>D)
 |_=>D
def spl {R:Type} (v:Int) (f:Nat->I R):Nat->Nat->I R
 |_,0=>D
 |i,m+1=>aF (decide ((v:Int)=aM i)) (f i) (spl v f (i+1) m)
def ah4 {R:Type} (f:TS->(Ex->TS->I R)->I R):Nat->TS->(Ex->TS->I R)->I R
 |0,_,_=>D
 |m+1,s,K=>f s λex s'=>match ex with
  |.normal=>ah4 f m s' K
  |ex=>K ex s'
def pH {R:Type} (np:Nat) (con:FuncId->I co) (b_:TypeId->I Ty) (inert:FuncId->Bool):TC->TS->(Ex->TS->I R)->I R
 |.skip,s,K=>K .normal s
 |.reg ops prs,s,K=>Mu con b_ ops s [] λs' fs=>if GD fs prs then K .normal s' else D
 |.seq a b,s,K=>pH np con b_ inert a s λex s'=>match ex with|.normal=>pH np con b_ inert b s' K|ex=>K ex s'
 |.jseq A a b,s,K=>jn (pH np con b_ inert a s λex s'=>match ex with
   |.normal=>au (M1 np A (a.asg 0) s s') λx=>M (.inr x)
   |ex=>au (K ex s') λr=>M (.inl r)) λx=>(match HZ A (a.asg 0) s x with|some s'=>pH np con b_ inert b s' K|none=>D)
 |.cond c a b,s,K=>match s.e.get c with
  |some (.f .bool t)=>aF t (pH np con b_ inert a s K) (pH np con b_ inert b s K)
  |some .anyb=>Gg (pH np con b_ inert a s K) (pH np con b_ inert b s K)
  |_=>D
 |.block id b,s,K=>pH np con b_ inert b s λex s'=>match ex with
  |.exit i=>if aB i id then K .normal s' else K (.exit i) s'
  |ex=>K ex s'
 |.jblock A id b,s,K=>jn (pH np con b_ inert b s λex s'=>match ex with
   |.normal=>au (M1 np A (b.asg 0) s s') λx=>M (.inr x)
   |.exit i=>if aB i id then au (M1 np A (b.asg 0) s s') λx=>M (.inr x) else au (K (.exit i) s') λr=>M (.inl r)
   |.ret=>au (K .ret s') λr=>M (.inl r)) λx=>(match HZ A (b.asg 0) s x with|some s'=>K .normal s'|none=>D)
 |.loop A b,s,K=>au (M1 np A (b.asg 0) s s) λx=>iter (λx=>match HZ A (b.asg 0) s x with
   |some s'=>pH np con b_ inert b s' λex s'=>(match ex with
    |.normal=>au (M1 np A (b.asg 0) s s') λy=>M (.inl y)
    |ex=>au (K ex s') λr=>M (.inr r))
   |none=>D) x
 |.exit id,s,K=>K (.exit id) s
 |.ret,s,K=>K .ret s
 |.defer f caps t,s,K=>match GF s.e caps with
  |some l=>if inert f then K .normal ⟨s.e.set t (M (.clo f l)),s.h,s.nx⟩ else D
  |none=>D
 |.adj l c,s,K=>match ab1 s l with|some s'=>pH np con b_ inert c s' K|none=>D
 |.split k off lo n c,s,K=>match ae3 s k off with
  |some (kd,v)=>spl v (λi=>match Vv s k off kd (aM i) with|some s'=>pH np con b_ inert c s' K|none=>D) lo n
  |none=>D
 |.unl n b,s,K=>ah4 (λs K=>pH np con b_ inert b s K) n s K
 |.bad,_,_=>D
def LV:Nat->Y TV->jd
 |_,[]=>PT.leaf
 |k,x::r=>(LV (k+1) r).set k (M x)
def rvT (s:TS):RV->I TV
 |.tmp t=>s.e.get t
 |.cell a sz ag=>match s.e.get a with
  |some (.ptr id off)=>(match s.h.get id with|some (.cells (M _) l)=>Vp l off sz ag|_=>D)
  |_=>D
def Vx (s:TS):Y RV->I (Y TV)
 |[]=>M []
 |x::r=>match rvT s x with|some v=>(match Vx s r with|some l=>M (v::l)|none=>D)|none=>D
structure FT where
 pre:Tm
 post:Tm
 hints:PT agi
def act (con:FuncId->I co) (b_:TypeId->I Ty) (inert:FuncId->Bool) (F:I SF) (z:FT) (x:z.pre.ty.den):I z.post.ty.den:=
 match F with
 |some a=>(match DL z.pre x with
  |some (args,h)=>if eR args.length a.nt&&eR z.pre.bs.length z.post.bs.length then
    pH z.pre.bs.length con b_ inert (EC z.hints a.code 0).1 ⟨LV 0 args,h,z.pre.bs.length⟩ λex s=>(match ex with
    |.exit _=>D
    |_=>(match Vx s a.res with
     |some l=>(match Fr z.pre.bs.length z.post l s.h with
      |some ⟨y,_,_,_⟩=>(match DL z.post y with|some _=>M y|none=>D)
      |none=>D)
     |none=>D)) else D
  |none=>D)
 |none=>D
abbrev aL:Ty:=(.int .i64)
abbrev k_:Ty:=(.st (.pr .str (.pr aL (.pr aL (.pr .bool aL)))))
abbrev sC:Ty:=(.st (.pr .str .bool))
abbrev mw:Ty:=(.st (.pr .str aL))
abbrev qe:Ty:=(.st (.pr aL (.pr aL aL)))
abbrev mS:Ty:=(.st (.pr (.sl k_) (.pr (.sl sC) (.pr (.sl mw) (.pr (.sl .str) (.pr (.sl .str) (.sl qe)))))))
abbrev vx:Ty:=(.sl (.sl aL))
abbrev e_:Ty:=(.st (.pr aL (.pr (.sl aL) (.pr vx aL))))
abbrev rF:Ty:=(.st (.pr aL (.pr aL (.pr aL (.pr aL (.pr aL aL))))))
abbrev eB:Ty:=(.st (.pr aL (.sl aL)))
abbrev qG:Ty:=(.sl .bool)
abbrev iu:Ty:=(.st (.pr aL (.pr aL .bool)))
abbrev Iv:Ty:=(.st (.pr (.sl eB) (.pr aL (.pr qG (.sl iu)))))
abbrev gH:Ty:=(.st (.pr aL (.pr aL (.pr aL (.pr aL (.pr aL (.pr (.sl aL) (.sl aL))))))))
abbrev HW:Ty:=(.st (.pr aL (.pr aL (.pr .str (.pr aL (.pr aL .str))))))
abbrev tS:Ty:=(.st (.pr .str (.pr aL (.pr (.sl .str) (.sl .sm)))))
abbrev O0:Ty:=(.st (.pr (.sl HW) (.sl tS)))
abbrev xL:Ty:=(.st (.pr aL (.sl rF)))
abbrev vw:Ty:=(.st (.pr mS (.sl xL)))
abbrev wJ:Ty:=(.st (.pr Iv (.pr (.sl aL) (.pr (.sl aL) (.sl e_)))))
abbrev je:Ty:=(.st (.pr Iv (.pr (.sl aL) (.pr (.sl aL) (.sl aL)))))
abbrev E0:Ty:=(.sl (.int .u8))
abbrev zE:Ty:=(.st (.pr E0 aL))
abbrev iJ:Ty:=(.st (.pr aL aL))
abbrev mV:Ty:=(.st (.pr mS (.sl gH)))
abbrev UH:=(ζ×Int×Int×Bool×Int)
abbrev oK:=(Y UH)
abbrev ng:=(Y (ζ×Bool))
abbrev j9:=(ζ×Int)
abbrev dA:=(Y ζ)
abbrev fk:=(oK×ng×(Y j9)×dA×dA×Y π)
abbrev sV:=(oK×ng×(Y j9)×dA×dA×(Y π)×dA×Int×Int)
abbrev jC:=(Y (Int×η))
abbrev eA:=(Int×Int×Bool)
abbrev tH:=(jC×Int×(θ)×Y eA)
abbrev wH:=(Int×(η)×(Y η)×Int)
abbrev lP:=(ω)
abbrev ja:=(Int×Int×Int×Int×Int×(η)×η)
abbrev an1:=(Int×Int×(ζ)×Int×Int×ζ)
abbrev xI:=(Y an1)
abbrev xH:=(ζ×Int×dA×Y Sx)
abbrev C':=(Int×Int×Bool×Bool×Bool×Bool)
abbrev C_:=(fk×Y (Int×Y lP))
abbrev EX:=(υ)
abbrev gx:=(tH×(η)×(η)×η)
abbrev gY:=(η×Int)
abbrev yJ:=(tH×(η)×(η)×Y wH)
abbrev XN:=(Int×Int×(ζ)×(ζ)×Int×Int×ζ)
abbrev xJ:=(xI×(Y xH)×Int)
abbrev UI:=(Bool×Y ζ)
abbrev Ya23:=(Int×Int×wH×wH×Int×(η)×(Y η)×Int)
abbrev Ya24:=(wH×Int×Int×wH×Int×(η)×(Y η)×Int)
abbrev Ya25:=(wH×wH×Int×Int×Int×(η)×(Y η)×Int)
abbrev afu:=((Y Sx)×C'×gY×Bool×Y ζ)
abbrev Ya27:=(Int×Int×wH×Int×(η)×(Y η)×Int)
abbrev Ya28:=(wH×Int×Int×Int×(η)×(Y η)×Int)
abbrev Ya29:=(Int×Int×Int×(η)×(Y η)×Int)
abbrev ab3:=(Int×C'×gY×Bool×Y ζ)
abbrev aft:=(Sx×C'×gY×Bool×Y ζ)
abbrev ajf:=(ν×xJ×(Bool×Y Sx)×dA×Y ζ)
abbrev Nt:=(Sx×sV×Y lP)
abbrev EW:=(yJ×ja×Bool)
abbrev afs:=((Sx×Int×Int×Int)×sV×Y lP)
abbrev aje:=(ν×C'×gY×Bool×Y ζ)
abbrev ajd:=(j9×C'×gY×Bool×Y ζ)
abbrev ab2:=(C'×gY×UI×Y Sx)
abbrev ajc:=(Xp×C'×gY×Bool×Y ζ)
abbrev Ya42:=(wH×wH×wH×Int×Int)
abbrev afr:=((Y Sx)×sV×Y lP)
abbrev aX {α:Type} (l:Y α):Int:=aM (ai l)
abbrev cJ (n:Int):Int:=bl .i64 (n+1)
abbrev aD {R α:Type} (x:α):I (R⊕α):=M (bS x)
abbrev cQ {R α:Type} (x:R):I (R⊕α):=M (oh x)
abbrev bC {R:Type} (T:Ty) (l:Y T.den) (j:Int) (k:T.den->I R):I R:=chk (e9 j (ai l)) λ_=>lt (aJ (T:=T) l j) k
abbrev kZ {R:Type} (T:Ty) (l:Y T.den) (j:Int) (k:T.den->I R):I R:=chk (e9 j (ai l)) λ_=>chk (e9 j (ai l)) λ_=>lt (aJ (T:=T) l j) k
abbrev wQ {R α:Type} (j:Int) (l:Y α) (k:I R):I R:=chk (e9 j (ai l)) λ_=>k
abbrev bB {R:Type} (b:Bool) (k:I R):I R:=chk b λ_=>k
abbrev bg {R:Type} (a b:Int) (t f:I R):I R:=aF (decide (a=b)) t f
abbrev jk {R:Type} (a b:Int) (t f:I R):I R:=aF (!decide (a=b)) t f
abbrev bw {R:Type} (a b:Int) (t f:I R):I R:=aF (fP a b) t f
abbrev iZ {R:Type} (a b:Int) (t f:I R):I R:=aF (c_ a b) t f
def ck {R:Type} (b:Bool) (k:I R):I R:=chk b λ_=>chk b λ_=>k
def eD (s:Sx):Sx:=oz (Sx.op s,Sx.line s,Sx.name s,Sx.arg s,Sx.index s,eC (Xp.op (Sx.expr s),Xp.n (Sx.expr s),Xp.name (Sx.expr s),Xp.l (Sx.expr s)),Sx.body s,Sx.els s)
def kS (x:Unit):I dA:=
 (M ([[118,97,114],[118,111,108,97,116,105,108,101],[109,117,116,101,120],[114,119,108,111,99,107],[99,111,110,100],[102,117,116,117,114,101],[116,104,114,101,97,100],[105,102],[101,108,115,101],[119,104,105,108,101],[108,111,99,107],[114,101,97,100],[119,114,105,116,101],[116,114,97,110,115,97,99,116,105,111,110],[97,116,111,109,105,99],[119,97,105,116],[110,111,116,105,102,121],[110,111,116,105,102,121,97,108,108],[115,112,97,119,110],[106,111,105,110],[115,101,116],[103,101,116]]))
def jU (x:ζ):I (Bool):=
 (au (kS ()) λs=>(iter (σ:=Int) (λa=>(bw a (aX s) (bC (.str) s a λz=>(aF (decide ((z:ζ)=x)) (aD J) (cQ (cJ a)))) (aD af))) 0))
def l9 (x:Int):I (Bool):=
 (jn (iZ 97 x (iZ x 122 (aD J) (iZ 65 x (aD (c_ x 90)) (aD af))) (iZ 65 x (aD (c_ x 90)) (aD af))) λa=>(M a))
def r8 (x:Int):I (Bool):=
 (jn (iZ 48 x (aD (c_ x 57)) (aD af)) λa=>(M a))
def pW (x:Int):I (Bool):=
 (jn (au (l9 x) λs=>(aF s (aD J) (au (r8 x) λa=>(aF a (aD J) (aD (decide ((x:Int)=95))))))) λz=>(M z))
def fA (x:ζ):I (Bool):=
 (jn (bw (aX x) 1 (aD J) (bw 12 (aX x) (aD J) (wQ 0 x (au (l9 (Bk x 0)) λA=>(aF (!A) (aD J) (au (jU x) λz=>(aD z))))))) λL=>(aF L (M af) (iter (σ:=Int) (λa=>(bw a (aX x) (wQ a x (au (pW (Bk x a)) λs=>(aF (!s) (aD af) (cQ (cJ a))))) (aD J))) 0)))
def gi (x:Bool):I (Int):=
 (aF x (M 1) (M 0))
def uU (x:ν):I (Int×Bool):=
 (bg x.1 4 (M ((bl .i64 (0-x.2)),J)) (bg x.1 5 (au (gi (decide ((x.2:Int)=0))) λa=>(M (a,J))) (M (0,af))))
def s6 (x:π):I (Int×Bool):=
 (bg x.1 6 (M ((bl .i64 (x.2.1+x.2.2)),J)) (bg x.1 7 (M ((bl .i64 (x.2.1-x.2.2)),J)) (bg x.1 8 (M ((bl .i64 (x.2.1*x.2.2)),J)) (bg x.1 9 (bg x.2.2 0 (M (0,J)) (bB (!decide ((x.2.2:Int)=0)) (M ((bl .i64 (Int.tdiv x.2.1 x.2.2)),J)))) (bg x.1 10 (bg x.2.2 0 (M (0,J)) (bB (!decide ((x.2.2:Int)=0)) (M ((AQ x.2.1 x.2.2),J)))) (bg x.1 11 (au (gi (decide ((x.2.1:Int)=x.2.2))) λy1=>(M (y1,J))) (bg x.1 12 (au (gi (!decide ((x.2.1:Int)=x.2.2))) λy2=>(M (y2,J))) (bg x.1 13 (au (gi (fP x.2.1 x.2.2)) λy3=>(M (y3,J))) (bg x.1 14 (au (gi (c_ x.2.1 x.2.2)) λy4=>(M (y4,J))) (bg x.1 15 (au (gi (fP x.2.2 x.2.1)) λZ=>(M (Z,J))) (bg x.1 16 (au (gi (c_ x.2.2 x.2.1)) λU=>(M (U,J))) (bg x.1 17 (jn (jk x.2.1 0 (au (gi (!decide ((x.2.2:Int)=0))) λL=>(aD (L,J))) (au (gi af) λA=>(aD (A,J)))) λx7=>(M x7)) (bg x.1 18 (jn (jk x.2.1 0 (au (gi J) λs=>(aD (s,J))) (au (gi (!decide ((x.2.2:Int)=0))) λa=>(aD (a,J)))) λz=>(M z)) (M (0,af)))))))))))))))
def rZ (x:ν):I (Int):=
 (bw x.2 1 (M 0) (bB (!decide ((x.2:Int)=0)) (jn (bw (AQ x.1 x.2) 0 (aD (bl .i64 ((AQ x.1 x.2)+x.2))) (aD (AQ x.1 x.2))) λa=>(M a))))
def mO (x:Int):I (Int):=
 (jn (bg x 1 (aD J) (aD (decide ((x:Int)=2)))) λz=>(aF z (M 0) (jn (iZ 3 x (aD (c_ x 5)) (aD af)) λs=>(aF s (M 1) (jn (iZ 6 x (aD (c_ x 18)) (aD af)) λa=>(aF a (M 2) (M (-1))))))))
def mF (rr02_ShapedExpr:Xp->I (Bool)) (x:Xp):I (Bool):=
 (jn (bg (Xp.op x) 2 (aD (J,eC ((Xp.op x),(Xp.n x),(Xp.name x),(Xp.l x)))) (aD ((decide (((Xp.op x):Int)=3)),eC ((Xp.op x),(Xp.n x),(Xp.name x),(Xp.l x))))) λa=>(jn (α:=Bool×Xp) (au (mO (Xp.op a.2)) λZ=>(jk Z (aM (ai (Xp.l a.2))) (aD (J,eC ((Xp.op a.2),(Xp.n a.2),(Xp.name a.2),(Xp.l a.2)))) (aF ((a.1==(!decide (((Xp.name a.2):ζ)=([])))) !=J) (aD (J,eC ((Xp.op a.2),(Xp.n a.2),(Xp.name a.2),(Xp.l a.2)))) (aF a.1 (au (fA (Xp.name a.2)) λU=>(aF (!U) (aD (J,eC ((Xp.op a.2),(Xp.n a.2),(Xp.name a.2),(Xp.l a.2)))) (bw (Xp.n a.2) 0 (aD (J,eC ((Xp.op a.2),(Xp.n a.2),(Xp.name a.2),(Xp.l a.2)))) (jk (Xp.op a.2) 1 (aD ((!decide (((Xp.n a.2):Int)=0)),eC ((Xp.op a.2),(Xp.n a.2),(Xp.name a.2),(Xp.l a.2)))) (aD (af,eC ((Xp.op a.2),(Xp.n a.2),(Xp.name a.2),(Xp.l a.2)))))))) (bw (Xp.n a.2) 0 (aD (J,eC ((Xp.op a.2),(Xp.n a.2),(Xp.name a.2),(Xp.l a.2)))) (jk (Xp.op a.2) 1 (aD ((!decide (((Xp.n a.2):Int)=0)),eC ((Xp.op a.2),(Xp.n a.2),(Xp.name a.2),(Xp.l a.2)))) (aD (af,eC ((Xp.op a.2),(Xp.n a.2),(Xp.name a.2),(Xp.l a.2)))))))))) λz=>(aF z.1 (M af) (iter (σ:=Int×Xp) (λs=>(bw s.1 (aM (ai (Xp.l s.2))) (bC (.ex) (Xp.l s.2) s.1 λA=>(au (rr02_ShapedExpr A) λL=>(aF (!L) (aD af) (cQ ((cJ s.1),eC ((Xp.op s.2),(Xp.n s.2),(Xp.name s.2),(Xp.l s.2))))))) (aD J))) (0,eC ((Xp.op z.2),(Xp.n z.2),(Xp.name z.2),(Xp.l z.2)))))))
def ir:Nat->Xp->I (Bool)
 |0,_=>D
 |n+1,x=>mF (ir n) x
theorem tm (n:Nat) (x:Xp):ir (n+1) x=mF (ir n) x:=rfl
def ju (x:Xp):I (Bool):=ir fuel x
def pV (x:Xp):I (Bool):=
 (jn (α:=Bool) (bg (Xp.op x) 0 (bg (Xp.n x) 0 (aF (decide (((Xp.name x):ζ)=([]))) (aD (decide (((aM (ai (Xp.l x))):Int)=0))) (aD af)) (aD af)) (aD af)) λa=>(M a))
def ky (rr02_ShapedStmt:Sx->I (Bool)) (rr02_ShapedStmts:(Y Sx)->I (Bool)) (x:Sx):I (Bool):=
 (jn (bw (Sx.op x) 1 (aD (J,eD x)) (aD ((fP 15 (Sx.op x)),eD x))) λx1=>(aF x1.1 (M af) (jn (bg (Sx.op x1.2) 2 (aD (J,eD x1.2)) (bg (Sx.op x1.2) 3 (aD (J,eD x1.2)) (bg (Sx.op x1.2) 7 (aD (J,eD x1.2)) (aD ((decide (((Sx.op x1.2):Int)=8)),eD x1.2))))) λL=>(jn (α:=Bool×Sx) (aF L.1 (aF (!decide (((Sx.name L.2):ζ)=([]))) (aD (J,eD L.2)) (aF (!L.1) (au (fA (Sx.name L.2)) λy4=>(aD ((!y4),eD L.2))) (aD (af,eD L.2)))) (aF (!L.1) (au (fA (Sx.name L.2)) λy5=>(aD ((!y5),eD L.2))) (aD (af,eD L.2)))) λA=>(aF A.1 (M af) (jn (α:=Bool×Sx) (bg (Sx.op A.2) 15 (au (fA (Sx.arg A.2)) λy7=>(aF (!y7) (aD (J,eD A.2)) (jk (Sx.op A.2) 15 (aD ((!decide (((Sx.arg A.2):ζ)=([]))),eD A.2)) (aD (af,eD A.2))))) (jk (Sx.op A.2) 15 (aD ((!decide (((Sx.arg A.2):ζ)=([]))),eD A.2)) (aD (af,eD A.2)))) λz=>(aF z.1 (M af) (jn (bw 1 (aM (ai (Sx.index z.2))) (aD (J,eD z.2)) (jk (Sx.op z.2) 1 (bw 0 (aM (ai (Sx.index z.2))) (aD (J,eD z.2)) (bg (aM (ai (Sx.index z.2))) 1 (bC (.ex) (Sx.index z.2) 0 λz9=>(au (ju z9) λy10=>(aD ((!y10),eD z.2)))) (aD (af,eD z.2)))) (bg (aM (ai (Sx.index z.2))) 1 (bC (.ex) (Sx.index z.2) 0 λz11=>(au (ju z11) λy12=>(aD ((!y12),eD z.2)))) (aD (af,eD z.2))))) λZ=>(aF Z.1 (M af) (jn (bg (Sx.op Z.2) 1 (aD (J,eD Z.2)) (bg (Sx.op Z.2) 2 (aD (J,eD Z.2)) (bg (Sx.op Z.2) 3 (aD (J,eD Z.2)) (aD ((decide (((Sx.op Z.2):Int)=14)),eD Z.2))))) λa=>(jn (aF a.1 (au (ju (eC ((Xp.op (Sx.expr a.2)),(Xp.n (Sx.expr a.2)),(Xp.name (Sx.expr a.2)),(Xp.l (Sx.expr a.2))))) λy15=>(aF (!y15) (aD (J,eD a.2)) (aF (!a.1) (au (pV (eC ((Xp.op (Sx.expr a.2)),(Xp.n (Sx.expr a.2)),(Xp.name (Sx.expr a.2)),(Xp.l (Sx.expr a.2))))) λy16=>(aD ((!y16),eD a.2))) (aD (af,eD a.2))))) (aF (!a.1) (au (pV (eC ((Xp.op (Sx.expr a.2)),(Xp.n (Sx.expr a.2)),(Xp.name (Sx.expr a.2)),(Xp.l (Sx.expr a.2))))) λy17=>(aD ((!y17),eD a.2))) (aD (af,eD a.2)))) λU=>(aF U.1 (M af) (jn (iZ 2 (Sx.op U.2) (aD ((c_ (Sx.op U.2) 8),eD U.2)) (aD (af,eD U.2))) λs=>(jn (aF (!s.1) (bw 0 (aM (ai (Sx.body s.2))) (aD (J,eD s.2)) (jk (Sx.op s.2) 2 (aD ((fP 0 (aM (ai (Sx.els s.2)))),eD s.2)) (aD (af,eD s.2)))) (jk (Sx.op s.2) 2 (aD ((fP 0 (aM (ai (Sx.els s.2)))),eD s.2)) (aD (af,eD s.2)))) λx19=>(aF x19.1 (M af) (jn (au (rr02_ShapedStmts (Sx.body x19.2)) λy21=>(aF y21 (au (rr02_ShapedStmts (Sx.els x19.2)) λy22=>(aD y22)) (aD af))) λx20=>(M x20)))))))))))))))))
def jL (rr02_ShapedStmt:Sx->I (Bool)) (rr02_ShapedStmts:(Y Sx)->I (Bool)) (x:Y Sx):I (Bool):=
 (iter (σ:=Int) (λa=>(bw a (aX x) (wQ a x (au (rr02_ShapedStmt (aJ (T:=.sm) x a)) λs=>(aF (!s) (aD af) (cQ (cJ a))))) (aD J))) 0)
mutual
def eL:Nat->Sx->I (Bool)
 |0,_=>D
 |n+1,x=>ky (eL n) (dN n) x
def dN:Nat->(Y Sx)->I (Bool)
 |0,_=>D
 |n+1,x=>jL (eL n) (dN n) x
end
theorem Aj (n:Nat) (x:Sx):eL (n+1) x=ky (eL n) (dN n) x:=rfl
theorem zA (n:Nat) (x:Y Sx):dN (n+1) x=jL (eL n) (dN n) x:=rfl
def ox (x:Y Sx):I (Bool):=dN fuel x
def kw (x:Int×Int×(ζ)×Int×Int×ζ):I (Bool):=
 (jn (bw x.1 1 (aD (J,x)) (bw 6 x.1 (aD (J,x)) (au (fA x.p2) λA=>(aF (!A) (aD (J,x)) (bw x.p3 0 (aD (J,x)) (jk x.1 1 (aD ((!decide ((x.p3:Int)=0)),x)) (aD (af,x)))))))) λa=>(aF a.1 (M af) (jn (α:=Bool×Int×Int×(ζ)×Int×Int×ζ) (bg a.2.1 5 (au (fA a.q6) λz=>(aF (!z) (aD (J,a.2)) (jk a.2.1 5 (aD ((!decide ((a.q6:ζ)=([]))),a.2)) (aD (af,a.2))))) (jk a.2.1 5 (aD ((!decide ((a.q6:ζ)=([]))),a.2)) (aD (af,a.2)))) λs=>(aF s.1 (M af) (jn (α:=Bool) (bw (-9223372036854775808) s.p5 (bg s.p5 0 (aD J) (bg s.2.1 1 (aD J) (aD (decide ((s.2.1:Int)=2))))) (aD af)) λL=>(M L))))))
def qr (x:xI×Y xH):I (Bool):=
 (iter (σ:=Int×xI×Y xH) (λz=>(bw z.1 (aX z.2.1) (bC HW z.2.1 z.1 λz2=>(au (kw z2) λy3=>(aF (!y3) (aD af) (cQ ((cJ z.1),z.2))))) (au (iter (σ:=Int×xI×Y xH) (λs=>(bw s.1 (aX s.2.2) (bC tS s.2.2 s.1 λz5=>(iter (σ:=Int×(xI×Y xH)×(ζ)×Int×dA×Y Sx) (λa=>(bw a.1 (aX a.p4) (bC (.str) a.p4 a.1 λZ=>(au (fA Z) λy8=>(aF (!y8) (aD (bS af)) (cQ ((cJ a.1),a.2))))) (au (jn (au (fA a.p2) λL=>(aF (!L) (aD (J,a.2.1)) (au (ox a.q5) λA=>(aD ((!A),a.2.1))))) λU=>(aF U.1 (aD af) (cQ ((cJ s.1),U.2)))) λr=>M (bS r)))) (0,s.2,z5))) (aD (fP 0 (aX s.2.2))))) (0,z.2)) λr=>M (bS r)))) (0,x))
def jq (x:dA×ζ):I (Int):=
 (iter (σ:=Int) (λa=>(bw a (aX x.1) (bC (.str) x.1 a λs=>(aF (decide ((s:ζ)=x.2)) (aD a) (cQ (cJ a)))) (aD (-1)))) 0)
def ip (x:xI×ζ):I (Int):=
 (iter (σ:=Int) (λa=>(bw a (aX x.1) (bC HW x.1 a λs=>(aF (decide ((s.2.2.1:ζ)=x.2)) (aD a) (cQ (cJ a)))) (aD (-1)))) 0)
def hX (x:(Y xH)×ζ):I (Int):=
 (iter (σ:=Int) (λa=>(bw a (aX x.1) (bC tS x.1 a λs=>(aF (decide ((s.1:ζ)=x.2)) (aD a) (cQ (cJ a)))) (aD (-1)))) 0)
def qp (x:(xI×Y xH)×Int×ζ):I (Int):=
 (jn (iZ 0 x.2.1 (bw x.2.1 (aX x.1.2) (bC tS x.1.2 x.2.1 λZ=>(au (jq (Z.2.2.1,x.2.2)) λy3=>(aD ((c_ 0 y3),x.1)))) (aD (af,x.1))) (aD (af,x.1))) λa=>(aF a.1 (M 8) (au (ip (a.2.1,x.2.2)) λz=>(bw z 0 (au (hX (a.2.2,x.2.2)) λy5=>(iZ 0 y5 (M 7) (M 0))) (wQ z a.2.1 (lt ((aJ (T:=HW) a.2.1 z).1) λs=>(bg s 1 (bC HW a.2.1 z λU=>(jk U.2.2.2.1 0 (M 2) (M 1))) (bg s 2 (M 1) (jn (bg s 3 (aD ((decide ((s:Int)=3)),a.2)) (bg s 4 (aD ((decide ((s:Int)=4)),a.2)) (bg s 5 (aD ((decide ((s:Int)=5)),a.2)) (aD ((decide ((s:Int)=6)),a.2))))) λA=>(aF A.1 (bC HW A.2.1 z λL=>(M L.1)) (M 9)))))))))))
def gQ (x:(xI×Y xH)×Int×(ζ)×Int×Int):I (Int):=
 (au (qp (x.1,x.2.1,x.p2)) λa=>(bg a 0 (M 5) (jn (jk a x.p3 (aD (!decide ((a:Int)=x.q4))) (aD af)) λs=>(aF s (M 6) (M 0)))))
def vg (rr04_Nodes:Xp->I ν) (x:Xp):I ν:=
 (iter (σ:=(π)×Xp) (λa=>(bw a.1.2.2 (aM (ai (Xp.l a.2))) (bC (.ex) (Xp.l a.2) a.1.2.2 λz=>(au (rr04_Nodes z) λs=>(cQ (((bl .i64 (a.1.1+s.1)),(fJ a.1.2.1 s.2),(cJ a.1.2.2)),eC ((Xp.op a.2),(Xp.n a.2),(Xp.name a.2),(Xp.l a.2)))))) (aD (a.1.1,(cJ a.1.2.1))))) ((1,0,0),eC ((Xp.op x),(Xp.n x),(Xp.name x),(Xp.l x))))
def nZ:Nat->Xp->I ν
 |0,_=>D
 |n+1,x=>vg (nZ n) x
theorem yY (n:Nat) (x:Xp):nZ (n+1) x=vg (nZ n) x:=rfl
def CE (x:Xp):I ν:=nZ fuel x
def ve (rr04_names:((xI×Y xH)×Int×Xp)->I (Int)) (x:(xI×Y xH)×Int×Xp):I (Int):=
 (jn (α:=Int×(xI×Y xH)×Xp) (bg (Xp.op x.2.2) 2 (au (gQ (x.1,x.2.1,(Xp.name x.2.2),8,1)) λZ=>(aD (Z,x.1,eC ((Xp.op x.2.2),(Xp.n x.2.2),(Xp.name x.2.2),(Xp.l x.2.2))))) (bg (Xp.op x.2.2) 3 (au (gQ (x.1,x.2.1,(Xp.name x.2.2),2,2)) λU=>(aD (U,x.1,eC ((Xp.op x.2.2),(Xp.n x.2.2),(Xp.name x.2.2),(Xp.l x.2.2))))) (aD (0,x.1,eC ((Xp.op x.2.2),(Xp.n x.2.2),(Xp.name x.2.2),(Xp.l x.2.2)))))) λz=>(iter (σ:=(ν)×(xI×Y xH)×Xp) (λa=>(jn (bw a.1.2 (aM (ai (Xp.l a.2.2))) (aD ((decide ((a.1.1:Int)=0)),a.2.1,eC ((Xp.op a.2.2),(Xp.n a.2.2),(Xp.name a.2.2),(Xp.l a.2.2)))) (aD (af,a.2.1,eC ((Xp.op a.2.2),(Xp.n a.2.2),(Xp.name a.2.2),(Xp.l a.2.2))))) λs=>(aF s.1 (bC (.ex) (Xp.l s.2.2) a.1.2 λA=>(au (rr04_names (s.2.1,x.2.1,A)) λL=>(cQ ((L,(cJ a.1.2)),s.2.1,eC ((Xp.op s.2.2),(Xp.n s.2.2),(Xp.name s.2.2),(Xp.l s.2.2)))))) (aD a.1.1)))) ((z.1,0),z.2.1,eC ((Xp.op z.2.2),(Xp.n z.2.2),(Xp.name z.2.2),(Xp.l z.2.2)))))
def nY:Nat->((xI×Y xH)×Int×Xp)->I (Int)
 |0,_=>D
 |n+1,x=>ve (nY n) x
theorem yX (n:Nat) (x:(xI×Y xH)×Int×Xp):nY (n+1) x=ve (nY n) x:=rfl
def CD (x:(xI×Y xH)×Int×Xp):I (Int):=nY fuel x
def mN (x:(xI×Y xH)×Int×Xp):I (Int):=
 (au (ju (eC ((Xp.op x.2.2),(Xp.n x.2.2),(Xp.name x.2.2),(Xp.l x.2.2)))) λA=>(aF (!A) (M 3) (au (CE (eC ((Xp.op x.2.2),(Xp.n x.2.2),(Xp.name x.2.2),(Xp.l x.2.2)))) λs=>(jn (bw 24 s.1 (aD (J,x.1,eC ((Xp.op x.2.2),(Xp.n x.2.2),(Xp.name x.2.2),(Xp.l x.2.2)))) (aD ((fP 6 s.2),x.1,eC ((Xp.op x.2.2),(Xp.n x.2.2),(Xp.name x.2.2),(Xp.l x.2.2))))) λa=>(aF a.1 (M 2) (au (CD (a.2.1,x.2.1,eC ((Xp.op a.2.2),(Xp.n a.2.2),(Xp.name a.2.2),(Xp.l a.2.2)))) λz=>(M z)))))))
def dj (x:Bool):I (Int):=
 (aF x (M 7) (M 0))
def jp (x:ν):I (Int):=
 (jk x.1 0 (M x.1) (M x.2))
def ef (x:(Int×Int×ζ)×xJ×(Bool×Y Sx)×dA×Y ζ):I (Bool×xJ×(Bool×Y Sx)×dA×Y ζ):=
 (iter (σ:=Int×xJ×(Bool×Y Sx)×dA×Y ζ) (λa=>(bw a.1 (aX a.p2.2) (kZ (.sm) a.p2.2 a.1 λs=>(jn (α:=Bool×xJ×(Bool×Y Sx)×dA×Y ζ) (bg (Sx.op s) x.1.1 (aF (decide ((x.1.2.2:ζ)=([]))) (aD (J,a.2)) (aD ((decide (((Sx.name s):ζ)=x.1.2.2)),a.2))) (bg (Sx.op s) x.1.2.1 (aF (decide ((x.1.2.2:ζ)=([]))) (aD (J,a.2)) (aD ((decide (((Sx.name s):ζ)=x.1.2.2)),a.2))) (aD (af,a.2)))) λz=>(aF z.1 (aD (J,z.2)) (cQ ((cJ a.1),z.2))))) (aD (af,a.2)))) (0,x.2))
def mM (x:Sx×xJ×(Bool×Y Sx)×dA×Y ζ):I (Int×xJ×(Bool×Y Sx)×dA×Y ζ):=
 (au (ef ((7,7,[]),x.2)) λy1=>(bB (aB (ai x.q4) (ai y1.q4)&&(aB (ai x.p3) (ai y1.p3)&&(((x.p2.1==y1.p2.1)&&J)&&aB (ai x.p2.2) (ai y1.p2.2)&&J))) (au (ef ((8,8,[]),y1.2)) λy2=>(bB (aB (ai y1.q4) (ai y2.q4)&&(aB (ai y1.p3) (ai y2.p3)&&(((y1.p2.1==y2.p2.1)&&J)&&aB (ai y1.p2.2) (ai y2.p2.2)&&J))) (au (ef ((3,3,[]),y2.2)) λy3=>(bB (aB (ai y2.q4) (ai y3.q4)&&(aB (ai y2.p3) (ai y3.p3)&&(((y2.p2.1==y3.p2.1)&&J)&&aB (ai y2.p2.2) (ai y3.p2.2)&&J))) (bg (Sx.op x.1) 1 (bg (aM (ai (Sx.index x.1))) 0 (au (gQ ((x.2.1.1,x.2.1.2.1),x.2.1.2.2,(Sx.name x.1),8,1)) λy4=>(au (mN ((x.2.1.1,x.2.1.2.1),x.2.1.2.2,eC ((Xp.op (Sx.expr x.1)),(Xp.n (Sx.expr x.1)),(Xp.name (Sx.expr x.1)),(Xp.l (Sx.expr x.1))))) λy5=>(au (jp (y4,y5)) λy6=>(M (y6,y3.2))))) (au (gQ ((x.2.1.1,x.2.1.2.1),x.2.1.2.2,(Sx.name x.1),2,2)) λy7=>(bC (.ex) (Sx.index x.1) 0 λz8=>(au (mN ((x.2.1.1,x.2.1.2.1),x.2.1.2.2,z8)) λy9=>(au (mN ((x.2.1.1,x.2.1.2.1),x.2.1.2.2,eC ((Xp.op (Sx.expr x.1)),(Xp.n (Sx.expr x.1)),(Xp.name (Sx.expr x.1)),(Xp.l (Sx.expr x.1))))) λy10=>(au (jp (y9,y10)) λy11=>(au (jp (y7,y11)) λy12=>(M (y12,y3.2))))))))) (jn (bg (Sx.op x.1) 2 (aD ((decide (((Sx.op x.1):Int)=2)),y3.2.1,y3.p2,eD x.1,(x.2.1.1,x.2.1.2.1),y3.q3)) (aD ((decide (((Sx.op x.1):Int)=3)),y3.2.1,y3.p2,eD x.1,(x.2.1.1,x.2.1.2.1),y3.q3))) λz=>(aF z.1 (au (mN (z.p4,x.2.1.2.2,eC ((Xp.op (Sx.expr z.p3)),(Xp.n (Sx.expr z.p3)),(Xp.name (Sx.expr z.p3)),(Xp.l (Sx.expr z.p3))))) λy14=>(M (y14,z.2.1,z.p2,z.q5))) (bg (Sx.op x.1) 4 (jn (α:=Int×xJ×(Bool×Y Sx)×dA×Y ζ) (au (gQ (z.p4,x.2.1.2.2,(Sx.name z.p3),3,3)) λy16=>(aF y1.1 (au (dj J) λy17=>(au (jp (y16,y17)) λy18=>(aD (y18,z.2.1,z.p2,z.q5)))) (au (ef ((4,4,(Sx.name z.p3)),z.2.1,z.p2,z.q5)) λy19=>(bB (aB (ai z.q6) (ai y19.q4)&&(aB (ai z.p5) (ai y19.p3)&&(((z.p2.1==y19.p2.1)&&J)&&aB (ai z.p2.2) (ai y19.p2.2)&&J))) (au (dj y19.1) λy20=>(au (jp (y16,y20)) λy21=>(aD (y21,y19.2)))))))) λx15=>(M x15)) (jn (bg (Sx.op x.1) 5 (aD ((decide (((Sx.op x.1):Int)=5)),z.2.1,z.p2,eD z.p3,z.q4)) (aD ((decide (((Sx.op x.1):Int)=6)),z.2.1,z.p2,eD z.p3,z.q4))) λs=>(aF s.1 (jn (α:=Int×xJ×(Bool×Y Sx)×dA×Y ζ) (au (gQ (s.p4,x.2.1.2.2,(Sx.name s.p3),4,4)) λy24=>(aF y1.1 (au (dj J) λy25=>(au (jp (y24,y25)) λy26=>(aD (y26,s.2.1,s.p2,s.q5)))) (au (ef ((5,6,(Sx.name s.p3)),s.2.1,s.p2,s.q5)) λy27=>(bB (aB (ai s.q6) (ai y27.q4)&&(aB (ai s.p5) (ai y27.p3)&&(((s.p2.1==y27.p2.1)&&J)&&aB (ai s.p2.2) (ai y27.p2.2)&&J))) (au (dj y27.1) λy28=>(au (jp (y24,y28)) λy29=>(aD (y29,y27.2)))))))) λx23=>(M x23)) (bg (Sx.op x.1) 7 (au (dj y1.1) λy30=>(M (y30,s.2.1,s.p2,s.q5))) (bg (Sx.op x.1) 8 (jn (aF y1.1 (au (dj J) λy32=>(aD (y32,s.2.1,s.p2,s.q5))) (au (dj y2.1) λy33=>(aD (y33,s.2.1,s.p2,s.q5)))) λx31=>(M x31)) (jn (bg (Sx.op x.1) 9 (aD ((decide (((Sx.op x.1):Int)=9)),s.2.1,s.p2,eD s.p3,s.q4)) (bg (Sx.op x.1) 10 (aD ((decide (((Sx.op x.1):Int)=10)),s.2.1,s.p2,eD s.p3,s.q4)) (aD ((decide (((Sx.op x.1):Int)=11)),s.2.1,s.p2,eD s.p3,s.q4)))) λa=>(aF a.1 (au (gQ (a.p4,x.2.1.2.2,(Sx.name a.p3),5,5)) λy35=>(jk y35 0 (M (y35,a.2.1,a.p2,a.q5)) (au (ip (a.p4.1,(Sx.name a.p3))) λy36=>(bC HW a.p4.1 y36 λz37=>(au (ef ((4,4,z37.2.2.2.2.2),a.2.1,a.p2,a.q5)) λZ=>(bB (aB (ai a.q6) (ai Z.q4)&&(aB (ai a.p5) (ai Z.p3)&&(((a.p2.1==Z.p2.1)&&J)&&aB (ai a.p2.2) (ai Z.p2.2)&&J))) (jn (aF y1.1 (au (dj J) λy40=>(aD (y40,Z.2))) (aF (!Z.1) (au (dj J) λy41=>(aD (y41,Z.2))) (bg (Sx.op a.p3) 9 (au (dj y2.1) λy42=>(aD (y42,Z.2))) (au (dj af) λy43=>(aD (y43,Z.2)))))) λx39=>(M x39)))))))) (bg (Sx.op x.1) 12 (au (gQ (a.p4,x.2.1.2.2,(Sx.name a.p3),7,7)) λy44=>(jk y44 0 (M (y44,a.2.1,a.p2,a.q5)) (au (hX (a.p4.2,(Sx.name a.p3))) λy45=>(jn (aF y1.1 (aD (J,a.2.1,a.p2,eD a.p3,a.q5)) (aF y2.1 (aD (J,a.2.1,a.p2,eD a.p3,a.q5)) (aF y3.1 (aD (J,a.2.1,a.p2,eD a.p3,a.q5)) (bg y45 x.2.1.2.2 (aD (J,a.2.1,a.p2,eD a.p3,a.q5)) (aD ((decide ((y45:Int)=0)),a.2.1,a.p2,eD a.p3,a.q5)))))) λA=>(aF A.1 (M (7,A.2.1,A.p2,A.q4)) (au (jq (A.p4,(Sx.name A.p3))) λy47=>(iZ 0 y47 (M (8,A.2.1,A.p2,A.q4)) (bB (a8 (ai A.p4+ai ([(Sx.name A.p3)])) 16) (M (0,A.2.1,A.p2,(A.p4++([(Sx.name A.p3)])),A.q5)))))))))) (bg (Sx.op x.1) 13 (jn (α:=Int×xJ×(Bool×Y Sx)×dA×Y ζ) (au (gQ (a.p4,x.2.1.2.2,(Sx.name a.p3),7,7)) λy49=>(aF y1.1 (au (dj J) λy50=>(au (jp (y49,y50)) λy51=>(aD (y51,a.2.1,a.p2,a.q5)))) (aF y2.1 (au (dj J) λy52=>(au (jp (y49,y52)) λy53=>(aD (y53,a.2.1,a.p2,a.q5)))) (au (hX (a.p4.2,(Sx.name a.p3))) λy54=>(au (dj (decide ((y54:Int)=x.2.1.2.2))) λy55=>(au (jp (y49,y55)) λy56=>(aD (y56,a.2.1,a.p2,a.q5)))))))) λx48=>(M x48)) (bg (Sx.op x.1) 14 (jn (α:=Int×xJ×(Bool×Y Sx)×Sx×(xI×Y xH)×dA×Y ζ) (au (gQ (a.p4,x.2.1.2.2,(Sx.name a.p3),6,6)) λy58=>(aF y1.1 (au (dj J) λy59=>(au (jp (y58,y59)) λy60=>(aD (y60,a.2.1,a.p2,eD a.p3,a.q4)))) (au (dj y3.1) λy61=>(au (jp (y58,y61)) λy62=>(aD (y62,a.2.1,a.p2,eD a.p3,a.q4)))))) λU=>(jn (α:=Int×xJ×(Bool×Y Sx)×Sx×(xI×Y xH)×dA×Y ζ) (jn (bg U.1 0 (au (jq (U.q6,(Sx.name U.p3))) λy65=>(aD ((c_ 0 y65),U.2.1,U.p2,eD U.p3,U.q4))) (aD (af,U.2.1,U.p2,eD U.p3,U.q4))) λx64=>(aF x64.1 (aD (8,x64.2.1,x64.p2,eD x64.p3,x64.q4)) (aD (U.1,x64.2.1,x64.p2,eD x64.p3,x64.q4)))) λL=>(bB (a8 (ai L.q6+ai ([(Sx.name L.p3)])) 16) (au (mN (L.p4,x.2.1.2.2,eC ((Xp.op (Sx.expr L.p3)),(Xp.n (Sx.expr L.p3)),(Xp.name (Sx.expr L.p3)),(Xp.l (Sx.expr L.p3))))) λy66=>(au (jp (L.1,y66)) λy67=>(M (y67,L.2.1,L.p2,L.p5,(L.q6++([(Sx.name L.p3)]))))))))) (au (gQ (a.p4,x.2.1.2.2,(Sx.name a.p3),8,8)) λy68=>(au (gQ (a.p4,x.2.1.2.2,(Sx.arg a.p3),6,6)) λy69=>(au (dj y1.1) λy70=>(au (jp (y69,y70)) λy71=>(au (jp (y68,y71)) λy72=>(M (y72,a.2.1,a.p2,a.q5))))))))))))))))))))))))))
def mQ (rr04_walk_all:((Y Sx)×xJ×(Bool×Y Sx)×dA×Y ζ)->I ajf) (x:(Y Sx)×xJ×(Bool×Y Sx)×dA×Y ζ):I ajf:=
 (iter (σ:=Int×xJ×(Bool×Y Sx)×dA×Y ζ) (λA=>(bw A.1 (aX x.1) (bC (.sm) x.1 A.1 λU=>(au (mM (eD U,A.2)) λL=>(bB (aB (ai A.q4) (ai A.q4)&&(aB (ai A.p3) (ai A.p3)&&(((A.p2.1==L.p2.1)&&J)&&aB (ai A.p2.2) (ai L.p2.2)&&J))) (jn (α:=Int×xJ×Sx×(Bool×Y Sx)×dA×Y ζ) (bw 6 (bl .i64 ((aX L.p2.2)+1)) (aD (2,L.2.1,eD U,L.2.2)) (aD (L.1,L.2.1,eD U,L.2.2))) λa=>(jk a.1 0 (aD ((a.1,(Sx.line a.p2)),a.2.1,a.q3)) (bB (a8 (ai a.p3.2+ai ([oz (0,0,[],[],([]:Y Xp),eC (0,0,[],([]:Y Xp)),([]:Y Sx),([]:Y Sx))])) 176) (ck (e9 (aX a.p3.2) (ai (a.p3.2++([oz (0,0,[],[],([]:Y Xp),eC (0,0,[],([]:Y Xp)),([]:Y Sx),([]:Y Sx))])))) (au (rr04_walk_all ((Sx.body a.p2),a.2.1,(a.p3.1,(cL (a.p3.2++([oz (0,0,[],[],([]:Y Xp),eC (0,0,[],([]:Y Xp)),([]:Y Sx),([]:Y Sx))])) (aX a.p3.2) (eD a.p2))),a.q4)) λz=>(bB (aB (ai a.q5) (ai a.q5)&&(aB (ai a.p4) (ai a.p4)&&(((a.p3.1==a.p3.1)&&J)&&aB (ai (cL (a.p3.2++([oz (0,0,[],[],([]:Y Xp),eC (0,0,[],([]:Y Xp)),([]:Y Sx),([]:Y Sx))])) (aX a.p3.2) (eD a.p2))) (ai (cL (a.p3.2++([oz (0,0,[],[],([]:Y Xp),eC (0,0,[],([]:Y Xp)),([]:Y Sx),([]:Y Sx))])) (aX a.p3.2) (eD a.p2)))&&J))) (jn (bg z.1.1 0 (au (rr04_walk_all ((Sx.els a.p2),z.2)) λZ=>(bB (aB (ai z.q4) (ai z.q4)&&(aB (ai z.p3) (ai z.p3)&&(((z.p2.1==z.p2.1)&&J)&&aB (ai z.p2.2) (ai z.p2.2)&&J))) (aD Z))) (aD z)) λs=>(bB (c_ 0 (bl .i64 ((aX s.p2.2)-1))&&fP (bl .i64 ((aX s.p2.2)-1)) (ai s.p2.2)) (jk s.1.1 0 (aD (s.1,s.2.1,(af,(dQ (aQ (bl .i64 ((aX s.p2.2)-1))) s.p2.2)),s.q3)) (cQ ((cJ A.1),s.2.1,(af,(dQ (aQ (bl .i64 ((aX s.p2.2)-1))) s.p2.2)),s.q3)))))))))))))) (aD ((0,0),A.2)))) (0,x.2))
def iQ:Nat->((Y Sx)×xJ×(Bool×Y Sx)×dA×Y ζ)->I ajf
 |0,_=>D
 |n+1,x=>mQ (iQ n) x
theorem CQ (n:Nat) (x:(Y Sx)×xJ×(Bool×Y Sx)×dA×Y ζ):iQ (n+1) x=mQ (iQ n) x:=rfl
def wA (x:(Y Sx)×xJ×(Bool×Y Sx)×dA×Y ζ):I ajf:=iQ fuel x
def vh (rr04_Count:(Y Sx)->I (Int)) (x:Y Sx):I (Int):=
 (iter (σ:=ν) (λa=>(bw a.2 (aX x) (wQ a.2 x (lt (Sx.body (aJ (T:=.sm) x a.2)) λz=>(au (rr04_Count z) λL=>(wQ a.2 x (lt (Sx.els (aJ (T:=.sm) x a.2)) λs=>(au (rr04_Count s) λA=>(cQ ((bl .i64 ((bl .i64 (a.1+L))+A)),(cJ a.2))))))))) (aD a.1))) ((aX x),0))
def n_:Nat->(Y Sx)->I (Int)
 |0,_=>D
 |n+1,x=>vh (n_ n) x
theorem yZ (n:Nat) (x:Y Sx):n_ (n+1) x=vh (n_ n) x:=rfl
def CF (x:Y Sx):I (Int):=n_ fuel x
def r7 (x:Y an1):I ν:=
 (iter (σ:=υ) (λa=>(bw a.q4 (aX x) (jn (α:=Int×Int×Int×Int) (bC HW x a.q4 λs=>(bB (c_ 0 a.q4&&c_ a.q4 (ai x)) (au (ip ((dQ (aQ a.q4) x),s.p2)) λy4=>(iZ 0 y4 (cQ (bS (4,s.2.1))) (bw 4 s.p3 (cQ (bS (2,s.2.1))) (jn (jn (bg s.1 1 (aD ((decide ((s.1:Int)=1)),s)) (aD ((decide ((s.1:Int)=2)),s))) λL=>(aF L.1 (aD (((bl .i64 (a.1+(fJ L.p4 1))),a.2.1,a.p2,a.p3),L.2)) (jn (bg s.1 3 (aD ((decide ((s.1:Int)=3)),L.2)) (aD ((decide ((s.1:Int)=4)),L.2))) λU=>(aF U.1 (aD ((a.1,(cJ a.2.1),a.p2,a.p3),U.2)) (bg s.1 5 (aD ((a.1,a.2.1,(cJ a.p2),a.p3),U.2)) (aD ((a.1,a.2.1,a.p2,(cJ a.p3)),U.2))))))) λz=>(jn (bw 12 z.1.1 (aD (J,z.2)) (bw 4 z.1.2.1 (aD (J,z.2)) (bw 2 z.1.p2 (aD (J,z.2)) (aD ((fP 2 z.1.q3),z.2))))) λA=>(aF A.1 (cQ (bS (2,A.p2))) (bg A.2.1 5 (bB (c_ 0 a.q4&&c_ a.q4 (ai x)) (au (ip ((dQ (aQ a.q4) x),A.q6)) λy9=>(bw y9 0 (cQ (bS (5,A.p2))) (bC HW x y9 λz10=>(jk z10.1 3 (cQ (bS (6,A.p2))) (aD z.1)))))) (aD z.1)))))))))) λZ=>(cQ (Z.1,Z.2.1,Z.p2,Z.q3,(cJ a.q4)))) (aD (0,0)))) (0,0,0,0,0))
def ov (x:xI×Y xH):I ν:=
 (iter (σ:=Int×xI×Y xH) (λs=>(bw s.1 (aX s.2.2) (bC tS s.2.2 s.1 λL=>(jn (au (ip (s.2.1,L.1)) λy4=>(iZ 0 y4 (aD (J,s.2,L)) (bB (c_ 0 s.1&&c_ s.1 (ai s.2.2)) (au (hX ((dQ (aQ s.1) s.2.2),L.1)) λy5=>(aD ((c_ 0 y5),s.2,L)))))) λx3=>(aF x3.1 (aD (4,x3.p3)) (cQ ((cJ s.1),x3.2.1))))) (au (iter (σ:=Int×xI×Y xH) (λA=>(bw A.1 (aX A.2.2) (bC tS A.2.2 A.1 λZ=>(bw 4 (aX Z.p2) (aD (2,Z.2.1)) (iter (σ:=Int×(xI×Y xH)×(ζ)×Int×dA×Y Sx) (λa=>(bw a.1 (aX a.p4) (bC (.str) a.p4 a.1 λU=>(jn (au (ip (a.2.1.1,U)) λy11=>(iZ 0 y11 (aD (J,a.2)) (au (hX (a.2.1.2,U)) λy12=>(iZ 0 y12 (aD (J,a.2)) (bB (c_ 0 a.1&&c_ a.1 (ai a.p4)) (au (jq ((dQ (aQ a.1) a.p4),U)) λy13=>(aD ((c_ 0 y13),a.2)))))))) λz=>(aF z.1 (aD (bS (4,z.p3))) (cQ ((cJ a.1),z.2))))) (aD (oh ((cJ A.1),a.2.1))))) (0,A.2,Z)))) (aD (0,0)))) (0,s.2)) λr=>M (bS r)))) (0,x))
def fH (x:xI×Y xH):I ν:=
 (au (qr x) λy1=>(aF (!y1) (M (3,0)) (au (r7 x.1) λL=>(jk L.1 0 (M L) (bw 4 (aX x.2) (M (2,0)) (au (ov x) λA=>(jk A.1 0 (M A) (iter (σ:=(ν)×xI×Y xH) (λs=>(bw s.1.2 (aX s.2.2) (bC tS s.2.2 s.1.2 λZ=>(au (CF Z.2.2.2) λy6=>(cQ (((bl .i64 (s.1.1+y6)),(cJ s.1.2)),s.2)))) (au (bw 60 s.1.1 (M (2,0)) (iter (σ:=Int×(xI×Y xH)×xJ×(Bool×Y Sx)×dA×Y ζ) (λa=>(bw a.1 (aX a.2.1.2) (bC tS a.2.1.2 a.1 λU=>(au (wA (U.2.2.2,(a.p2.1,a.p2.2.1,a.1),a.q3)) λz=>(bB (aB (ai a.q5) (ai a.q5)&&(aB (ai a.p4) (ai a.p4)&&(((a.p3.1==a.p3.1)&&J)&&aB (ai a.p3.2) (ai a.p3.2)&&J))) (jk z.1.1 0 (aD z.1) (cQ ((cJ a.1),a.2.1,z.2)))))) (aD (0,0)))) (0,s.2,(s.2.1,s.2.2,0),(J,([]:Y Sx)),([]:Y ζ),([]:Y ζ)))) λr=>M (bS r)))) ((0,0),x)))))))))
def yi (rr06_sites:((Int×Int×Y Sx)×Y π)->I (Int×Y π)) (x:(Int×Int×Y Sx)×Y π):I (Int×Y π):=
 (iter (σ:=(ν)×Y π) (λa=>(bw a.1.2 (aX x.1.2.2) (wQ a.1.2 x.1.2.2 (lt (Sx.line (aJ (T:=.sm) x.1.2.2 a.1.2)) λs=>(bB (a8 (ai a.2+ai ([(x.1.1,a.1.1,s)])) 24) (wQ a.1.2 x.1.2.2 (lt (Sx.body (aJ (T:=.sm) x.1.2.2 a.1.2)) λU=>(au (rr06_sites ((x.1.1,(cJ a.1.1),U),(a.2++([(x.1.1,a.1.1,s)])))) λz=>(bB (aB (ai (a.2++([(x.1.1,a.1.1,s)]))) (ai (a.2++([(x.1.1,a.1.1,s)])))&&J) (wQ a.1.2 x.1.2.2 (lt (Sx.els (aJ (T:=.sm) x.1.2.2 a.1.2)) λL=>(au (rr06_sites ((x.1.1,z.1,L),z.2)) λA=>(bB (aB (ai z.2) (ai z.2)&&J) (cQ ((A.1,(cJ a.1.2)),A.2))))))))))))) (aD (a.1.1,a.2)))) ((x.1.2.1,0),x.2))
def qc:Nat->((Int×Int×Y Sx)×Y π)->I (Int×Y π)
 |0,_=>D
 |n+1,x=>yi (qc n) x
theorem If (n:Nat) (x:(Int×Int×Y Sx)×Y π):qc (n+1) x=yi (qc n) x:=rfl
def JI (x:(Int×Int×Y Sx)×Y π):I (Int×Y π):=qc fuel x
def kE (x:ng×ζ):I (Int):=
 (iter (σ:=Int) (λa=>(bw a (aX x.1) (bC sC x.1 a λs=>(aF (decide ((s.1:ζ)=x.2)) (aD a) (cQ (cJ a)))) (aD (-1)))) 0)
def l8 (x:fk×ζ):I (Int):=
 (iter (σ:=Int×oK×ng×(Y j9)×dA×dA×Y π) (λa=>(bw a.1 (aX a.2.1) (bC k_ a.2.1 a.1 λs=>(aF (decide ((s.1:ζ)=x.2)) (aD a.1) (cQ ((cJ a.1),a.2)))) (aD (-1)))) (0,x.1))
def uT (x:xI×Y xH):I fk:=
 (au (fH x) λy1=>(jk y1.1 0 (M (([]:Y UH),([]:Y (ζ×Bool)),([]:Y j9),([]:Y ζ),([]:Y ζ),([]:Y π))) (iter (σ:=Int×(xI×Y xH)×oK×ng×(Y j9)×Y ζ) (λA=>(bw A.1 (aX A.2.1.1) (bC HW A.2.1.1 A.1 λL=>(jn (α:=(xI×Y xH)×oK×ng×(Y j9)×Y ζ) (jn (bg L.1 1 (aD ((decide ((L.1:Int)=1)),A.2.1,L,A.2.2)) (aD ((decide ((L.1:Int)=2)),A.2.1,L,A.2.2))) λZ=>(aF Z.1 (iter (σ:=Int×(xI×Y xH)×an1×oK×ng×(Y j9)×Y ζ) (λs=>(bw s.1 (fJ s.p2.p3 1) (bB (a8 (ai s.p3+ai ([(s.p2.p2,s.1,s.p2.p3,(decide ((s.p2.1:Int)=2)),s.p2.p4)])) 48) (cQ ((cJ s.1),s.2.1,s.p2,(s.p3++([(s.p2.p2,s.1,s.p2.p3,(decide ((s.p2.1:Int)=2)),s.p2.p4)])),s.q4))) (aD (bS (s.2.1,s.q3))))) (0,Z.2)) (jn (bg L.1 3 (aD ((decide ((L.1:Int)=3)),Z.2)) (aD ((decide ((L.1:Int)=4)),Z.2))) λa=>(aF a.1 (bB (a8 (ai a.p4+ai ([(a.p2.p2,(decide ((a.p2.1:Int)=4)))])) 24) (aD (a.2.1,a.p3,(a.p4++([(a.p2.p2,(decide ((a.p2.1:Int)=4)))])),a.q5))) (bg L.1 5 (au (kE (a.p4,a.p2.q5)) λy8=>(bB (a8 (ai a.p5+ai ([(a.p2.p2,y8)])) 24) (aD (a.2.1,a.p3,a.p4,(a.p5++([(a.p2.p2,y8)])),a.q6)))) (bB (a8 (ai a.q6+ai ([a.p2.p2])) 16) (aD (a.2.1,a.p3,a.p4,a.p5,(a.q6++([a.p2.p2])))))))))) λx4=>(cQ ((cJ A.1),x4)))) (au (iter (σ:=Int×(xI×Y xH)×oK×ng×(Y j9)×dA×dA×Y π) (λz=>(bw z.1 (aX z.2.1.2) (bC tS z.2.1.2 z.1 λU=>(bB (a8 (ai z.p6+ai ([U.1])) 16) (bC tS z.2.1.2 z.1 λz11=>(au (JI ((z.1,0,z11.2.2.2),z.q7)) λy12=>(bB (aB (ai z.q7) (ai z.q7)&&J) (cQ ((cJ z.1),z.2.1,z.p2,z.p3,z.p4,z.p5,(z.p6++([U.1])),y12.2))))))) (aD z.2.2))) (0,A.2.1,A.p2,A.p3,A.p4,A.q5,([]:Y ζ),([]:Y π))) λr=>M (bS r)))) (0,x,([]:Y UH),([]:Y (ζ×Bool)),([]:Y j9),([]:Y ζ)))))
def pR (x:oK×ng×(Y j9)×dA×dA×Y π):I (dA×Bool):=
 (iter (σ:=Int×fk×Y ζ) (λs=>(bw s.1 (aX s.2.1.1) (jn (α:=Int×fk×Y ζ) (bC k_ s.2.1.1 s.1 λA=>(bB (a8 (ai s.2.2+ai ([A.1])) 16) (bg A.p2 0 (jk A.2.1 0 (cQ (bS (([]:Y ζ),af))) (aD ((cJ s.1),s.2.1,(s.2.2++([A.1]))))) (jn (α:=Bool×fk×dA×(ζ)×Int×Int×Bool×Int) (bw A.p2 1 (aD (J,s.2.1,(s.2.2++([A.1])),A)) (bw 4 A.p2 (aD (J,s.2.1,(s.2.2++([A.1])),A)) (aD ((fP (bl .i64 ((aX s.2.1.1)-s.1)) A.p2),s.2.1,(s.2.2++([A.1])),A)))) λx4=>(aF x4.1 (cQ (bS (([]:Y ζ),af))) (iter (σ:=Int×fk×dA×(ζ)×Int×Int×Bool×Int) (λz=>(bw z.1 z.p5 (bC k_ z.2.1.1 (bl .i64 (s.1+z.1)) λU=>(jn (jk U.2.1 z.1 (aD (J,z.2)) (aF (!decide ((U.1:ζ)=z.p3)) (aD (J,z.2)) (jk U.p2 z.p5 (aD (J,z.2)) (jk U.q4 z.q7 (aD (J,z.2)) (aD (U.p3,z.2)))))) λx7=>(aF x7.1 (aD (oh (bS (([]:Y ζ),af)))) (cQ ((cJ z.1),x7.2))))) (aD (bS ((bl .i64 (s.1+z.p5)),z.2.1,z.p2))))) (0,x4.2))))))) λx2=>(cQ x2)) (au (iter (σ:=Int×fk×Y ζ) (λL=>(bw L.1 (aX L.2.1.2.1) (bC sC L.2.1.2.1 L.1 λz9=>(bB (a8 (ai L.2.2+ai ([z9.1])) 16) (cQ ((cJ L.1),L.2.1,(L.2.2++([z9.1])))))) (au (iter (σ:=Int×fk×Y ζ) (λa=>(bw a.1 (aX a.2.1.p2) (bC mw a.2.1.p2 a.1 λZ=>(bB (a8 (ai a.2.2+ai ([Z.1])) 16) (cQ ((cJ a.1),a.2.1,(a.2.2++([Z.1])))))) (au (bB (a8 (ai a.2.2+ai a.2.1.p3) 16) (bB (a8 (ai (a.2.2++a.2.1.p3)+ai a.2.1.p4) 16) (M (((a.2.2++a.2.1.p3)++a.2.1.p4),J)))) λr=>M (bS r)))) (0,L.2)) λr=>M (bS r)))) (0,s.2)) λr=>M (bS r)))) (0,x,([]:Y ζ)))
def io (x:oK×ng×(Y j9)×dA×dA×Y π):I (Bool):=
 (jn (bw 12 (aX x.1) (aD (J,x)) (bw 4 (aX x.2.1) (aD (J,x)) (bw 2 (aX x.p2) (aD (J,x)) (bw 2 (aX x.p3) (aD (J,x)) (bw (aX x.p4) 1 (aD (J,x)) (bw 4 (aX x.p4) (aD (J,x)) (aD ((fP 60 (aX x.q5)),x)))))))) λx1=>(aF x1.1 (M af) (au (pR x1.2) λy2=>(aF (!y2.2) (M af) (iter (σ:=Int×oK×ng×(Y j9)×dA×dA×Y π) (λL=>(bw L.1 (aX y2.1) (jn (bC (.str) y2.1 L.1 λz5=>(au (fA z5) λy6=>(aF (!y6) (aD (J,L.2)) (bB (c_ 0 L.1&&c_ L.1 (ai y2.1)) (bC (.str) y2.1 L.1 λz7=>(au (jq ((dQ (aQ L.1) y2.1),z7)) λy8=>(aD ((c_ 0 y8),L.2)))))))) λx4=>(aF x4.1 (aD af) (cQ ((cJ L.1),x4.2)))) (au (iter (σ:=Int×oK×ng×(Y j9)×dA×dA×Y π) (λz=>(bw z.1 (aX z.p3) (bC mw z.p3 z.1 λZ=>(jn (bw Z.2 0 (aD (J,z.2)) (iZ (aX z.p2) Z.2 (aD (J,z.2)) (bC sC z.p2 Z.2 λz12=>(aD (z12.2,z.2))))) λx11=>(aF x11.1 (aD af) (cQ ((cJ z.1),x11.2))))) (au (iter (σ:=Int×oK×ng×(Y j9)×dA×dA×Y π) (λa=>(bw a.1 (aX a.q6) (jn (bC qe a.q6 a.1 λU=>(jn (bw U.1 0 (aD (J,a.2,U)) (aD ((c_ (aX a.p5) U.1),a.2,U))) λA=>(aF A.1 (cQ (bS af)) (jn (bg a.1 0 (aD (J,A.2)) (bC qe A.2.1.q5 (bl .i64 (a.1-1)) λz18=>(aD ((!decide ((z18.1:Int)=A.p2)),A.2)))) λs=>(aF s.1 (jn (jk s.p3 0 (aD (J,s.2.1)) (bw 0 a.1 (bC qe s.2.1.q5 (bl .i64 (a.1-1)) λz20=>(aD ((fP s.p2 z20.1),s.2.1))) (aD (af,s.2.1)))) λx19=>(aF x19.1 (cQ (bS af)) (aD x19.2))) (bC qe s.2.1.q5 (bl .i64 (a.1-1)) λz21=>(jk s.p3 (cJ z21.2.1) (cQ (bS af)) (aD s.2.1)))))))) λx14=>(cQ ((cJ a.1),x14))) (aD J))) (0,z.2)) λr=>M (bS r)))) (0,L.2)) λr=>M (bS r)))) (0,x1.2))))))
def jT (x:ω):I η:=
 (jn (bg x.1 1 (aD ((decide ((x.1:Int)=1)),x)) (bg x.1 6 (aD ((decide ((x.1:Int)=6)),x)) (bg x.1 10 (aD ((decide ((x.1:Int)=10)),x)) (aD ((decide ((x.1:Int)=27)),x))))) λz=>(aF z.1 (M ([z.p2])) (jn (bg x.1 2 (aD ((decide ((x.1:Int)=2)),z.2)) (aD ((decide ((x.1:Int)=3)),z.2))) λa=>(aF a.1 (M ([a.p2,a.p3])) (bg x.1 4 (M ([a.p2,a.p3,a.p4])) (bg x.1 7 (M ([a.p2,a.p4])) (jn (bg x.1 8 (aD ((decide ((x.1:Int)=8)),a.2)) (aD ((decide ((x.1:Int)=26)),a.2))) λs=>(aF s.1 (M ([s.p3])) (bg x.1 9 (M ([s.p3,s.p4])) (M ([]:η)))))))))))
def qn (x:Int):I (Bool):=
 (jn (iZ 1 x (aD (c_ x 5)) (aD af)) λa=>(M a))
def pU (x:(Y lP)×Int):I (Bool):=
 (iter (σ:=ν) (λa=>(iZ a.2 (aX x.1) (jn (jn (bw a.1 0 (aD J) (aD (c_ (aX x.1) a.1))) λU=>(aF U (cQ (bS af)) (bC rF x.1 a.1 λA=>(au (qn A.1) λL=>(aF (!L) (cQ (bS J)) (bC rF x.1 a.1 λz=>(bg z.1 5 (bC rF x.1 a.1 λs=>(aD s.2.1)) (aD (cJ a.1))))))))) λZ=>(cQ (Z,(cJ a.2)))) (aD af))) (x.2,0))
def jF (x:ν):I (Bool):=
 (jn (iZ 0 x.1 (aD (fP x.1 x.2)) (aD af)) λa=>(M a))
def nV (x:fk×Int×Int):I (Bool):=
 (jn (au (jF (x.2.1,(aX x.1.1))) λA=>(aF A (bC k_ x.1.1 x.2.1 λz=>(bg z.2.1 0 (bC k_ x.1.1 x.2.1 λs=>(jk s.2.2.1 0 (bC k_ x.1.1 x.2.1 λa=>(aD (decide ((a.2.2.1:Int)=x.2.2)))) (aD af))) (aD af))) (aD af))) λL=>(M L))
def mj (x:fk×Int×Int×Int×Int×Int×Int):I (Bool):=
 (bg x.2.1 6 (jn (au (jF (x.p3,(aX x.1.1))) λy2=>(aF y2 (bC k_ x.1.1 x.p3 λz3=>(aD (decide ((z3.2.2.1:Int)=0)))) (aD af))) λx1=>(M x1)) (bg x.2.1 8 (jn (au (jF (x.p2,(aX x.1.1))) λy5=>(aF y5 (bC k_ x.1.1 x.p2 λz6=>(aD (decide ((z6.2.2.1:Int)=0)))) (aD af))) λx4=>(M x4)) (bg x.2.1 7 (au (nV (x.1,x.p3,x.p5)) λy7=>(M y7)) (bg x.2.1 9 (au (nV (x.1,x.p2,x.p5)) λy8=>(M y8)) (jn (bg x.2.1 11 (aD ((decide ((x.2.1:Int)=11)),x)) (aD ((decide ((x.2.1:Int)=12)),x))) λA=>(aF A.1 (jn (au (jF (A.p3,(aX A.2.1.2.1))) λy11=>(aF y11 (bC sC A.2.1.2.1 A.p3 λU=>(aD (!U.2))) (aD af))) λx10=>(M x10)) (jn (bg x.2.1 13 (aD ((decide ((x.2.1:Int)=13)),A.2)) (bg x.2.1 14 (aD ((decide ((x.2.1:Int)=14)),A.2)) (bg x.2.1 15 (aD ((decide ((x.2.1:Int)=15)),A.2)) (aD ((decide ((x.2.1:Int)=16)),A.2))))) λs=>(aF s.1 (jn (au (jF (s.p3,(aX s.2.1.2.1))) λy15=>(aF y15 (bC sC s.2.1.2.1 s.p3 λL=>(aD L.2)) (aD af))) λx14=>(M x14)) (jn (bg x.2.1 21 (aD ((decide ((x.2.1:Int)=21)),s.2)) (bg x.2.1 22 (aD ((decide ((x.2.1:Int)=22)),s.2)) (aD ((decide ((x.2.1:Int)=23)),s.2)))) λz=>(aF z.1 (au (jF (z.p3,(aX z.2.1.p2))) λy18=>(M y18)) (jn (bg x.2.1 24 (aD ((decide ((x.2.1:Int)=24)),z.2)) (aD ((decide ((x.2.1:Int)=25)),z.2))) λa=>(aF a.1 (au (jF (a.p3,(aX a.2.1.p4))) λy20=>(M y20)) (bg x.2.1 26 (au (jF (a.p3,(aX a.2.1.p3))) λy21=>(M y21)) (bg x.2.1 27 (au (jF (a.p4,(aX a.2.1.p3))) λZ=>(M Z)) (bg x.2.1 3 (jn (bg a.p6 4 (aD J) (aD (decide ((a.p6:Int)=5)))) λx23=>(M x23)) (bg x.2.1 4 (jn (iZ 6 a.p6 (aD (c_ a.p6 18)) (aD af)) λx24=>(M x24)) (M J)))))))))))))))))
def iF (x:fk×Int×Int×Y lP):I (Bool):=
 (jn (bw x.p2 0 (aD (J,x.1,x.2.2)) (bw 32 x.p2 (aD (J,x.1,x.2.2)) (aD ((decide (((aX x.q3):Int)=0)),x.1,x.2.2)))) λx1=>(aF x1.1 (M af) (iter (σ:=Int×fk×Int×Y lP) (λs=>(bw s.1 (aX x.q3) (bC rF s.q3 s.1 λL=>(jn (bw L.1 1 (aD (J,s.2.1,s.2.2,L)) (bw 28 L.1 (aD (J,s.2.1,s.2.2,L)) (aF (((decide ((L.1:Int)=28))==(decide ((s.1:Int)=(bl .i64 ((aX x.q3)-1))))) !=J) (aD (J,s.2.1,s.2.2,L)) (au (mj (s.2.1,L)) λy5=>(aF (!y5) (aD (J,s.2.1,s.2.2,L)) (au (pU (s.q3,s.1)) λy6=>(aD ((!y6),s.2.1,s.2.2,L)))))))) λa=>(aF a.1 (aD af) (jn (α:=Bool×fk×(Int×Y lP)×Int×Int×Int×Int×Int×Int) (bg a.p3 28 (jk a.q8 (-1) (aD (J,a.2)) (jk a.p3 28 (au (jF (a.q8,(aX a.2.1.q5))) λy8=>(aF (!y8) (aD (J,a.2)) (bC qe a.2.1.q5 a.q8 λz9=>(aD ((!decide ((z9.1:Int)=x.2.1)),a.2))))) (aD (af,a.2)))) (jk a.p3 28 (au (jF (a.q8,(aX a.2.1.q5))) λy10=>(aF (!y10) (aD (J,a.2)) (bC qe a.2.1.q5 a.q8 λz11=>(aD ((!decide ((z11.1:Int)=x.2.1)),a.2))))) (aD (af,a.2)))) λA=>(aF A.1 (aD af) (jn (bg A.p3 5 (au (jF (A.p4,(aX x.q3))) λy13=>(aF (!y13) (aD (J,A.2)) (bg A.p3 10 (au (jF (A.p5,(aX x.q3))) λy14=>(aD ((!y14),A.2))) (aD (af,A.2))))) (bg A.p3 10 (au (jF (A.p5,(aX x.q3))) λy15=>(aD ((!y15),A.2))) (aD (af,A.2)))) λU=>(aF U.1 (aD af) (au (jT U.q3) λZ=>(iter (σ:=Int×fk×Int×Y lP) (λz=>(bw z.1 (aX Z) (bC aL Z z.1 λz18=>(au (jF (z18,z.p2)) λy19=>(aF (!y19) (aD (bS af)) (cQ ((cJ z.1),z.2))))) (aD (oh ((cJ s.1),z.2))))) (0,U.2.1,U.p2)))))))))) (aD J))) (0,x1.2))))
def jS (x:fk×Y (Int×Y lP)):I (Bool):=
 (jn (au (io x.1) λL=>(aF (!L) (aD (J,x)) (aD ((!decide (((aX x.2):Int)=(aX x.1.p4))),x)))) λs=>(aF s.1 (M af) (iter (σ:=Int×fk×Y (Int×Y lP)) (λa=>(bw a.1 (aX a.2.2) (bC xL a.2.2 a.1 λz=>(au (iF (a.2.1,a.1,z)) λA=>(aF (!A) (aD af) (cQ ((cJ a.1),a.2))))) (aD J))) (0,s.2))))
def cN (x:lP×sV×Y lP):I (sV×Y lP):=
 (bB (a8 (ai x.2.2+ai ([(x.1.1,x.1.2.1,x.1.p2,x.1.p3,x.1.p4,x.2.1.p7)])) 48) (M (x.2.1,(x.2.2++([(x.1.1,x.1.2.1,x.1.p2,x.1.p3,x.1.p4,x.2.1.p7)])))))
def ri (rr06_gen_value:((Xp×Int)×sV×Y lP)->I (sV×Y lP)) (x:(Xp×Int)×sV×Y lP):I (sV×Y lP):=
 (jn (α:=sV×Y lP) (bg (Xp.op x.1.1) 1 (au (cN ((1,x.1.2,0,0,(Xp.n x.1.1),0),x.2)) λy2=>(bB (aB (ai x.2.2) (ai x.2.2)&&J) (aD y2))) (bg (Xp.op x.1.1) 2 (au (jq (x.2.1.p6,(Xp.name x.1.1))) λy3=>(iZ 0 y3 (au (cN ((2,x.1.2,y3,0,0,0),x.2)) λy4=>(bB (aB (ai x.2.2) (ai x.2.2)&&J) (aD y4))) (au (l8 ((x.2.1.1,x.2.1.2.1,x.2.1.p2,x.2.1.p3,x.2.1.p4,x.2.1.p5),(Xp.name x.1.1))) λy5=>(au (cN ((6,x.1.2,y5,0,0,0),x.2)) λy6=>(bB (aB (ai x.2.2) (ai x.2.2)&&J) (aD y6)))))) (bg (Xp.op x.1.1) 3 (bC (.ex) (Xp.l x.1.1) 0 λz7=>(au (rr06_gen_value ((z7,x.1.2),x.2)) λa=>(bB (aB (ai x.2.2) (ai x.2.2)&&J) (au (l8 ((a.1.1,a.1.2.1,a.1.p2,a.1.p3,a.1.p4,a.1.p5),(Xp.name x.1.1))) λy9=>(bC k_ a.1.1 y9 λz10=>(au (cN ((7,x.1.2,y9,x.1.2,z10.2.2.1,0),a)) λy11=>(bB (aB (ai a.2) (ai a.2)&&J) (aD y11)))))))) (bg (aM (ai (Xp.l x.1.1))) 1 (bC (.ex) (Xp.l x.1.1) 0 λZ=>(au (rr06_gen_value ((Z,x.1.2),x.2)) λA=>(bB (aB (ai x.2.2) (ai x.2.2)&&J) (au (cN ((3,x.1.2,x.1.2,0,(Xp.op x.1.1),0),A)) λy14=>(bB (aB (ai A.2) (ai A.2)&&J) (aD y14)))))) (bC (.ex) (Xp.l x.1.1) 0 λU=>(au (rr06_gen_value ((U,x.1.2),x.2)) λz=>(bB (aB (ai x.2.2) (ai x.2.2)&&J) (bC (.ex) (Xp.l x.1.1) 1 λL=>(au (rr06_gen_value ((L,(cJ x.1.2)),z)) λs=>(bB (aB (ai z.2) (ai z.2)&&J) (au (cN ((4,x.1.2,x.1.2,(cJ x.1.2),(Xp.op x.1.1),0),s)) λy19=>(bB (aB (ai s.2) (ai s.2)&&J) (aD y19))))))))))))) λx1=>(M x1))
def iV:Nat->((Xp×Int)×sV×Y lP)->I (sV×Y lP)
 |0,_=>D
 |n+1,x=>ri (iV n) x
theorem Bw (n:Nat) (x:(Xp×Int)×sV×Y lP):iV (n+1) x=ri (iV n) x:=rfl
def iU (x:(Xp×Int)×sV×Y lP):I (sV×Y lP):=iV fuel x
def mB (x:Sx×sV×Y lP):I (sV×Y lP):=
 (bw 0 (aM (ai (Sx.index x.1))) (bC (.ex) (Sx.index x.1) 0 λz1=>(au (iU ((z1,(aX x.2.1.p6)),x.2)) λz=>(bB (aB (ai x.2.2) (ai x.2.2)&&J) (au (iU ((eC ((Xp.op (Sx.expr x.1)),(Xp.n (Sx.expr x.1)),(Xp.name (Sx.expr x.1)),(Xp.l (Sx.expr x.1))),(bl .i64 ((aX x.2.1.p6)+1))),z)) λs=>(bB (aB (ai z.2) (ai z.2)&&J) (au (l8 ((s.1.1,s.1.2.1,s.1.p2,s.1.p3,s.1.p4,s.1.p5),(Sx.name x.1))) λZ=>(bC k_ s.1.1 Z λz5=>(au (cN ((9,Z,(bl .i64 ((aX x.2.1.p6)+1)),(aX x.2.1.p6),z5.2.2.1,0),s)) λy6=>(bB (aB (ai s.2) (ai s.2)&&J) (M y6)))))))))) (au (iU ((eC ((Xp.op (Sx.expr x.1)),(Xp.n (Sx.expr x.1)),(Xp.name (Sx.expr x.1)),(Xp.l (Sx.expr x.1))),(aX x.2.1.p6)),x.2)) λa=>(bB (aB (ai x.2.2) (ai x.2.2)&&J) (au (jq (a.1.p6,(Sx.name x.1))) λU=>(iZ 0 U (au (cN ((2,U,(aX x.2.1.p6),0,0,0),a)) λy9=>(bB (aB (ai a.2) (ai a.2)&&J) (M y9))) (au (l8 ((a.1.1,a.1.2.1,a.1.p2,a.1.p3,a.1.p4,a.1.p5),(Sx.name x.1))) λL=>(au (cN ((8,L,(aX x.2.1.p6),0,0,0),a)) λA=>(bB (aB (ai a.2) (ai a.2)&&J) (M A)))))))))
def jJ (x:ζ×sV×Y lP):I (Int×sV×Y lP):=
 (iter (σ:=Int×sV×Y lP) (λa=>(bw a.1 (aX a.2.1.p2) (bC mw a.2.1.p2 a.1 λs=>(aF (decide ((s.1:ζ)=x.1)) (aD a) (cQ ((cJ a.1),a.2)))) (aD ((-1),a.2)))) (0,x.2))
def rj (rr06_gen_stmts:afr->I (sV×Y lP)) (rr06_gen_stmt:Nt->I (sV×Y lP)) (rr06_gen_branches:Nt->I (sV×Y lP)) (rr06_gen_around:afs->I (sV×Y lP)) (x:(Y Sx)×sV×Y lP):I (sV×Y lP):=
 (iter (σ:=Int×sV×Y lP) (λa=>(bw a.1 (aX x.1) (bC (.sm) x.1 a.1 λs=>(au (rr06_gen_stmt (s,a.2)) λz=>(bB (aB (ai a.2.2) (ai a.2.2)&&J) (cQ ((cJ a.1),z))))) (aD a.2))) (0,x.2))
def sP (rr06_gen_stmts:afr->I (sV×Y lP)) (rr06_gen_stmt:Nt->I (sV×Y lP)) (rr06_gen_branches:Nt->I (sV×Y lP)) (rr06_gen_around:afs->I (sV×Y lP)) (x:Sx×sV×Y lP):I (sV×Y lP):=
 (jn (α:=sV×Y lP) (bg (Sx.op x.1) 1 (au (mB (eD x.1,(x.2.1.1,x.2.1.2.1,x.2.1.p2,x.2.1.p3,x.2.1.p4,x.2.1.p5,x.2.1.p6,x.2.1.q8,(cJ x.2.1.q8)),x.2.2)) λy2=>(bB (aB (ai x.2.2) (ai x.2.2)&&J) (aD y2))) (jn (bg (Sx.op x.1) 2 (aD ((decide (((Sx.op x.1):Int)=2)),(x.2.1.1,x.2.1.2.1,x.2.1.p2,x.2.1.p3,x.2.1.p4,x.2.1.p5,x.2.1.p6,x.2.1.q8,(cJ x.2.1.q8)),eD x.1,x.2.2)) (aD ((decide (((Sx.op x.1):Int)=3)),(x.2.1.1,x.2.1.2.1,x.2.1.p2,x.2.1.p3,x.2.1.p4,x.2.1.p5,x.2.1.p6,x.2.1.q8,(cJ x.2.1.q8)),eD x.1,x.2.2))) λa=>(aF a.1 (au (rr06_gen_branches (eD a.p2,a.2.1,a.q3)) λy4=>(bB (aB (ai a.q3) (ai a.q3)&&J) (aD y4))) (bg (Sx.op x.1) 4 (au (kE (a.2.1.2.1,(Sx.name a.p2))) λy5=>(au (rr06_gen_around ((eD a.p2,11,12,y5),a.2.1,a.q3)) λy6=>(bB (aB (ai a.q3) (ai a.q3)&&J) (aD y6)))) (bg (Sx.op x.1) 5 (au (kE (a.2.1.2.1,(Sx.name a.p2))) λy7=>(au (rr06_gen_around ((eD a.p2,13,14,y7),a.2.1,a.q3)) λy8=>(bB (aB (ai a.q3) (ai a.q3)&&J) (aD y8)))) (bg (Sx.op x.1) 6 (au (kE (a.2.1.2.1,(Sx.name a.p2))) λy9=>(au (rr06_gen_around ((eD a.p2,15,16,y9),a.2.1,a.q3)) λy10=>(bB (aB (ai a.q3) (ai a.q3)&&J) (aD y10)))) (bg (Sx.op x.1) 7 (au (rr06_gen_around ((eD a.p2,17,18,0),a.2.1,a.q3)) λy11=>(bB (aB (ai a.q3) (ai a.q3)&&J) (aD y11))) (bg (Sx.op x.1) 8 (au (rr06_gen_around ((eD a.p2,19,20,0),a.2.1,a.q3)) λy12=>(bB (aB (ai a.q3) (ai a.q3)&&J) (aD y12))) (bg (Sx.op x.1) 9 (au (jJ ((Sx.name a.p2),a.2.1,a.q3)) λA=>(bB (aB (ai a.q3) (ai A.2.2)&&J) (au (cN ((21,A.1,0,0,0,0),A.2)) λy14=>(bB (aB (ai A.2.2) (ai A.2.2)&&J) (aD y14))))) (bg (Sx.op x.1) 10 (au (jJ ((Sx.name a.p2),a.2.1,a.q3)) λz=>(bB (aB (ai a.q3) (ai z.2.2)&&J) (au (cN ((22,z.1,0,0,0,0),z.2)) λy16=>(bB (aB (ai z.2.2) (ai z.2.2)&&J) (aD y16))))) (bg (Sx.op x.1) 11 (au (jJ ((Sx.name a.p2),a.2.1,a.q3)) λs=>(bB (aB (ai a.q3) (ai s.2.2)&&J) (au (cN ((23,s.1,0,0,0,0),s.2)) λy18=>(bB (aB (ai s.2.2) (ai s.2.2)&&J) (aD y18))))) (bg (Sx.op x.1) 12 (au (jq (a.2.1.p4,(Sx.name a.p2))) λy19=>(au (cN ((24,y19,0,0,0,0),a.2.1,a.q3)) λy20=>(bB (aB (ai a.q3) (ai a.q3)&&J) (aD y20)))) (bg (Sx.op x.1) 13 (au (jq (a.2.1.p4,(Sx.name a.p2))) λy21=>(au (cN ((25,y21,0,0,0,0),a.2.1,a.q3)) λy22=>(bB (aB (ai a.q3) (ai a.q3)&&J) (aD y22)))) (bg (Sx.op x.1) 14 (au (iU ((eC ((Xp.op (Sx.expr a.p2)),(Xp.n (Sx.expr a.p2)),(Xp.name (Sx.expr a.p2)),(Xp.l (Sx.expr a.p2))),(aX x.2.1.p6)),a.2.1,a.q3)) λL=>(bB (aB (ai a.q3) (ai a.q3)&&J) (au (jq (L.1.p3,(Sx.name a.p2))) λy24=>(au (cN ((26,y24,(aX x.2.1.p6),0,0,0),L)) λy25=>(bB (aB (ai L.2) (ai L.2)&&J) (aD y25)))))) (bg (Sx.op x.1) 15 (au (jq (a.2.1.p6,(Sx.name a.p2))) λy26=>(au (jq (a.2.1.p3,(Sx.arg a.p2))) λZ=>(au (cN ((27,y26,Z,0,0,0),a.2.1,a.q3)) λU=>(bB (aB (ai a.q3) (ai a.q3)&&J) (aD U))))) (aD (a.2.1,a.q3))))))))))))))))) λx1=>(M x1))
def mY (rr06_gen_stmts:afr->I (sV×Y lP)) (rr06_gen_stmt:Nt->I (sV×Y lP)) (rr06_gen_branches:Nt->I (sV×Y lP)) (rr06_gen_around:afs->I (sV×Y lP)) (x:Sx×sV×Y lP):I (sV×Y lP):=
 (au (iU ((eC ((Xp.op (Sx.expr x.1)),(Xp.n (Sx.expr x.1)),(Xp.name (Sx.expr x.1)),(Xp.l (Sx.expr x.1))),(aX x.2.1.p6)),x.2)) λs=>(bB (aB (ai x.2.2) (ai x.2.2)&&J) (au (cN ((10,(aX s.1.p6),0,0,0,0),s)) λU=>(bB (aB (ai s.2) (ai s.2)&&J) (au (rr06_gen_stmts ((Sx.body x.1),U)) λa=>(bB (aB (ai U.2) (ai U.2)&&J) (bg (Sx.op x.1) 3 (au (cN ((5,(aX x.2.2),0,0,0,0),(a.1.1,a.1.2.1,a.1.p2,a.1.p3,a.1.p4,a.1.p5,a.1.p6,x.2.1.p7,a.1.q8),a.2)) λA=>(bB (aB (ai a.2) (ai a.2)&&J) (ck (e9 (aX s.2) (ai A.2)) (M (A.1,(cL A.2 (aX s.2) ((aJ (T:=rF) A.2 (aX s.2)).1,((aJ (T:=rF) A.2 (aX s.2)).2).1,(aX A.2),(((aJ (T:=rF) A.2 (aX s.2)).2).2).2))))))) (bg (aM (ai (Sx.els x.1))) 0 (ck (e9 (aX s.2) (ai a.2)) (M ((a.1.1,a.1.2.1,a.1.p2,a.1.p3,a.1.p4,a.1.p5,a.1.p6,x.2.1.p7,a.1.q8),(cL a.2 (aX s.2) ((aJ (T:=rF) a.2 (aX s.2)).1,((aJ (T:=rF) a.2 (aX s.2)).2).1,(aX a.2),(((aJ (T:=rF) a.2 (aX s.2)).2).2).2))))) (au (cN ((5,0,0,0,0,0),(a.1.1,a.1.2.1,a.1.p2,a.1.p3,a.1.p4,a.1.p5,a.1.p6,x.2.1.p7,a.1.q8),a.2)) λz=>(bB (aB (ai a.2) (ai a.2)&&J) (ck (e9 (aX s.2) (ai z.2)) (au (rr06_gen_stmts ((Sx.els x.1),z.1,(cL z.2 (aX s.2) ((aJ (T:=rF) z.2 (aX s.2)).1,((aJ (T:=rF) z.2 (aX s.2)).2).1,(aX z.2),(((aJ (T:=rF) z.2 (aX s.2)).2).2).2)))) λL=>(bB (aB (ai (cL z.2 (aX s.2) ((aJ (T:=rF) z.2 (aX s.2)).1,((aJ (T:=rF) z.2 (aX s.2)).2).1,(aX z.2),(((aJ (T:=rF) z.2 (aX s.2)).2).2).2))) (ai (cL z.2 (aX s.2) ((aJ (T:=rF) z.2 (aX s.2)).1,((aJ (T:=rF) z.2 (aX s.2)).2).1,(aX z.2),(((aJ (T:=rF) z.2 (aX s.2)).2).2).2)))&&J) (ck (e9 (aX a.2) (ai L.2)) (M (L.1,(cL L.2 (aX a.2) ((aJ (T:=rF) L.2 (aX a.2)).1,(aX L.2),((aJ (T:=rF) L.2 (aX a.2)).2).2))))))))))))))))))
def pA (rr06_gen_stmts:afr->I (sV×Y lP)) (rr06_gen_stmt:Nt->I (sV×Y lP)) (rr06_gen_branches:Nt->I (sV×Y lP)) (rr06_gen_around:afs->I (sV×Y lP)) (x:(Sx×Int×Int×Int)×sV×Y lP):I (sV×Y lP):=
 (au (cN ((x.1.2.1,x.1.q3,0,0,0,0),x.2)) λs=>(bB (aB (ai x.2.2) (ai x.2.2)&&J) (au (rr06_gen_stmts ((Sx.body x.1.1),s)) λa=>(bB (aB (ai s.2) (ai s.2)&&J) (au (cN ((x.1.p2,x.1.q3,0,0,0,0),(a.1.1,a.1.2.1,a.1.p2,a.1.p3,a.1.p4,a.1.p5,a.1.p6,x.2.1.p7,a.1.q8),a.2)) λz=>(bB (aB (ai a.2) (ai a.2)&&J) (M z)))))))
mutual
def dU:Nat->afr->I (sV×Y lP)
 |0,_=>D
 |n+1,x=>rj (dU n) (eU n) (dv n) (dO n) x
def eU:Nat->Nt->I (sV×Y lP)
 |0,_=>D
 |n+1,x=>sP (dU n) (eU n) (dv n) (dO n) x
def dv:Nat->Nt->I (sV×Y lP)
 |0,_=>D
 |n+1,x=>mY (dU n) (eU n) (dv n) (dO n) x
def dO:Nat->afs->I (sV×Y lP)
 |0,_=>D
 |n+1,x=>pA (dU n) (eU n) (dv n) (dO n) x
end
def uS (x:(Y Sx)×sV×Y lP):I (sV×Y lP):=dU fuel x
def qV (x:xI×Y xH):I (C_×Int×Int):=
 (au (fH x) λy1=>(jk y1.1 0 (M (((([]:Y UH),([]:Y (ζ×Bool)),([]:Y j9),([]:Y ζ),([]:Y ζ),([]:Y π)),([]:Y (Int×Y lP))),y1)) (au (uT x) λy2=>(iter (σ:=(ν)×(xI×Y xH)×fk×Y (Int×Y lP)) (λs=>(bw s.1.2 (aX s.2.1.2) (bC tS s.2.1.2 s.1.2 λz4=>(bC tS s.2.1.2 s.1.2 λz5=>(au (uS (z5.2.2.2,(s.p2.1,s.p2.2.1,s.p2.p2,s.p2.p3,s.p2.p4,s.p2.q5,z4.2.2.1,0,s.1.1),([]:Y lP))) λA=>(bB (aB (ai ([]:Y lP)) (ai ([]:Y lP))&&J) (au (cN ((28,0,0,0,0,0),(A.1.1,A.1.2.1,A.1.p2,A.1.p3,A.1.p4,A.1.p5,A.1.p6,(-1),A.1.q8),A.2)) λZ=>(bB (aB (ai A.2) (ai A.2)&&J) (iter (σ:=Int×(xI×Y xH)×fk×sV×Int×(Y (Int×Y lP))×Y lP) (λz=>(bw z.1 (aX z.q6) (kZ rF z.q6 z.1 λz9=>(au (jT z9) λL=>(iter (σ:=Int×(xI×Y xH)×fk×sV×Int×(Y (Int×Y lP))×Y lP) (λa=>(bw a.1 (aX L) (bC aL L a.1 λU=>(cQ ((cJ a.1),a.2.1,a.p2,a.p3,(fJ a.p4 (cJ U)),a.q5))) (aD (oh ((cJ z.1),a.2))))) (0,z.2)))) (au (bB (a8 (ai z.p5+ai ([(z.p4,z.q6)])) 32) (cQ ((A.1.q8,(cJ s.1.2)),z.2.1,z.p2,(z.p5++([(z.p4,z.q6)]))))) λr=>M (bS r)))) (0,s.2.1,s.p2,Z.1,(aX Z.1.p6),s.q3,Z.2)))))))) (aD (s.2.2,0,0)))) ((0,0),x,y2,([]:Y (Int×Y lP)))))))
def qU (x:η×Int):I (Bool):=
 (iter (σ:=Int) (λa=>(bw a (aX x.1) (bC aL x.1 a λs=>(bg s x.2 (aD J) (cQ (cJ a)))) (aD af))) 0)
def xd (x:η×Int):I η:=
 (iter (σ:=Int) (λa=>(jn (bw a (aX x.1) (bC aL x.1 a λz=>(aD (fP z x.2))) (aD af)) λL=>(aF L (cQ (cJ a)) (au (jn (bw a (aX x.1) (bC aL x.1 a λs=>(aD (decide ((s:Int)=x.2)))) (aD af)) λA=>(aF A (M x.1) (bB (c_ 0 a&&c_ a (ai x.1)) (bB (a8 (ai ([]:η)+ai (dQ (aQ a) x.1)) 8) (bB (a8 (ai (([]:η)++(dQ (aQ a) x.1))+ai ([x.2])) 8) (bB (c_ 0 a&&c_ a (ai x.1)) (bB (a8 (ai ((([]:η)++(dQ (aQ a) x.1))++([x.2]))+ai (List.drop (aQ a) x.1)) 8) (M (((([]:η)++(dQ (aQ a) x.1))++([x.2]))++(List.drop (aQ a) x.1)))))))))) λr=>M (bS r))))) 0)
def rY (x:η×η):I η:=
 (iter (σ:=(η)×Int) (λs=>(bw s.2 (aX x.1) (bC aL x.1 s.2 λA=>(au (xd (s.1,A)) λU=>(cQ (U,(cJ s.2))))) (au (iter (σ:=(η)×Int) (λa=>(bw a.2 (aX x.2) (bC aL x.2 a.2 λz=>(au (xd (a.1,z)) λL=>(cQ (L,(cJ a.2))))) (aD a.1))) (s.1,0)) λr=>M (bS r)))) (([]:η),0))
def mL (x:Int):I (Int):=
 (jn (bw x 1 (aD J) (aD (fP 100 x))) λa=>(aF a (M 0) (M x)))
def cz (x:Int×(η)×(Y η)×Int):I (ν×(η)×Y η):=
 (bB (a8 (ai ([]:η)+ai x.2.1) 8) (iter (σ:=Int×wH×(ν)×(ν)×(η)×Y η) (λa=>(bw a.1 (aX a.2.1.p2) (bC (.sl aL) a.2.1.p2 a.1 λs=>(bB (a8 (ai ([]:η)+ai s) 8) (bB (a8 (ai a.q5+ai ([(([]:η)++s)])) 24) (cQ ((cJ a.1),a.2.1,a.p2,a.p3,a.p4,(a.q5++([(([]:η)++s)]))))))) (aD a.q3))) (0,x,(0,0),(x.1,x.q3),(([]:η)++x.2.1),([]:Y η))))
def xc (x:(lP×Int×Int)×(η)×Y η):I ((ν×Bool)×(η)×Y η):=
 (au (jT x.1.1) λy1=>(iter (σ:=Int×(η)×(Y η)×lP×(ν)×Int×Int) (λa=>(bw a.1 (aX y1) (jn (bC aL y1 a.1 λz4=>(bw z4 0 (aD (J,a.2)) (bC aL y1 a.1 λz5=>(aD ((c_ (aX a.2.1) z5),a.2))))) λx3=>(aF x3.1 D (cQ ((cJ a.1),x3.2)))) (au (jn (α:=(Int×Bool×η)×(η)×(Y η)×lP×(ν)×Int×Int) (bg a.p3.1 5 (cQ (((a.p3.2.1,a.p4.2),J),a.2.1,a.p2)) (bg a.p3.1 1 (aD ((a.p3.p4,J,([]:η)),a.2)) (bg a.p3.1 2 (kZ aL a.2.1 a.p3.p2 λz7=>(kZ (.sl aL) a.p2 a.p3.p2 λz8=>(aD ((z7,J,z8),a.2)))) (bg a.p3.1 3 (au (mL a.p3.p4) λy9=>(kZ aL a.2.1 a.p3.p2 λz10=>(au (uU (y9,z10)) λA=>(kZ (.sl aL) a.p2 a.p3.p2 λz12=>(aD ((A.1,A.2,z12),a.2)))))) (au (mL a.p3.p4) λy13=>(kZ aL a.2.1 a.p3.p2 λz14=>(kZ aL a.2.1 a.p3.p3 λZ=>(au (s6 (y13,z14,Z)) λz=>(kZ (.sl aL) a.p2 a.p3.p2 λU=>(kZ (.sl aL) a.p2 a.p3.p3 λL=>(au (rY (U,L)) λy19=>(aD ((z.1,z.2,y19),a.2))))))))))))) λs=>(bB (a8 (ai ([]:η)+ai s.1.2.2) 8) (ck (e9 s.p3.2.1 (ai s.2.1)) (ck (e9 s.p3.2.1 (ai s.p2)) (M ((((cJ s.p4.1),s.p4.2),s.1.2.1),(cL s.2.1 s.p3.2.1 s.1.1),(cL s.p2 s.p3.2.1 (([]:η)++s.1.2.2)))))))) λr=>M (bS r)))) (0,x.2.1,x.2.2,x.1.1,x.1.2,0,0)))
def nU (x:(Int×Y lP)×Int×(η)×(Y η)×Int):I (wH×Bool):=
 (jn (α:=Bool×(Int×Y lP)×wH×Int×Int) (jk (aX x.p2) x.1.1 (aD (J,x.1,x.2,0,0)) (aD ((!decide (((aX x.p3):Int)=x.1.1)),x.1,x.2,0,0))) λA=>(aF A.1 (M ((0,([]:η),([]:Y η),0),af)) (au (cz A.p2) λU=>(iter (σ:=Int×(Int×Y lP)×(ν)×(ν)×(η)×Y η) (λs=>(iZ s.1 (aX s.2.1.2) (jn (bw s.p2.1 0 (aD (J,s.2)) (aD ((c_ (aX s.2.1.2) s.p2.1),s.2))) λa=>(aF a.1 (aD ((0,([]:η),([]:Y η),0),af)) (bC rF a.2.1.2 a.p2.1 λL=>(au (qn L.1) λZ=>(aF (!Z) (aD ((a.p2.1,a.p4,a.q5,a.p2.2),J)) (bg s.1 (aX a.2.1.2) (aD ((0,([]:η),([]:Y η),0),af)) (au (xc ((L,a.p2),a.q4)) λz=>(bB (aB (ai a.q5) (ai z.2.2)&&(aB (ai a.p4) (ai z.2.1)&&J)) (aF (!z.1.2) (aD ((0,([]:η),([]:Y η),0),af)) (cQ ((cJ s.1),a.2.1,z.1.1,a.p3,z.2))))))))))) (aD ((0,([]:η),([]:Y η),0),af)))) (0,A.2.1,U.1,A.q3,U.2)))))
def rW (x:oK×ng×(Y j9)×dA×dA×Y π):I tH:=
 (iter (σ:=Int×fk×Int×Int×Y (Int×η)) (λz=>(bw z.1 (aX z.2.1.2.1) (bB (a8 (ai z.q4+ai ([((-1),([]:η))])) 32) (cQ ((cJ z.1),z.2.1,z.p2,z.p3,(z.q4++([((-1),([]:η))]))))) (au (iter (σ:=Int×fk×Int×Int×jC×θ) (λs=>(bw s.1 (aX s.2.1.p3) (bB (a8 (ai s.q5+ai ([af])) 1) (cQ ((cJ s.1),s.2.1,s.p2,s.p3,s.p4,(s.q5++([af]))))) (au (iter (σ:=Int×fk×Int×Int×jC×(θ)×Y eA) (λa=>(bw a.1 (aX a.2.1.p4) (jn (α:=fk×Int×Int×eA×jC×(θ)×Y eA) (bg a.1 0 (aD (a.2.1,a.p2,a.p3,(1,0,af),a.q4)) (aD (a.2.1,a.p2,a.p3,(0,0,af),a.q4))) λA=>(bB (a8 (ai A.q6+ai ([A.p3])) 24) (cQ ((cJ a.1),A.1,A.2.1,A.p2,A.p4,A.p5,(A.q6++([A.p3])))))) (aD (a.p4,a.p3,a.q5)))) (0,s.2.1,s.p2,s.p3,s.p4,s.q5,([]:Y eA))) λr=>M (bS r)))) (0,z.2.1,z.p2,z.p3,z.q4,([]:θ))) λr=>M (bS r)))) (0,x,0,(-1),([]:Y (Int×η))))
def rX (x:fk×jC×Int×(θ)×Y eA):I (Bool):=
 (iter (σ:=Int×fk×jC×Int×(θ)×Y eA) (λa=>(bw a.1 (aX a.2.1.p2) (jn (bC mw a.2.1.p2 a.1 λA=>(bw A.2 0 (aD (J,a.2)) (bC mw a.2.1.p2 a.1 λz=>(aD ((c_ (aX a.2.1.2.1) z.2),a.2))))) λs=>(aF s.1 (aD af) (cQ ((cJ a.1),s.2)))) (au (jn (bg (aX a.p2) (aX a.2.1.2.1) (bg (aX a.p4) (aX a.2.1.p3) (aD (decide (((aX a.q5):Int)=(aX a.2.1.p4)))) (aD af)) (aD af)) λL=>(M L)) λr=>M (bS r)))) (0,x))
def qT (x:ν):I (Bool):=
 (jn (iZ 0 x.1 (aD (fP x.1 x.2)) (aD af)) λa=>(M a))
def uR (x:fk×Int×Int):I (Bool):=
 (jn (bg x.2.1 1 (aD ((decide ((x.2.1:Int)=1)),x.1)) (bg x.2.1 2 (aD ((decide ((x.2.1:Int)=2)),x.1)) (bg x.2.1 5 (aD ((decide ((x.2.1:Int)=5)),x.1)) (bg x.2.1 12 (aD ((decide ((x.2.1:Int)=12)),x.1)) (bg x.2.1 13 (aD ((decide ((x.2.1:Int)=13)),x.1)) (bg x.2.1 14 (aD ((decide ((x.2.1:Int)=14)),x.1)) (aD ((decide ((x.2.1:Int)=15)),x.1)))))))) λx1=>(aF x1.1 (M (decide ((x.2.2:Int)=(-1)))) (jn (bg x.2.1 3 (aD ((decide ((x.2.1:Int)=3)),x1.2)) (aD ((decide ((x.2.1:Int)=4)),x1.2))) λU=>(aF U.1 (au (qT (x.2.2,(aX U.2.1))) λy3=>(M y3)) (jn (bg x.2.1 6 (aD ((decide ((x.2.1:Int)=6)),U.2)) (aD ((decide ((x.2.1:Int)=7)),U.2))) λA=>(aF A.1 (jn (au (qT (x.2.2,(aX A.p2))) λy6=>(aF y6 (bC sC A.p2 x.2.2 λz7=>(aD (!z7.2))) (aD af))) λx5=>(M x5)) (jn (bg x.2.1 8 (aD ((decide ((x.2.1:Int)=8)),A.2)) (bg x.2.1 9 (aD ((decide ((x.2.1:Int)=9)),A.2)) (bg x.2.1 10 (aD ((decide ((x.2.1:Int)=10)),A.2)) (aD ((decide ((x.2.1:Int)=11)),A.2))))) λz=>(aF z.1 (jn (au (qT (x.2.2,(aX z.p2))) λy10=>(aF y10 (bC sC z.p2 x.2.2 λZ=>(aD Z.2)) (aD af))) λx9=>(M x9)) (jn (bg x.2.1 16 (aD ((decide ((x.2.1:Int)=16)),z.2)) (bg x.2.1 17 (aD ((decide ((x.2.1:Int)=17)),z.2)) (bg x.2.1 18 (aD ((decide ((x.2.1:Int)=18)),z.2)) (aD ((decide ((x.2.1:Int)=19)),z.2))))) λs=>(aF s.1 (au (qT (x.2.2,(aX s.p3))) λy13=>(M y13)) (jn (bg x.2.1 20 (aD ((decide ((x.2.1:Int)=20)),s.2)) (aD ((decide ((x.2.1:Int)=21)),s.2))) λa=>(aF a.1 (au (qT (x.2.2,(aX a.p5))) λy15=>(M y15)) (jn (bg x.2.1 22 (aD ((decide ((x.2.1:Int)=22)),a.2)) (aD ((decide ((x.2.1:Int)=23)),a.2))) λL=>(aF L.1 (au (qT (x.2.2,(aX L.p4))) λy17=>(M y17)) (M af)))))))))))))))
def kD (x:fk×tH×Int×Int×Int):I (Bool):=
 (jn (au (rX (x.1,x.2.1)) λy2=>(aF (!y2) (aD (J,x.1,x.2.1)) (au (qT (x.p2,(aX x.1.p4))) λy3=>(aF (!y3) (aD (J,x.1,x.2.1)) (au (uR (x.1,x.q3)) λy4=>(aD ((!y4),x.1,x.2.1))))))) λz=>(aF z.1 (M af) (bC iu z.q5 x.p2 λA=>(bg x.p3 1 (M (decide ((A.1:Int)=1))) (bg x.p3 17 (jn (α:=Bool) (bg A.1 4 (bg A.2.1 x.q4 (bC mw z.2.1.p2 x.q4 λz7=>(bC eB z.p2 z7.2 λz8=>(aD (decide ((z8.1:Int)=(-1)))))) (aD af)) (aD af)) λx6=>(M x6)) (jk A.1 2 (M af) (bg x.p3 6 (bC eB z.p2 x.q4 λz9=>(M (decide ((z9.1:Int)=(-1))))) (bg x.p3 10 (jn (α:=Bool) (bC eB z.p2 x.q4 λz11=>(bg z11.1 (-1) (bC eB z.p2 x.q4 λz12=>(aD (decide (((aX z12.2):Int)=0)))) (aD af))) λx10=>(M x10)) (bg x.p3 8 (jn (α:=Bool) (bC eB z.p2 x.q4 λz14=>(bg z14.1 (-1) (bC eB z.p2 x.q4 λz15=>(au (qU (z15.2,x.p2)) λy16=>(aD (!y16)))) (aD af))) λx13=>(M x13)) (jn (bg x.p3 7 (aD ((decide ((x.p3:Int)=7)),z.2.1,z.2.2,A)) (aD ((decide ((x.p3:Int)=11)),z.2.1,z.2.2,A))) λa=>(aF a.1 (bC eB a.p2.1 x.q4 λz18=>(M (decide ((z18.1:Int)=x.p2)))) (bg x.p3 9 (bC eB a.p2.1 x.q4 λz19=>(au (qU (z19.2,x.p2)) λy20=>(M y20))) (bg x.p3 12 (M (decide ((a.p2.2.1:Int)=(-1)))) (bg x.p3 13 (M (decide ((a.p2.2.1:Int)=x.p2))) (bg x.p3 14 (M (!a.q5)) (bg x.p3 15 (M a.q5) (jn (bg x.p3 16 (aD ((decide ((x.p3:Int)=16)),a.2.1,a.p2)) (bg x.p3 18 (aD ((decide ((x.p3:Int)=18)),a.2.1,a.p2)) (aD ((decide ((x.p3:Int)=19)),a.2.1,a.p2)))) λs=>(aF s.1 (bC mw s.2.1.p2 x.q4 λz22=>(bC eB s.p2 z22.2 λz23=>(M (decide ((z23.1:Int)=x.p2))))) (bg x.p3 20 (jn (jk x.q4 x.p2 (bC iu s.q5 x.q4 λz25=>(aD (decide ((z25.1:Int)=0)))) (aD af)) λx24=>(M x24)) (bg x.p3 21 (jn (jk x.q4 x.p2 (bC iu s.q5 x.q4 λZ=>(aD (decide ((Z.1:Int)=5)))) (aD af)) λx26=>(M x26)) (bg x.p3 22 (bC (.bool) s.p4 x.q4 λU=>(M (!U))) (bg x.p3 23 (bC (.bool) s.p4 x.q4 λL=>(M L)) (M J)))))))))))))))))))))))
def ou (x:tH×Int):I η:=
 (iter (σ:=Int×tH×η) (λa=>(bw a.1 (aX a.2.1.q3) (jn (α:=tH×η) (jn (bC iu a.2.1.q3 a.1 λA=>(bg A.1 3 (bC iu a.2.1.q3 a.1 λz=>(aD ((decide ((z.2.1:Int)=x.2)),a.2))) (aD (af,a.2)))) λs=>(aF s.1 (bB (a8 (ai s.2.2+ai ([a.1])) 8) (aD (s.2.1,(s.2.2++([a.1]))))) (aD s.2))) λL=>(cQ ((cJ a.1),L))) (aD a.2.2))) (0,x.1,([]:η)))
def qS (x:η×Int):I η:=
 (iter (σ:=Int×η) (λa=>(bw a.1 (aX x.1) (jn (α:=η) (bC aL x.1 a.1 λz=>(jk z x.2 (bC aL x.1 a.1 λs=>(bB (a8 (ai a.2+ai ([s])) 8) (aD (a.2++([s]))))) (aD a.2))) λA=>(cQ ((cJ a.1),A))) (aD a.2))) (0,([]:η)))
def iE (x:jC×Int×(θ)×Y eA):I (Int×jC×(θ)×Y eA):=
 (bB (a8 (ai ([]:θ)+ai x.p2) 1) (bB (a8 (ai ([]:Y eA)+ai x.q3) 24) (iter (σ:=Int×tH×Int×Int×jC×(θ)×Y eA) (λa=>(bw a.1 (aX a.2.1.1) (bC eB a.2.1.1 a.1 λz=>(bC eB a.2.1.1 a.1 λs=>(bB (a8 (ai ([]:η)+ai s.2) 8) (bB (a8 (ai a.p4+ai ([(z.1,(([]:η)++s.2))])) 32) (cQ ((cJ a.1),a.2.1,a.p2,a.p3,(a.p4++([(z.1,(([]:η)++s.2))])),a.q5)))))) (aD a.q3))) (0,x,0,x.2.1,([]:Y (Int×η)),(([]:θ)++x.p2),(([]:Y eA)++x.q3)))))
def mK (x:ν×jC×(θ)×Y eA):I (η×jC×(θ)×Y eA):=
 (iter (σ:=Int×jC×(θ)×(Y eA)×Int×η) (λa=>(bw a.1 (aX a.p3) (jn (α:=jC×(θ)×(Y eA)×Int×η) (jn (kZ iu a.p3 a.1 λA=>(bg A.1 3 (kZ iu a.p3 a.1 λz=>(aD ((decide ((z.2.1:Int)=x.1.2)),a.2))) (aD (af,a.2)))) λs=>(aF s.1 (bB (a8 (ai s.q5+ai ([a.1])) 8) (aD (s.2.1,s.p2,s.p3,s.p4,(s.q5++([a.1]))))) (aD s.2))) λL=>(cQ ((cJ a.1),L))) (aD (a.q5,a.2.1,a.p2,a.p3)))) (0,x.2.1,x.p2,x.q3,x.1.1,([]:η)))
def jR (x:ν×jC×(θ)×Y eA):I η:=au (mK x) λy=>same y.2 x.2 (M y.1)
def pQ (x:fk×tH×Int×Int×Int×Int):I (tH×Int×Bool):=
 (au (kD (x.1,x.2.1,x.p2,x.p3,x.p4)) λy1=>(aF (!y1) (M ((([]:Y (Int×η)),0,([]:θ),([]:Y eA)),0,af)) (au (iE x.2.1) λA=>(jn (α:=Int×Int×Int×jC×(θ)×Y eA) (bg x.p3 1 (ck (e9 x.p2 (ai A.q3)) (aD (0,A.1,0,A.2.1,A.p2,(cL A.q3 x.p2 (2,(aJ (T:=iu) A.q3 x.p2).2))))) (bg x.p3 2 (ck (e9 x.p2 (ai A.q3)) (aD (0,A.1,0,A.2.1,A.p2,(cL A.q3 x.p2 (5,(aJ (T:=iu) A.q3 x.p2).2))))) (jn (α:=Bool×fk×Int×Int×jC×(θ)×Y eA) (bg x.p3 6 (aD ((decide ((x.p3:Int)=6)),x.1,A.1,0,A.2)) (aD ((decide ((x.p3:Int)=10)),x.1,A.1,0,A.2))) λL=>(aF L.1 (ck (e9 x.p4 (ai L.p4)) (aD (0,L.p2,L.p3,(cL L.p4 x.p4 (x.p2,(aJ (T:=eB) L.p4 x.p4).2)),L.q5))) (jn (bg x.p3 7 (aD ((decide ((x.p3:Int)=7)),L.2)) (aD ((decide ((x.p3:Int)=11)),L.2))) λa=>(aF a.1 (ck (e9 x.p4 (ai a.p4)) (aD (0,a.p2,a.p3,(cL a.p4 x.p4 ((-1),(aJ (T:=eB) a.p4 x.p4).2)),a.q5))) (bg x.p3 8 (kZ eB a.p4 x.p4 λz6=>(au (rY (z6.2,[x.p2])) λy7=>(ck (e9 x.p4 (ai a.p4)) (aD (0,a.p2,a.p3,(cL a.p4 x.p4 ((aJ (T:=eB) a.p4 x.p4).1,y7)),a.q5))))) (bg x.p3 9 (kZ eB a.p4 x.p4 λz8=>(au (qS (z8.2,x.p2)) λy9=>(ck (e9 x.p4 (ai a.p4)) (aD (0,a.p2,a.p3,(cL a.p4 x.p4 ((aJ (T:=eB) a.p4 x.p4).1,y9)),a.q5))))) (bg x.p3 12 (aD (0,x.p2,a.q3)) (bg x.p3 13 (aD (0,(-1),a.q3)) (bg x.p3 14 (ck (e9 x.p2 (ai a.q6)) (aD (0,a.p2,a.p3,a.p4,a.p5,(cL a.q6 x.p2 ((aJ (T:=iu) a.q6 x.p2).1,((aJ (T:=iu) a.q6 x.p2).2).1,J))))) (bg x.p3 15 (ck (e9 x.p2 (ai a.q6)) (aD (0,a.p2,a.p3,a.p4,a.p5,(cL a.q6 x.p2 ((aJ (T:=iu) a.q6 x.p2).1,((aJ (T:=iu) a.q6 x.p2).2).1,af))))) (bg x.p3 16 (bC mw a.2.1.p2 x.p4 λz10=>(ck (e9 z10.2 (ai a.p4)) (ck (e9 x.p2 (ai a.q6)) (ck (e9 x.p2 (ai (cL a.q6 x.p2 (3,(aJ (T:=iu) a.q6 x.p2).2)))) (aD (0,a.p2,a.p3,(cL a.p4 z10.2 ((-1),(aJ (T:=eB) a.p4 z10.2).2)),a.p5,(cL (cL a.q6 x.p2 (3,(aJ (T:=iu) a.q6 x.p2).2)) x.p2 ((aJ (T:=iu) (cL a.q6 x.p2 (3,(aJ (T:=iu) a.q6 x.p2).2)) x.p2).1,x.p4,((aJ (T:=iu) (cL a.q6 x.p2 (3,(aJ (T:=iu) a.q6 x.p2).2)) x.p2).2).2)))))))) (bg x.p3 17 (bC mw a.2.1.p2 x.p4 λZ=>(ck (e9 Z.2 (ai a.p4)) (ck (e9 x.p2 (ai a.q6)) (ck (e9 x.p2 (ai (cL a.q6 x.p2 (2,(aJ (T:=iu) a.q6 x.p2).2)))) (aD (0,a.p2,a.p3,(cL a.p4 Z.2 (x.p2,(aJ (T:=eB) a.p4 Z.2).2)),a.p5,(cL (cL a.q6 x.p2 (2,(aJ (T:=iu) a.q6 x.p2).2)) x.p2 ((aJ (T:=iu) (cL a.q6 x.p2 (2,(aJ (T:=iu) a.q6 x.p2).2)) x.p2).1,0,((aJ (T:=iu) (cL a.q6 x.p2 (2,(aJ (T:=iu) a.q6 x.p2).2)) x.p2).2).2)))))))) (bg x.p3 18 (au (jR ((a.p2,x.p4),a.q4)) λy12=>(bw 0 (aX y12) (bC aL y12 0 λz13=>(jn (au (qU (y12,x.q5)) λy15=>(aF y15 (aD (x.q5,a.2.2)) (aD (z13,a.2.2)))) λz=>(ck (e9 z.1 (ai z.q5)) (aD (z.1,z.2.1,z.p2,z.p3,z.p4,(cL z.q5 z.1 (4,(aJ (T:=iu) z.q5 z.1).2))))))) (aD ((-1),a.2.2)))) (bg x.p3 19 (au (jR ((a.p2,x.p4),a.q4)) λy16=>(iter (σ:=Int×Int×Int×jC×(θ)×Y eA) (λs=>(bw s.1 (aX y16) (bC aL y16 s.1 λU=>(ck (e9 U (ai s.q5)) (cQ ((cJ s.1),s.2.1,s.p2,s.p3,s.p4,(cL s.q5 U (4,(aJ (T:=iu) s.q5 U).2)))))) (aD (bS ((aX y16),s.2))))) (0,a.2.2))) (bg x.p3 20 (ck (e9 x.p4 (ai a.q6)) (aD (0,a.p2,a.p3,a.p4,a.p5,(cL a.q6 x.p4 (1,(aJ (T:=iu) a.q6 x.p4).2))))) (bg x.p3 22 (ck (e9 x.p4 (ai a.p5)) (aD (0,a.p2,a.p3,a.p4,(cL a.p5 x.p4 J),a.q6))) (aD (0,a.2.2)))))))))))))))))))) λx3=>(M ((x3.p3,x3.2.1,x3.q4),x3.1,J))))))
def uQ (x:fk×Y (Int×Y lP)):I yJ:=
 (au (jS x) λy1=>(aF (!y1) (M ((([]:Y (Int×η)),0,([]:θ),([]:Y eA)),([]:η),([]:η),([]:Y wH))) (au (rW x.1) λZ=>(iter (σ:=Int×C_×Int×tH×η) (λz=>(bw z.1 (aX z.2.1.1.1) (bC k_ z.2.1.1.1 z.1 λU=>(bB (a8 (ai z.q4+ai ([U.2.2.2.2])) 8) (cQ ((cJ z.1),z.2.1,z.p2,z.p3,(z.q4++([U.2.2.2.2])))))) (au (iter (σ:=Int×C_×Int×tH×(η)×η) (λs=>(bw s.1 (aX s.2.1.1.p3) (bB (a8 (ai s.q5+ai ([0])) 8) (cQ ((cJ s.1),s.2.1,s.p2,s.p3,s.p4,(s.q5++([0]))))) (au (iter (σ:=Int×C_×Int×tH×(η)×(η)×Y wH) (λa=>(bw a.1 (aX a.2.1.2) (wQ a.1 a.2.1.2 (lt ((aJ (T:=xL) a.2.1.2 a.1).1) λL=>(bB (c_ 0 L&&c_ L L&&a8 (aQ L) 8) (wQ a.1 a.2.1.2 (lt ((aJ (T:=xL) a.2.1.2 a.1).1) λA=>(bB (c_ 0 A&&c_ A A&&a8 (aQ A) 24) (bB (a8 (ai a.q6+ai ([(0,(aA (aQ L) (0:Int)),(aA (aQ A) ([]:η)),0)])) 64) (cQ ((cJ a.1),a.2.1,a.p2,a.p3,a.p4,a.p5,(a.q6++([(0,(aA (aQ L) (0:Int)),(aA (aQ A) ([]:η)),0)]))))))))))) (aD a.q3))) (0,s.2.1,s.p2,s.p3,s.p4,s.q5,([]:Y wH))) λr=>M (bS r)))) (0,z.2.1,z.p2,z.p3,z.q4,([]:η))) λr=>M (bS r)))) (0,x,0,Z,([]:η))))))
def xa (x:C_×tH×(η)×(η)×Y wH):I (Bool):=
 (jn (au (jS x.1) λy2=>(aF (!y2) (aD (J,x)) (au (rX (x.1.1,x.2.1)) λy3=>(aF (!y3) (aD (J,x)) (jk (aX x.p2) (aX x.1.1.1) (aD (J,x)) (jk (aX x.p3) (aX x.1.1.p3) (aD (J,x)) (aD ((!decide (((aX x.q4):Int)=(aX x.1.2))),x)))))))) λA=>(aF A.1 (M af) (iter (σ:=Int×C_×tH×(η)×(η)×Y wH) (λa=>(bw a.1 (aX a.2.1.2) (bC e_ a.q5 a.1 λs=>(jn (bw s.1 0 (aD (J,a.2)) (bC xL a.2.1.2 a.1 λZ=>(iZ (aX Z.2) s.1 (aD (J,a.2)) (bC xL a.2.1.2 a.1 λU=>(jk (aX s.2.1) U.1 (aD (J,a.2)) (bC xL a.2.1.2 a.1 λL=>(aD ((!decide (((aX s.p2):Int)=L.1)),a.2)))))))) λz=>(aF z.1 (aD af) (cQ ((cJ a.1),z.2))))) (aD J))) (0,A.2))))
def w9 (x:Int):I (Int):=
 (jn (α:=Bool×η) (bw x 6 (aD (J,[3,3,4,4,5,6,7,8,9,10,11,12,13,14,15,16,18,19,20,21,22,23,2])) (aD ((fP 28 x),[3,3,4,4,5,6,7,8,9,10,11,12,13,14,15,16,18,19,20,21,22,23,2]))) λa=>(aF a.1 (M 0) (kZ aL a.2 (bl .i64 (x-6)) λs=>(M s))))
def s5 (x:lP×Int×(η)×(Y η)×Int):I (Int):=
 (jn (bg x.1.1 6 (aD ((decide ((x.1.1:Int)=6)),x)) (aD ((decide ((x.1.1:Int)=27)),x))) λa=>(aF a.1 (M a.2.1.p2) (bg x.1.1 7 (bC aL a.p3 a.2.1.p3 λA=>(au (rZ (A,a.2.1.p4)) λU=>(M (bl .i64 (a.2.1.p2+U))))) (bg x.1.1 9 (bC aL a.p3 a.2.1.p3 λz=>(au (rZ (z,a.2.1.p4)) λL=>(M (bl .i64 (a.2.1.2.1+L))))) (jn (bg x.1.1 10 (aD ((decide ((x.1.1:Int)=10)),a.2.1)) (bg x.1.1 17 (aD ((decide ((x.1.1:Int)=17)),a.2.1)) (bg x.1.1 18 (aD ((decide ((x.1.1:Int)=18)),a.2.1)) (bg x.1.1 19 (aD ((decide ((x.1.1:Int)=19)),a.2.1)) (bg x.1.1 20 (aD ((decide ((x.1.1:Int)=20)),a.2.1)) (aD ((decide ((x.1.1:Int)=28)),a.2.1))))))) λs=>(aF s.1 (M (-1)) (M s.p2)))))))
def oq (x:C_×yJ×Int):I (ja×Bool):=
 (jn (α:=Bool×C_×yJ×Int×Int×Int×Int×Int) (au (xa (x.1,x.2.1)) λy2=>(aF (!y2) (aD (J,x.1,x.2.1,0,0,0,0,0)) (bw x.2.2 0 (aD (J,x.1,x.2.1,0,0,0,0,0)) (aD ((c_ (aX x.1.2) x.2.2),x.1,x.2.1,0,0,0,0,0))))) λU=>(aF U.1 (M ((0,0,0,0,0,([]:η),([]:η)),af)) (bC e_ U.p2.q3 x.2.2 λZ=>(bC xL U.2.1.2 x.2.2 λz4=>(bC rF z4.2 Z.1 λz=>(bC iu U.p2.1.q3 x.2.2 λz6=>(bg z6.1 1 (M ((x.2.2,1,(-1),0,(-1),([]:η),([]:η)),J)) (bg z6.1 4 (bC iu U.p2.1.q3 x.2.2 λz7=>(M ((x.2.2,17,z7.2.1,0,z.q5,([]:η),([]:η)),J))) (bg z6.1 2 (au (w9 z.1) λy8=>(au (s5 (z,Z)) λy9=>(bg y8 0 (M ((0,0,0,0,0,([]:η),([]:η)),af)) (jn (α:=EX×wH×lP×EX×η) (bg z.1 10 (bC (.sl aL) Z.p2 z.2.1 λz11=>(bB (a8 (ai (z11:η)) 8) (aD (U.q3,Z,z,(x.2.2,y8,y9,0,z.q5),z11)))) (jn (α:=Bool×EX×wH×lP×Int×Int×Int×Int×Int) (bg z.1 7 (aD ((decide ((z.1:Int)=7)),U.q3,Z,z,x.2.2,y8,y9,0,z.q5)) (aD ((decide ((z.1:Int)=9)),U.q3,Z,z,x.2.2,y8,y9,0,z.q5))) λa=>(aF a.1 (bC (.sl aL) a.p2.p2 a.p3.p3 λz13=>(bB (a8 (ai (z13:η)) 8) (aD (a.2.1,a.p2,a.p3,a.q4,z13)))) (aD (a.2.1,a.p2,a.p3,a.q4,([]:η)))))) λL=>(jn (α:=EX×EX×(η)×η) (jn (bg L.p2.1 8 (aD (J,L)) (bg L.p2.1 9 (aD (J,L)) (aD ((decide ((L.p2.1:Int)=26)),L)))) λs=>(aF s.1 (bC (.sl aL) s.p2.p2 s.p3.p2 λz16=>(bB (a8 (ai (z16:η)) 8) (aD (s.2.1,s.p4,s.q5,z16)))) (aD (s.2.1,s.p4,s.q5,([]:η))))) λA=>(M ((A.2.1.1,A.2.1.2.1,A.2.1.p2,A.2.1.p3,A.2.1.q4,A.2.2),J))))))) (M ((0,0,0,0,0,([]:η),([]:η)),af)))))))))))
def nF (x:oK×ng×(Y j9)×dA×dA×Y π):I gx:=
 (au (rW x) λz=>(bB (c_ 0 (aX x.p3)&&c_ (aX x.p3) (aX x.p3)&&a8 (aQ (aX x.p3)) 8) (bB (c_ 0 (aX x.p4)&&c_ (aX x.p4) (aX x.p4)&&a8 (aQ (aX x.p4)) 8) (iter (σ:=Int×fk×Int×tH×(η)×(η)×η) (λa=>(bw a.1 (aX a.2.1.1) (bC k_ a.2.1.1 a.1 λs=>(bB (a8 (ai a.p4+ai ([s.2.2.2.2])) 8) (cQ ((cJ a.1),a.2.1,a.p2,a.p3,(a.p4++([s.2.2.2.2])),a.q5)))) (aD a.q3))) (0,x,0,z,([]:η),(aA (aQ (aX x.p3)) (0:Int)),(aA (aQ (aX x.p4)) (0:Int)))))))
def w7 (x:fk×tH×(η)×(η)×η):I (Bool):=
 (jn (au (rX (x.1,x.2.1)) λa=>(aF a (bg (aX x.p2) (aX x.1.1) (bg (aX x.p3) (aX x.1.p3) (aD (decide (((aX x.q4):Int)=(aX x.1.p4)))) (aD af)) (aD af)) (aD af))) λs=>(M s))
def DA (x:ν):I (Bool):=
 (jn (iZ 0 x.1 (aD (fP x.1 x.2)) (aD af)) λa=>(M a))
def oo (x:η×Int):I (Bool):=
 (iter (σ:=Int) (λa=>(bw a (aX x.1) (jn (bC aL x.1 a λL=>(bw L 1 (aD J) (bC aL x.1 a λA=>(iZ x.2 A (aD J) (bw 0 a (bC aL x.1 a λz=>(bC aL x.1 (bl .i64 (a-1)) λs=>(aD (c_ z s)))) (aD af)))))) λU=>(aF U (aD af) (cQ (cJ a)))) (aD J))) 0)
def uO (x:gx×Int×Int×Int×Int×Int×(η)×η):I (Bool):=
 (bg x.p2 3 (bC aL x.1.2.1 x.p3 λA=>(M (decide ((x.p4:Int)=A)))) (bg x.p2 23 (bC aL x.1.p2 x.p3 λz=>(M (decide ((x.p4:Int)=z)))) (bg x.p2 5 (jn (bg x.p4 0 (aD J) (aD (decide ((x.p4:Int)=1)))) λx3=>(M x3)) (jn (bg x.p2 4 (aD ((decide ((x.p2:Int)=4)),x)) (aD ((decide ((x.p2:Int)=22)),x))) λa=>(aF a.1 (M J) (bg x.p2 18 (au (ou (a.2.1.1,a.p4)) λs=>(bg (aX s) 0 (M (decide ((a.p5:Int)=(-1)))) (jn (iZ 0 a.p5 (bw a.p5 (aX a.2.1.1.q3) (au (qU (s,a.p5)) λU=>(aD U)) (aD af)) (aD af)) λZ=>(M Z)))) (bg x.p2 19 (au (ou (a.2.1.1,a.p4)) λL=>(M (decide ((a.p5:Int)=(aX L))))) (M (decide ((a.p5:Int)=0))))))))))
def rV (x:fk×gx×Int×Int×Int×Int×Int×(η)×η):I (gx×Bool):=
 (jn (α:=Bool×fk×gx×ja×Int) (au (w7 (x.1,x.2.1)) λy2=>(aF (!y2) (aD (J,x.1,x.2.1,x.2.2,0)) (au (DA (x.p2,(aX x.1.p4))) λy3=>(aF (!y3) (aD (J,x.1,x.2.1,x.2.2,0)) (bw x.p3 1 (aD (J,x.1,x.2.1,x.2.2,0)) (bw 23 x.p3 (aD (J,x.1,x.2.1,x.2.2,0)) (au (kD (x.1,x.2.1.1,x.p2,x.p3,x.p4)) λy4=>(aD ((!y4),x.1,x.2.1,x.2.2,0))))))))) λx1=>(aF x1.1 (M (((([]:Y (Int×η)),0,([]:θ),([]:Y eA)),([]:η),([]:η),([]:η)),af)) (jn (α:=fk×gx×ja×Int) (jn (bg x1.p3.2.1 1 (aD (J,x1.2)) (aD ((decide ((x1.p3.2.1:Int)=2)),x1.2))) λx6=>(aF x6.1 (jk x6.p3.p4 (-1) (cQ (((([]:Y (Int×η)),0,([]:θ),([]:Y eA)),([]:η),([]:η),([]:η)),af)) (aD x6.2)) (jn (au (DA (x6.p3.p4,(aX x6.2.1.q5))) λy8=>(aF (!y8) (aD (J,x6.2)) (bC qe x6.2.1.q5 x6.p3.p4 λz9=>(aD ((!decide ((z9.1:Int)=x6.p3.1)),x6.2))))) λx7=>(aF x7.1 (cQ (((([]:Y (Int×η)),0,([]:θ),([]:Y eA)),([]:η),([]:η),([]:η)),af)) (aD x7.2))))) λx5=>(jn (bg x5.p2.2.1 3 (aD (J,x5)) (aD ((decide ((x5.p2.2.1:Int)=4)),x5))) λU=>(jn (bw 0 (aX U.p3.p5) (jk U.p3.2.1 5 (aF U.1 (bC k_ U.2.1.1 U.p3.p2 λz12=>(aD ((!(!decide ((z12.2.2.1:Int)=0))),U.2))) (aD (J,U.2))) (aD (af,U.2))) (aD (af,U.2))) λZ=>(aF Z.1 (M (((([]:Y (Int×η)),0,([]:θ),([]:Y eA)),([]:η),([]:η),([]:η)),af)) (jn (bw 0 (aX Z.p3.q6) (jk Z.p3.2.1 4 (aD ((!decide ((Z.p3.2.1:Int)=22)),Z.2)) (aD (af,Z.2))) (aD (af,Z.2))) λA=>(aF A.1 (M (((([]:Y (Int×η)),0,([]:θ),([]:Y eA)),([]:η),([]:η),([]:η)),af)) (jn (bC aL A.p2.q3 A.p3.1 λz15=>(au (oo (A.p3.p5,z15)) λy16=>(aF (!y16) (aD (J,A.2)) (bC aL A.p2.q3 A.p3.1 λz17=>(au (oo (A.p3.q6,z17)) λy18=>(aF (!y18) (aD (J,A.2)) (au (uO (A.p2,A.p3)) λy19=>(aD ((!y19),A.2))))))))) λa=>(aF a.1 (M (((([]:Y (Int×η)),0,([]:θ),([]:Y eA)),([]:η),([]:η),([]:η)),af)) (bB (a8 (ai ([]:η)+ai a.p2.2.1) 8) (bB (a8 (ai ([]:η)+ai a.p2.p2) 8) (bB (a8 (ai ([]:η)+ai a.p2.q3) 8) (jn (α:=Int×fk×gx×ja×Int×Int×(η)×(η)×η) (bg a.p3.2.1 18 (aD (a.p3.p3,a.2.1,a.p2,a.p3,a.q4,0,(([]:η)++a.p2.2.1),(([]:η)++a.p2.p2),(([]:η)++a.p2.q3))) (aD ((-1),a.2.1,a.p2,a.p3,a.q4,0,(([]:η)++a.p2.2.1),(([]:η)++a.p2.p2),(([]:η)++a.p2.q3)))) λs=>(au (pQ (s.2.1,s.p2.1,s.p3.1,s.p3.2.1,s.p3.p2,s.1)) λy21=>(jn (bg s.p3.2.1 4 (ck (e9 s.p3.p2 (ai s.p6)) (aD (s.p3,s.p4,y21.1,(cL s.p6 s.p3.p2 s.p3.p3),s.q7))) (aD (s.p3,s.p4,y21.1,s.q6))) λz=>(jn (bg z.1.2.1 22 (ck (e9 z.1.p2 (ai z.p4)) (aD (z.1,z.2.1,z.p2,z.p3,(cL z.p4 z.1.p2 z.1.p3),z.q5))) (aD z)) λL=>(kZ aL L.q5 L.1.1 λz24=>(ck (e9 L.1.1 (ai L.q5)) (M ((L.p2,L.p3,L.p4,(cL L.q5 L.1.1 (cJ z24))),J)))))))))))))))))))))
def rU (x:(Y ja)×Int×Int×η):I (Bool):=
 (iter (σ:=Int) (λs=>(bw s (aX x.q3) (iter (σ:=Int×Bool×Int) (λa=>(bw a.2.2 x.2.1 (jn (bC gH x.1 a.2.2 λZ=>(jk Z.1 x.p2 (aD (a.1,a.2.1)) (jn (aF a.2.1 (aD J) (bC aL x.q3 s λU=>(bg a.1 U (bC gH x.1 a.2.2 λL=>(bg L.2.1 3 (aD J) (bC gH x.1 a.2.2 λA=>(aD (decide ((A.2.1:Int)=23)))))) (aD af)))) λx5=>(aD ((cJ a.1),x5))))) λz=>(cQ (z.1,z.2,(cJ a.2.2)))) (au (aF (!a.2.1) (aD af) (cQ (cJ s))) λr=>M (bS r)))) (0,af,0)) (aD J))) 0)
def uP (x:fk×Y ja):I ν:=
 (bw 400 (aX x.2) (M (0,2)) (au (io x.1) λy1=>(aF (!y1) (M (0,1)) (au (nF x.1) λZ=>(iter (σ:=Int×(fk×Y ja)×tH×(η)×(η)×η) (λa=>(bw a.1 (aX a.2.1.2) (bC gH a.2.1.2 a.1 λs=>(au (rV (a.2.1.1,a.2.2,s)) λz=>(jn (aF (!z.2) (aD (J,a.2.1,a.2.2,z.1)) (au (rU (a.2.1.2,a.1,s.1,s.p5)) λU=>(aF (!U) (aD (J,a.2.1,a.2.2,z.1)) (au (rU (a.2.1.2,a.1,s.1,s.q6)) λL=>(aD ((!L),a.2.1,a.2.2,z.1)))))) λA=>(aF A.1 (aD (a.1,12)) (cQ ((cJ a.1),A.2.1,A.q3)))))) (aD (0,0)))) (0,x,Z))))))
def KG {Z W V:Type} (i:Int) (t1:Z->(η)->(Y η)->W) (t2:W->V) (t3:V->wH->Y wH) (U:Int) (a:C_×tH×(ν)×Int×EX×ja×(ν)×(η)×(η)×Z×(η)×Y η):I EW:=
 (jn (jn (jk a.p5.2.1 16 (aD ((!decide ((a.p5.2.1:Int)=2)),a.1,a.2.1,a.p2,a.p3,a.p4,a.p5,(U,a.p10,a.q11,(cJ a.p6.2)),a.p7,a.p8,(t1 a.p9 a.p10 a.q11))) (aD (af,a.1,a.2.1,a.p2,a.p3,a.p4,a.p5,(U,a.p10,a.q11,(cJ a.p6.2)),a.p7,a.p8,(t1 a.p9 a.p10 a.q11)))) λs=>(aF s.1 (bC xL s.2.1.2 s.p3.1 λA=>(au (nU (A,s.p7)) λL=>(aD (s.p2,s.p3,s.p4,s.p5,s.p6,L.1,s.p8,s.p9,(t2 s.q10))))) (aD (s.p2,s.p3,s.p4,s.p5,s.p6,s.p7,s.p8,s.p9,(t2 s.q10))))) λz=>(bg z.2.1.1 i (M ((z.1,z.p6,z.p7,(t3 z.q8 z.p5)),z.p4,J)) D))
def SG {Z:Type} (i:Int) (cp:(tH×(η)×(η)×Y wH)->I (Int×jC×(θ)×(Y eA)×(η)×(η)×Z×(η)×Y η)) (L ev:Z->Int) (k:Int->(C_×tH×(ν)×Int×EX×ja×(ν)×(η)×(η)×Z×(η)×Y η)->I EW) (x:C_×yJ×Int×Int):I EW:=
 (au (oq (x.1,x.2.1,x.p2)) λz=>(aF (!z.2) (M (((([]:Y (Int×η)),0,([]:θ),([]:Y eA)),([]:η),([]:η),([]:Y wH)),(0,0,0,0,0,([]:η),([]:η)),af)) (au (pQ (x.1.1,x.2.1.1,x.p2,z.1.2.1,z.1.p2,x.q3)) λU=>(aF (!U.2.2) (M (((([]:Y (Int×η)),0,([]:θ),([]:Y eA)),([]:η),([]:η),([]:Y wH)),(0,0,0,0,0,([]:η),([]:η)),af)) (au (cp x.2.1) λA=>(bg x.p2 i (bC xL x.1.2 i λz4=>(bC rF z4.2 (L A.p6) λz5=>(jn (α:=Int×C_×tH×(ν)×Int×EX×ja×(ν)×lP×(η)×(η)×Z×(η)×Y η) (jn (α:=Bool×C_×tH×(ν)×Int×EX×ja×(ν)×lP×(η)×(η)×Z×(η)×Y η) (bg z.1.2.1 1 (aD ((decide ((z.1.2.1:Int)=1)),x.1,U.1,(i,x.q3),0,(0,0,0,0,0),(z.1.1,z.1.2.1,z.1.p2,U.2.1,z.1.q4),((L A.p6),(ev A.p6)),z5,A.q4)) (bg z.1.2.1 16 (aD ((decide ((z.1.2.1:Int)=16)),x.1,U.1,(i,x.q3),0,(0,0,0,0,0),(z.1.1,z.1.2.1,z.1.p2,U.2.1,z.1.q4),((L A.p6),(ev A.p6)),z5,A.q4)) (aD ((decide ((z.1.2.1:Int)=2)),x.1,U.1,(i,x.q3),0,(0,0,0,0,0),(z.1.1,z.1.2.1,z.1.p2,U.2.1,z.1.q4),((L A.p6),(ev A.p6)),z5,A.q4)))) λa=>(aF a.1 (aD (a.p7.1,a.2)) (bg z.1.2.1 3 (kZ aL a.p9 a.p6.p2 λz8=>(aD ((bl .i64 ((L A.p6)+1)),a.2.1,a.p2,a.p3,a.p4,a.p5,(a.p6.1,a.p6.2.1,a.p6.p2,z8,a.p6.q4),a.q7))) (bg z.1.2.1 23 (kZ aL a.p10 a.p6.p2 λz9=>(aD ((bl .i64 ((L A.p6)+1)),a.2.1,a.p2,a.p3,a.p4,a.p5,(a.p6.1,a.p6.2.1,a.p6.p2,z9,a.p6.q4),a.q7))) (bg z.1.2.1 4 (kZ aL a.p12 a.p8.p2 λz10=>(ck (e9 a.p6.p2 (ai a.p9)) (aD ((bl .i64 ((L A.p6)+1)),a.2.1,a.p2,a.p3,a.p4,a.p5,(a.p6.1,a.p6.2.1,a.p6.p2,z10,a.p6.q4),a.p7,a.p8,(cL a.p9 a.p6.p2 z10),a.q10)))) (bg z.1.2.1 22 (kZ aL a.p12 a.p8.p2 λz11=>(ck (e9 a.p6.p2 (ai a.p10)) (aD ((bl .i64 ((L A.p6)+1)),a.2.1,a.p2,a.p3,a.p4,a.p5,(a.p6.1,a.p6.2.1,a.p6.p2,z11,a.p6.q4),a.p7,a.p8,a.p9,(cL a.p10 a.p6.p2 z11),a.q11)))) (bg z.1.2.1 5 (kZ aL a.p12 a.p8.2.1 λz12=>(bg z12 0 (aD (a.p8.p2,a.2.1,a.p2,a.p3,a.p4,a.p5,(a.p6.1,a.p6.2.1,a.p6.p2,0,a.p6.q4),a.q7)) (aD ((bl .i64 ((L A.p6)+1)),a.2.1,a.p2,a.p3,a.p4,a.p5,(a.p6.1,a.p6.2.1,a.p6.p2,1,a.p6.q4),a.q7)))) (aD ((bl .i64 ((L A.p6)+1)),a.2))))))))) λx6=>(jn (α:=C_×tH×(ν)×Int×EX×ja×(ν)×(η)×(η)×Z×(η)×Y η) (jn (bg x6.p6.2.1 3 (aD (J,x6.2)) (aD ((decide ((x6.p6.2.1:Int)=23)),x6.2))) λs=>(aF s.1 (ck (e9 s.p8.2.1 (ai s.p12)) (ck (e9 s.p8.2.1 (ai s.q13)) (aD (s.2.1,s.p2,s.p3,s.p4,s.p5,s.p6,s.p7,s.p9,s.p10,s.p11,(cL s.p12 s.p8.2.1 s.p6.p3),(cL s.q13 s.p8.2.1 ([s.p7.2])))))) (aD (s.2.1,s.p2,s.p3,s.p4,s.p5,s.p6,s.p7,s.q9)))) λx13=>(k x6.1 x13))))) D))))))
def nS (x:tH×(η)×(η)×Y wH):I (Int×jC×(θ)×(Y eA)×(η)×(η)×(ν)×(η)×Y η):=
 (au (iE x.1) λa=>(bB (a8 (ai ([]:η)+ai x.2.1) 8) (bB (a8 (ai ([]:η)+ai x.p2) 8) (bw 0 (aX x.q3) (bC e_ x.q3 0 λz=>(au (cz z) λA=>(bw 1 (aX x.q3) (bC e_ x.q3 1 λs=>(au (cz s) λL=>D)) (M (a.1,a.2.1,a.p2,a.q3,(([]:η)++x.2.1),(([]:η)++x.p2),A))))) D))))
def gq (x:C_×yJ×Int×Int):I EW:=
 SG 0 nS (λz=>z.1) (λz=>z.2) (KG 0 (λz R T=>(z.1,R,T,z.2)) (λw=>((w.1,w.2.1,w.2.2.1,w.2.2.2))) (λv t=>[t])) x
def nR (x:tH×(η)×(η)×Y wH):I (Int×jC×(θ)×(Y eA)×(η)×(η)×Ya29×(η)×Y η):=
 (au (iE x.1) λs=>(bB (a8 (ai ([]:η)+ai x.2.1) 8) (bB (a8 (ai ([]:η)+ai x.p2) 8) (bw 0 (aX x.q3) (bC e_ x.q3 0 λU=>(au (cz U) λz=>(bw 1 (aX x.q3) (bC e_ x.q3 1 λL=>(au (cz L) λa=>(bw 2 (aX x.q3) (bC e_ x.q3 2 λA=>(au (cz A) λZ=>D)) (M (s.1,s.2.1,s.p2,s.q3,(([]:η)++x.2.1),(([]:η)++x.p2),(z.1.1,z.1.2,a.1.1,a.2.1,a.2.2,a.1.2),z.2))))) D))) D))))
def gP (x:C_×yJ×Int×Int):I EW:=
 SG 0 nR (λz=>z.1) (λz=>z.2.1) (KG 0 (λz R T=>(z.1,R,T,z.2.1,z.2.2)) (λw=>((w.1,w.2.1,w.2.2.1,w.2.2.2.1),w.2.2.2.2)) (λv t=>[t,v.2])) x
def nQ (x:tH×(η)×(η)×Y wH):I (Int×jC×(θ)×(Y eA)×(η)×(η)×(wH×Int×Int)×(η)×Y η):=
 (au (iE x.1) λs=>(bB (a8 (ai ([]:η)+ai x.2.1) 8) (bB (a8 (ai ([]:η)+ai x.p2) 8) (bw 0 (aX x.q3) (bC e_ x.q3 0 λU=>(au (cz U) λa=>(bw 1 (aX x.q3) (bC e_ x.q3 1 λL=>(au (cz L) λz=>(bw 2 (aX x.q3) (bC e_ x.q3 2 λA=>(au (cz A) λZ=>D)) (M (s.1,s.2.1,s.p2,s.q3,(([]:η)++x.2.1),(([]:η)++x.p2),((a.1.1,a.2.1,a.2.2,a.1.2),z.1),z.2))))) D))) D))))
def gm (x:C_×yJ×Int×Int):I EW:=
 SG 1 nQ (λz=>z.2.1) (λz=>z.2.2) (KG 1 (λz R T=>(z.1,z.2.1,R,T,z.2.2)) (λw=>(w.1,(w.2.1,w.2.2.1,w.2.2.2.1,w.2.2.2.2))) (λv t=>[v.1,t])) x
def nP (x:tH×(η)×(η)×Y wH):I (Int×jC×(θ)×(Y eA)×(η)×(η)×Ya27×(η)×Y η):=
 (au (iE x.1) λz=>(bB (a8 (ai ([]:η)+ai x.2.1) 8) (bB (a8 (ai ([]:η)+ai x.p2) 8) (bw 0 (aX x.q3) (bC e_ x.q3 0 λz2=>(au (cz z2) λA=>(bw 1 (aX x.q3) (bC e_ x.q3 1 λZ=>(au (cz Z) λs=>(bw 2 (aX x.q3) (bC e_ x.q3 2 λU=>(au (cz U) λa=>(bw 3 (aX x.q3) (bC e_ x.q3 3 λL=>(au (cz L) λy9=>D)) (M (z.1,z.2.1,z.p2,z.q3,(([]:η)++x.2.1),(([]:η)++x.p2),(A.1.1,A.1.2,(s.1.1,s.2.1,s.2.2,s.1.2),a.1.1,a.2.1,a.2.2,a.1.2),A.2))))) D))) D))) D))))
def jI (x:C_×yJ×Int×Int):I EW:=
 SG 0 nP (λz=>z.1) (λz=>z.2.1) (KG 0 (λz R T=>(z.1,R,T,z.2.1,z.p2,z.q3)) (λw=>((w.1,w.2.1,w.2.2.1,w.2.2.2.1),w.2.2.2.2.1,w.2.2.2.2.2)) (λv t=>[t,v.2.1,v.2.2])) x
def nO (x:tH×(η)×(η)×Y wH):I (Int×jC×(θ)×(Y eA)×(η)×(η)×Ya28×(η)×Y η):=
 (au (iE x.1) λz=>(bB (a8 (ai ([]:η)+ai x.2.1) 8) (bB (a8 (ai ([]:η)+ai x.p2) 8) (bw 0 (aX x.q3) (bC e_ x.q3 0 λz2=>(au (cz z2) λs=>(bw 1 (aX x.q3) (bC e_ x.q3 1 λZ=>(au (cz Z) λA=>(bw 2 (aX x.q3) (bC e_ x.q3 2 λU=>(au (cz U) λa=>(bw 3 (aX x.q3) (bC e_ x.q3 3 λL=>(au (cz L) λy9=>D)) (M (z.1,z.2.1,z.p2,z.q3,(([]:η)++x.2.1),(([]:η)++x.p2),((s.1.1,s.2.1,s.2.2,s.1.2),A.1.1,A.1.2,a.1.1,a.2.1,a.2.2,a.1.2),A.2))))) D))) D))) D))))
def iT (x:C_×yJ×Int×Int):I EW:=
 SG 1 nO (λz=>z.2.1) (λz=>z.p2) (KG 1 (λz R T=>(z.1,z.2.1,R,T,z.p2,z.q3)) (λw=>(w.1,(w.2.1,w.2.2.1,w.2.2.2.1,w.2.2.2.2.1),w.2.2.2.2.2)) (λv t=>[v.1,t,v.2.2])) x
def nN (x:tH×(η)×(η)×Y wH):I (Int×jC×(θ)×(Y eA)×(η)×(η)×(wH×wH×Int×Int)×(η)×Y η):=
 (au (iE x.1) λz=>(bB (a8 (ai ([]:η)+ai x.2.1) 8) (bB (a8 (ai ([]:η)+ai x.p2) 8) (bw 0 (aX x.q3) (bC e_ x.q3 0 λz2=>(au (cz z2) λs=>(bw 1 (aX x.q3) (bC e_ x.q3 1 λZ=>(au (cz Z) λa=>(bw 2 (aX x.q3) (bC e_ x.q3 2 λU=>(au (cz U) λA=>(bw 3 (aX x.q3) (bC e_ x.q3 3 λL=>(au (cz L) λy9=>D)) (M (z.1,z.2.1,z.p2,z.q3,(([]:η)++x.2.1),(([]:η)++x.p2),((s.1.1,s.2.1,s.2.2,s.1.2),(a.1.1,a.2.1,a.2.2,a.1.2),A.1),A.2))))) D))) D))) D))))
def im (x:C_×yJ×Int×Int):I EW:=
 SG 2 nN (λz=>z.p2) (λz=>z.q3) (KG 2 (λz R T=>(z.1,z.2.1,z.p2,R,T,z.q3)) (λw=>(w.1,w.2.1,(w.2.2.1,w.2.2.2.1,w.2.2.2.2.1,w.2.2.2.2.2))) (λv t=>[v.1,v.2.1,t])) x
def nM (x:tH×(η)×(η)×Y wH):I (Int×jC×(θ)×(Y eA)×(η)×(η)×Ya23×(η)×Y η):=
 (au (iE x.1) λA=>(bB (a8 (ai ([]:η)+ai x.2.1) 8) (bB (a8 (ai ([]:η)+ai x.p2) 8) (bw 0 (aX x.q3) (bC e_ x.q3 0 λz2=>(au (cz z2) λU=>(bw 1 (aX x.q3) (bC e_ x.q3 1 λz4=>(au (cz z4) λz=>(bw 2 (aX x.q3) (bC e_ x.q3 2 λz6=>(au (cz z6) λs=>(bw 3 (aX x.q3) (bC e_ x.q3 3 λZ=>(au (cz Z) λa=>(bw 4 (aX x.q3) (bC e_ x.q3 4 λL=>(au (cz L) λy11=>D)) (M (A.1,A.2.1,A.p2,A.q3,(([]:η)++x.2.1),(([]:η)++x.p2),(U.1.1,U.1.2,(z.1.1,z.2.1,z.2.2,z.1.2),(s.1.1,s.2.1,s.2.2,s.1.2),a.1.1,a.2.1,a.2.2,a.1.2),U.2))))) D))) D))) D))) D))))
def nI (x:C_×yJ×Int×Int):I EW:=
 SG 0 nM (λz=>z.1) (λz=>z.2.1) (KG 0 (λz R T=>(z.1,R,T,z.2.1,z.p2,z.p3,z.q4)) (λw=>((w.1,w.2.1,w.2.2.1,w.2.2.2.1),w.2.2.2.2.1,w.2.2.2.2.2.1,w.2.2.2.2.2.2)) (λv t=>[t,v.2.1,v.2.2.1,v.2.2.2])) x
def nL (x:tH×(η)×(η)×Y wH):I (Int×jC×(θ)×(Y eA)×(η)×(η)×Ya24×(η)×Y η):=
 (au (iE x.1) λA=>(bB (a8 (ai ([]:η)+ai x.2.1) 8) (bB (a8 (ai ([]:η)+ai x.p2) 8) (bw 0 (aX x.q3) (bC e_ x.q3 0 λz2=>(au (cz z2) λz=>(bw 1 (aX x.q3) (bC e_ x.q3 1 λz4=>(au (cz z4) λU=>(bw 2 (aX x.q3) (bC e_ x.q3 2 λz6=>(au (cz z6) λs=>(bw 3 (aX x.q3) (bC e_ x.q3 3 λZ=>(au (cz Z) λa=>(bw 4 (aX x.q3) (bC e_ x.q3 4 λL=>(au (cz L) λy11=>D)) (M (A.1,A.2.1,A.p2,A.q3,(([]:η)++x.2.1),(([]:η)++x.p2),((z.1.1,z.2.1,z.2.2,z.1.2),U.1.1,U.1.2,(s.1.1,s.2.1,s.2.2,s.1.2),a.1.1,a.2.1,a.2.2,a.1.2),U.2))))) D))) D))) D))) D))))
def nG (x:C_×yJ×Int×Int):I EW:=
 SG 1 nL (λz=>z.2.1) (λz=>z.p2) (KG 1 (λz R T=>(z.1,z.2.1,R,T,z.p2,z.p3,z.q4)) (λw=>(w.1,(w.2.1,w.2.2.1,w.2.2.2.1,w.2.2.2.2.1),w.2.2.2.2.2.1,w.2.2.2.2.2.2)) (λv t=>[v.1,t,v.2.2.1,v.2.2.2])) x
def nK (x:tH×(η)×(η)×Y wH):I (Int×jC×(θ)×(Y eA)×(η)×(η)×Ya25×(η)×Y η):=
 (au (iE x.1) λA=>(bB (a8 (ai ([]:η)+ai x.2.1) 8) (bB (a8 (ai ([]:η)+ai x.p2) 8) (bw 0 (aX x.q3) (bC e_ x.q3 0 λz2=>(au (cz z2) λz=>(bw 1 (aX x.q3) (bC e_ x.q3 1 λz4=>(au (cz z4) λs=>(bw 2 (aX x.q3) (bC e_ x.q3 2 λz6=>(au (cz z6) λU=>(bw 3 (aX x.q3) (bC e_ x.q3 3 λZ=>(au (cz Z) λa=>(bw 4 (aX x.q3) (bC e_ x.q3 4 λL=>(au (cz L) λy11=>D)) (M (A.1,A.2.1,A.p2,A.q3,(([]:η)++x.2.1),(([]:η)++x.p2),((z.1.1,z.2.1,z.2.2,z.1.2),(s.1.1,s.2.1,s.2.2,s.1.2),U.1.1,U.1.2,a.1.1,a.2.1,a.2.2,a.1.2),U.2))))) D))) D))) D))) D))))
def l7 (x:C_×yJ×Int×Int):I EW:=
 SG 2 nK (λz=>z.p2) (λz=>z.p3) (KG 2 (λz R T=>(z.1,z.2.1,z.p2,R,T,z.p3,z.q4)) (λw=>(w.1,w.2.1,(w.2.2.1,w.2.2.2.1,w.2.2.2.2.1,w.2.2.2.2.2.1),w.2.2.2.2.2.2)) (λv t=>[v.1,v.2.1,t,v.2.2.2])) x
def nJ (x:tH×(η)×(η)×Y wH):I (Int×jC×(θ)×(Y eA)×(η)×(η)×Ya42×(η)×Y η):=
 (au (iE x.1) λA=>(bB (a8 (ai ([]:η)+ai x.2.1) 8) (bB (a8 (ai ([]:η)+ai x.p2) 8) (bw 0 (aX x.q3) (bC e_ x.q3 0 λz2=>(au (cz z2) λz=>(bw 1 (aX x.q3) (bC e_ x.q3 1 λz4=>(au (cz z4) λs=>(bw 2 (aX x.q3) (bC e_ x.q3 2 λz6=>(au (cz z6) λa=>(bw 3 (aX x.q3) (bC e_ x.q3 3 λZ=>(au (cz Z) λU=>(bw 4 (aX x.q3) (bC e_ x.q3 4 λL=>(au (cz L) λy11=>D)) (M (A.1,A.2.1,A.p2,A.q3,(([]:η)++x.2.1),(([]:η)++x.p2),((z.1.1,z.2.1,z.2.2,z.1.2),(s.1.1,s.2.1,s.2.2,s.1.2),(a.1.1,a.2.1,a.2.2,a.1.2),U.1),U.2))))) D))) D))) D))) D))))
def kC (x:C_×yJ×Int×Int):I EW:=
 SG 3 nJ (λz=>z.p3) (λz=>z.q4) (KG 3 (λz R T=>(z.1,z.2.1,z.p2,z.p3,R,T,z.q4)) (λw=>(w.1,w.2.1,w.2.2.1,(w.2.2.2.1,w.2.2.2.2.1,w.2.2.2.2.2.1,w.2.2.2.2.2.2))) (λv t=>[v.1,v.2.1,v.2.2.1,t])) x
def AY (x:C_×yJ×Int×Int):I EW:=orE (nI x) (orE (nG x) (orE (l7 x) (orE (kC x) (orE (jI x) (orE (iT x) (orE (im x) (orE (gP x) (orE (gm x) (gq x)))))))))
def w_ (x:C_×yJ×Y ν):I ((Y ja)×tH×(η)×(η)×Y wH):=
 (iter (σ:=Int×(Y ja)×C_×yJ×Int) (λs=>(jn (bw s.1 (aX x.2.2) (aD ((fP (aX s.2.1) 400),s.2)) (aD (af,s.2))) λa=>(aF a.1 (jn (α:=(Y ja)×C_×yJ×Int) (bC iJ x.2.2 s.1 λA=>(au (AY (a.p2,a.p3,A)) λz=>(aF z.2.2 (bB (a8 (ai a.2.1+ai ([z.2.1])) 88) (aD ((a.2.1++([z.2.1])),a.p2,z.1,a.q4))) (aD a.2)))) λL=>(cQ ((cJ s.1),L))) (aD (a.2.1,a.p3))))) (0,([]:Y ja),x.1,x.2.1,0))
def zV (x:C_×Y ν):I ((fk×Y ja)×tH×(η)×(η)×Y wH):=
 (au (jS x.1) λz=>(aF (!z) (M (((([]:Y UH),([]:Y (ζ×Bool)),([]:Y j9),([]:Y ζ),([]:Y ζ),([]:Y π)),([]:Y ja)),(([]:Y (Int×η)),0,([]:θ),([]:Y eA)),([]:η),([]:η),([]:Y wH))) (au (uQ x.1) λs=>(au (w_ (x.1,s,x.2)) λa=>(M ((x.1.1,a.1),a.2))))))
def bA (x:Int×(η)×Int):I (Int×(η)×Int):=
 (jn (iZ (aX x.2.1) x.2.2 (aD (J,x.2)) (aD ((fP x.1 1),x.2))) λa=>(aF a.1 (M (0,a.2)) (lt (cJ a.2.2) λz=>(bC (.int .u8) a.2.1 (bl .i64 (z-1)) λs=>(bB (!decide ((x.1:Int)=0)) (M ((AQ (bl .i64 s) x.1),a.2.1,(cJ a.2.2))))))))
def r_ (x:Int):I (Xp):=
 (M (eC (1,x,[],([]:Y Xp))))
def pY (x:ζ):I (Xp):=
 (M (eC (2,0,x,([]:Y Xp))))
def oy (x:Int×Xp×Xp):I (Xp):=
 (M (eC (x.1,0,[],[eC ((Xp.op x.2.1),(Xp.n x.2.1),(Xp.name x.2.1),(Xp.l x.2.1)),eC ((Xp.op x.2.2),(Xp.n x.2.2),(Xp.name x.2.2),(Xp.l x.2.2))])))
def jG (x:ζ×Xp):I (Sx):=
 (M (oz (1,0,x.1,[],([]:Y Xp),eC ((Xp.op x.2),(Xp.n x.2),(Xp.name x.2),(Xp.l x.2)),([]:Y Sx),([]:Y Sx))))
def s7 (x:Unit):I xI:=
 (M ([(1,0,[120],0,0,[]),(1,0,[121],0,1,[]),(2,0,[118],0,0,[]),(1,0,[113],2,0,[]),(3,0,[109],0,0,[]),(3,0,[110],0,0,[]),(4,0,[114],0,0,[]),(5,0,[99],0,0,[109]),(6,0,[102],0,0,[])]))
def ph (x:η):I (Y ν):=
 (iter (σ:=Int×Y ν) (λa=>(bw a.1 (aX x) (bC (.int .u8) x a.1 λz=>(bC (.int .u8) x a.1 λs=>(bB (a8 (ai a.2+ai ([((AQ (bl .i64 z) 4),(bl .i64 ((AQ (bl .i64 (Int.tdiv (bl .i64 s) 4)) 5)-1)))])) 16) (cQ ((cJ a.1),(a.2++([((AQ (bl .i64 z) 4),(bl .i64 ((AQ (bl .i64 (Int.tdiv (bl .i64 s) 4)) 5)-1)))]))))))) (aD a.2))) (0,([]:Y ν)))
def oF (rmade_maker_expr:ab3->I ajc) (x:Int×C'×gY×Bool×Y ζ):I ajc:=
 (au (bA (10,x.p2)) λU=>(jn (α:=Bool×C'×gY×UI×(Int×Int×ζ)×Y ζ) (bw U.1 2 (aD (J,x.2.1,U.2,x.q3,(0,0,[]),[[97],[98],[120],[121],[118],[120],[121]])) (bg x.1 0 (aD ((c_ 7 U.1),x.2.1,U.2,x.q3,(0,0,[]),[[97],[98],[120],[121],[118],[120],[121]])) (aD (af,x.2.1,U.2,x.q3,(0,0,[]),[[97],[98],[120],[121],[118],[120],[121]])))) λa=>(aF a.1 (au (bA (4,a.p2)) λy3=>(au (r_ y3.1) λy4=>(M (eC ((Xp.op y4),(Xp.n y4),(Xp.name y4),(Xp.l y4)),a.2.1,y3.2,a.p3)))) (bw U.1 7 (au (bA ((aX a.q5),a.p2)) λy5=>(kZ (.str) a.q5 y5.1 λz6=>(au (pY z6) λZ=>(M (eC ((Xp.op Z),(Xp.n Z),(Xp.name Z),(Xp.l Z)),a.2.1,y5.2,a.p3))))) (bg U.1 7 (au (rmade_maker_expr (0,a.2.1,a.p2,a.p3)) λL=>(bB (((a.p3.1==L.p3)&&J)&&aB (ai a.p3.2) (ai L.q4)&&J) (M (eC (3,0,[113],[eC ((Xp.op L.1),(Xp.n L.1),(Xp.name L.1),(Xp.l L.1))]),L.2)))) (au (bA ((aM (ai ([6,7,8,11,13,17]))),a.p2)) λy9=>(kZ aL ([6,7,8,11,13,17]) y9.1 λz10=>(au (rmade_maker_expr ((bl .i64 (x.1-1)),a.2.1,y9.2,a.p3)) λs=>(bB (((a.p3.1==s.p3)&&J)&&aB (ai a.p3.2) (ai s.q4)&&J) (au (rmade_maker_expr ((bl .i64 (x.1-1)),s.2)) λA=>(bB (((s.p3==A.p3)&&J)&&aB (ai s.q4) (ai A.q4)&&J) (au (oy (z10,s.1,A.1)) λz=>(M (eC ((Xp.op z),(Xp.n z),(Xp.name z),(Xp.l z)),A.2))))))))))))))
def iH:Nat->ab3->I ajc
 |0,_=>D
 |n+1,x=>oF (iH n) x
theorem zB (n:Nat) (x:Int×C'×gY×Bool×Y ζ):iH (n+1) x=oF (iH n) x:=rfl
def fy (x:Int×C'×gY×Bool×Y ζ):I ajc:=iH fuel x
def eS (x:ζ×C'×gY×Bool×Y ζ):I (Bool×C'×gY×Bool×Y ζ):=
 (au (jq (x.q4,x.1)) λa=>(M ((c_ 0 a),x.2)))
def m6 (rmade_maker_stmts:aje->I ab2) (rmade_maker_stmt:ab3->I aft) (rmade_maker_block:ajd->I afu) (x:ν×C'×gY×Bool×Y ζ):I ab2:=
 (iter (σ:=Int×C'×gY×(Y Sx)×Bool×Y ζ) (λs=>(jn (bw s.1 x.1.2 (bg s.1 0 (aD (J,s.2)) (aD ((fP 0 s.2.1.2.1),s.2))) (aD (af,s.2))) λa=>(aF a.1 (au (rmade_maker_stmt (x.1.1,a.2.1,a.p2,a.q4)) λz=>(bB (((a.p4==a.p4)&&J)&&aB (ai a.q5) (ai a.q5)&&J) (bB (a8 (ai a.p3+ai ([eD z.1])) 176) (cQ ((cJ s.1),z.2.1,z.p2,(a.p3++([eD z.1])),z.q3))))) (aD (a.2.1,a.p2,a.q4,a.p3))))) (0,x.2.1,x.p2,([]:Y Sx),x.q3))
def oE (rmade_maker_stmts:aje->I ab2) (rmade_maker_stmt:ab3->I aft) (rmade_maker_block:ajd->I afu) (x:Int×C'×gY×Bool×Y ζ):I aft:=
 (au (bA (18,x.p2)) λy1=>(jn (α:=Bool×C'×gY×XN×Bool×Y ζ) (bw 0 x.1 (lt (bl .i64 (x.2.1.2.1-1)) λz3=>(bw 0 z3 (aD ((!x.2.1.p3),(x.2.1.1,(bl .i64 (x.2.1.2.1-1)),x.2.1.2.2),y1.2,(0,0,[],[],0,0,[]),x.q3)) (aD (af,(x.2.1.1,(bl .i64 (x.2.1.2.1-1)),x.2.1.2.2),y1.2,(0,0,[],[],0,0,[]),x.q3)))) (aD (af,(x.2.1.1,(bl .i64 (x.2.1.2.1-1)),x.2.1.2.2),y1.2,(0,0,[],[],0,0,[]),x.q3))) λx2=>(bw y1.1 4 (kZ (.str) ([[120],[121],[120],[118]]) y1.1 λz4=>(au (fy (1,x2.2.1,x2.p2,x2.q4)) λy5=>(bB (((x2.p4==y5.p3)&&J)&&aB (ai x2.q5) (ai y5.q4)&&J) (au (jG (z4,y5.1)) λy6=>(M (eD y6,y5.2)))))) (bg y1.1 4 (au (bA (2,x2.p2)) λy7=>(kZ (.str) ([[97],[98]]) y7.1 λz8=>(au (fy (1,x2.2.1,y7.2,x2.q4)) λy9=>(bB (((x2.p4==y9.p3)&&J)&&aB (ai x2.q5) (ai y9.q4)&&J) (au (jG (z8,y9.1)) λy10=>(M (eD y10,y9.2))))))) (bg y1.1 5 (au (fy (0,x2.2.1,x2.p2,x2.q4)) λy11=>(bB (((x2.p4==y11.p3)&&J)&&aB (ai x2.q5) (ai y11.q4)&&J) (au (fy (1,y11.2)) λy12=>(bB (((y11.p3==y12.p3)&&J)&&aB (ai y11.q4) (ai y12.q4)&&J) (M (oz (1,0,[113],[],[eC ((Xp.op y11.1),(Xp.n y11.1),(Xp.name y11.1),(Xp.l y11.1))],eC ((Xp.op y12.1),(Xp.n y12.1),(Xp.name y12.1),(Xp.l y12.1)),([]:Y Sx),([]:Y Sx)),y12.2)))))) (jn (bg y1.1 6 (aD ((fP 0 x.1),x2.2)) (aD (af,x2.2))) λx13=>(aF x13.1 (au (fy (1,x13.2.1,x13.p2,x13.q4)) λA=>(bB (((x13.p4==A.p3)&&J)&&aB (ai x13.q5) (ai A.q4)&&J) (au (rmade_maker_stmts (((bl .i64 (x.1-1)),1),A.2)) λy15=>(bB (((A.p3==A.p3)&&J)&&aB (ai A.q4) (ai A.q4)&&J) (jn (α:=C'×gY×XN×(Int×Int×(ζ)×(ζ)×Int×Int×(ζ)×Y Xp)×UI×(Y Sx)×Y Sx) (au (bA (2,y15.2.1)) λy17=>(bg y17.1 1 (au (rmade_maker_stmts (((bl .i64 (x.1-1)),1),y15.1,y17.2,y15.p2)) λy18=>(bB (((y15.p2.1==y15.p2.1)&&J)&&aB (ai y15.p2.2) (ai y15.p2.2)&&J) (aD (y18.1,y18.2.1,x13.p3,(2,0,[],[],(Xp.op A.1),(Xp.n A.1),(Xp.name A.1),(Xp.l A.1)),y18.p2,y15.q3,y18.q3)))) (aD (y15.1,y17.2,x13.p3,(2,0,[],[],(Xp.op A.1),(Xp.n A.1),(Xp.name A.1),(Xp.l A.1)),y15.p2,y15.q3,([]:Y Sx))))) λx16=>(M (oz (x16.p3.1,x16.p3.2.1,x16.p3.p2,x16.p3.p3,([]:Y Xp),eC x16.p3.q4,x16.q5),x16.1,x16.2.1,x16.p4))))))) (jn (bg y1.1 7 (aD ((fP 0 x.1),x13.2)) (aD (af,x13.2))) λa=>(aF a.1 (au (pY ([98])) λy20=>(au (r_ 2) λy21=>(au (oy (13,y20,y21)) λy22=>(au (rmade_maker_stmts (((bl .i64 (x.1-1)),1),(a.2.1.1,a.2.1.2.1,a.2.1.p2,a.2.1.p3,a.2.1.p4,J),a.p2,a.q4)) λy23=>(bB (((a.p4==a.p4)&&J)&&aB (ai a.q5) (ai a.q5)&&J) (au (pY ([98])) λy24=>(au (r_ 1) λy25=>(au (oy (6,y24,y25)) λy26=>(au (jG ([98],y26)) λy27=>(bB (a8 (ai y23.q3+ai ([eD y27])) 176) (M (oz (3,0,[],[],([]:Y Xp),eC ((Xp.op y22),(Xp.n y22),(Xp.name y22),(Xp.l y22)),(y23.q3++([eD y27])),([]:Y Sx)),(y23.1.1,y23.1.2.1,y23.1.p2,y23.1.p3,y23.1.p4,a.2.1.q5),y23.2.1,y23.p2)))))))))))) (jn (α:=Bool×C'×gY×XN×Bool×Y ζ) (bg y1.1 8 (aF x2.1 (kZ (.str) ([[109],[110]]) (bl .i64 (y1.1-8)) λz29=>(au (eS (z29,a.2.1,a.p2,a.q4)) λy30=>(bB (((a.p4==y30.p3)&&J)&&aB (ai a.q5) (ai y30.q4)&&J) (aD ((!y30.1),y30.2.1,y30.p2,a.p3,y30.q3))))) (aD (af,a.2))) (bg y1.1 9 (aF x2.1 (kZ (.str) ([[109],[110]]) (bl .i64 (y1.1-8)) λz31=>(au (eS (z31,a.2.1,a.p2,a.q4)) λy32=>(bB (((a.p4==y32.p3)&&J)&&aB (ai a.q5) (ai y32.q4)&&J) (aD ((!y32.1),y32.2.1,y32.p2,a.p3,y32.q3))))) (aD (af,a.2))) (aD (af,a.2)))) λs=>(aF s.1 (kZ (.str) ([[109],[110]]) (bl .i64 (y1.1-8)) λz33=>(au (rmade_maker_block ((z33,(bl .i64 (x.1-1))),s.2.1,s.p2,s.q4)) λy34=>(bB (((s.p4==s.p4)&&J)&&aB (ai s.q5) (ai s.q5)&&J) (M (oz (4,0,z33,[],([]:Y Xp),eC (0,0,[],([]:Y Xp)),y34.1,([]:Y Sx)),y34.2))))) (jn (α:=Bool×C'×gY×XN×Bool×Y ζ) (bg y1.1 10 (aF x2.1 (au (eS ([114],s.2.1,s.p2,s.q4)) λy36=>(bB (((s.p4==y36.p3)&&J)&&aB (ai s.q5) (ai y36.q4)&&J) (aD ((!y36.1),y36.2.1,y36.p2,s.p3,y36.q3)))) (aD (af,s.2))) (bg y1.1 11 (aF x2.1 (au (eS ([114],s.2.1,s.p2,s.q4)) λy37=>(bB (((s.p4==y37.p3)&&J)&&aB (ai s.q5) (ai y37.q4)&&J) (aD ((!y37.1),y37.2.1,y37.p2,s.p3,y37.q3)))) (aD (af,s.2))) (aD (af,s.2)))) λx35=>(aF x35.1 (au (rmade_maker_block (([114],(bl .i64 (x.1-1))),x35.2.1,x35.p2,x35.q4)) λy38=>(bB (((x35.p4==x35.p4)&&J)&&aB (ai x35.q5) (ai x35.q5)&&J) (M (oz ((bl .i64 ((bl .i64 (y1.1-10))+5)),0,[114],[],([]:Y Xp),eC (0,0,[],([]:Y Xp)),y38.1,([]:Y Sx)),y38.2)))) (jn (bg y1.1 12 (aD (x2.1,x35.2)) (aD (af,x35.2))) λL=>(aF L.1 (au (bA (2,L.p2)) λy40=>(au (rmade_maker_stmts ((0,(bl .i64 (1+y40.1))),(L.2.1.1,L.2.1.2.1,L.2.1.p2,J,L.2.1.q4),y40.2,L.q4)) λy41=>(bB (((L.p4==L.p4)&&J)&&aB (ai L.q5) (ai L.q5)&&J) (M (oz (7,0,[],[],([]:Y Xp),eC (0,0,[],([]:Y Xp)),y41.q3,([]:Y Sx)),(y41.1.1,y41.1.2.1,y41.1.p2,af,y41.1.q4),y41.2.1,y41.p2))))) (jn (bg y1.1 13 (aF x2.1 (aD ((!L.2.1.p4),L.2)) (aD (af,L.2))) (aD (af,L.2))) λz=>(aF z.1 (au (rmade_maker_stmts (((bl .i64 (x.1-1)),2),(z.2.1.1,z.2.1.2.1,z.2.1.p2,z.2.1.p3,J,z.2.1.q5),z.p2,z.q4)) λy43=>(bB (((z.p4==z.p4)&&J)&&aB (ai z.q5) (ai z.q5)&&J) (M (oz (8,0,[],[],([]:Y Xp),eC (0,0,[],([]:Y Xp)),y43.q3,([]:Y Sx)),(y43.1.1,y43.1.2.1,y43.1.p2,y43.1.p3,af,y43.1.q5),y43.2.1,y43.p2)))) (jn (α:=Bool×C'×gY×XN×Bool×Y ζ) (bg y1.1 14 (aF x2.1 (aF (!z.2.1.p4) (au (eS ([109],z.2.1,z.p2,z.q4)) λy45=>(bB (((z.p4==y45.p3)&&J)&&aB (ai z.q5) (ai y45.q4)&&J) (aD ((!y45.1),y45.2.1,y45.p2,z.p3,y45.q3)))) (aD (af,z.2))) (aD (af,z.2))) (aD (af,z.2))) λZ=>(aF Z.1 (au (pY ([120])) λy46=>(au (jG ([97],y46)) λy47=>(M (oz (4,0,[109],[],([]:Y Xp),eC (0,0,[],([]:Y Xp)),[oz (9,0,[99],[],([]:Y Xp),eC (0,0,[],([]:Y Xp)),([]:Y Sx),([]:Y Sx)),eD y47],([]:Y Sx)),Z.2.1,Z.p2,Z.q4)))) (jn (α:=Bool×C'×gY×XN×Bool×Y ζ) (bg y1.1 15 (aF x2.1 (au (eS ([109],Z.2.1,Z.p2,Z.q4)) λy49=>(bB (((Z.p4==y49.p3)&&J)&&aB (ai Z.q5) (ai y49.q4)&&J) (aD ((!y49.1),y49.2.1,y49.p2,Z.p3,y49.q3)))) (aD (af,Z.2))) (aD (af,Z.2))) λx48=>(aF x48.1 (au (bA (2,x48.p2)) λy50=>(M (oz (4,0,[109],[],([]:Y Xp),eC (0,0,[],([]:Y Xp)),[oz ((bl .i64 (10+y50.1)),0,[99],[],([]:Y Xp),eC (0,0,[],([]:Y Xp)),([]:Y Sx),([]:Y Sx))],([]:Y Sx)),x48.2.1,y50.2,x48.q4))) (jn (bg y1.1 16 (aF (!x48.2.1.p3) (aF (!x48.2.1.q5) (aD ((!x48.2.1.p2),x48.2)) (aD (af,x48.2))) (aD (af,x48.2))) (aD (af,x48.2))) λU=>(aF U.1 (au (fy (1,(U.2.1.1,U.2.1.2.1,J,U.2.1.q3),U.p2,U.q4)) λy52=>(bB (((U.p4==y52.p3)&&J)&&aB (ai U.q5) (ai y52.q4)&&J) (M (oz (14,0,[102],[],([]:Y Xp),eC ((Xp.op y52.1),(Xp.n y52.1),(Xp.name y52.1),(Xp.l y52.1)),([]:Y Sx),([]:Y Sx)),y52.2)))) (jn (α:=Bool×C'×gY×XN×Bool×Y ζ) (bg y1.1 17 (aF (!U.2.1.p3) (au (bA (2,U.p2)) λy54=>(aD ((decide ((y54.1:Int)=1)),U.2.1,y54.2,U.q3))) (aD (af,U.2))) (aD (af,U.2))) λx53=>(aF x53.1 (M (oz (15,0,[97],[102],([]:Y Xp),eC (0,0,[],([]:Y Xp)),([]:Y Sx),([]:Y Sx)),x53.2.1,x53.p2,x53.q4)) (au (fy (1,x53.2.1,x53.p2,x53.q4)) λy55=>(bB (((x53.p4==y55.p3)&&J)&&aB (ai x53.q5) (ai y55.q4)&&J) (au (jG ([120],y55.1)) λy56=>(M (eD y56,y55.2))))))))))))))))))))))))))))))
def m7 (rmade_maker_stmts:aje->I ab2) (rmade_maker_stmt:ab3->I aft) (rmade_maker_block:ajd->I afu) (x:j9×C'×gY×Bool×Y ζ):I afu:=
 (bB (a8 (ai x.q4+ai ([x.1.1])) 16) (au (bA (2,x.p2)) λs=>(au (rmade_maker_stmts ((x.1.2,(bl .i64 (1+s.1))),x.2.1,s.2,x.p3,(x.q4++([x.1.1])))) λa=>(bB (((x.p3==x.p3)&&J)&&aB (ai (x.q4++([x.1.1]))) (ai (x.q4++([x.1.1])))&&J) (bB (c_ 0 (bl .i64 ((aX a.p2.2)-1))&&fP (bl .i64 ((aX a.p2.2)-1)) (ai a.p2.2)) (M (a.q3,a.1,a.2.1,af,(dQ (aQ (bl .i64 ((aX a.p2.2)-1))) a.p2.2))))))))
mutual
def dP:Nat->aje->I ab2
 |0,_=>D
 |n+1,x=>m6 (dP n) (eO n) (eo n) x
def eO:Nat->ab3->I aft
 |0,_=>D
 |n+1,x=>oE (dP n) (eO n) (eo n) x
def eo:Nat->ajd->I afu
 |0,_=>D
 |n+1,x=>m7 (dP n) (eO n) (eo n) x
end
def qW (x:ν×C'×gY×Bool×Y ζ):I ab2:=dP fuel x
def pg (x:η):I (xI×Y xH):=
 (au (s7 ()) λy1=>(au (bA (3,x,0)) λy2=>(iter (σ:=Int×C'×xI×dA×gY×UI×Y xH) (λz=>(bw z.1 (bl .i64 (2+y2.1)) (kZ (.str) z.p3 z.1 λz4=>(jn (α:=C'×xI×dA×j9×gY×UI×(Y xH)×dA×Y Sx) (bg z.1 0 (iter (σ:=Int×C'×xI×dA×j9×gY×UI×(Y xH)×dA×Y Sx) (λL=>(bw L.1 (bl .i64 (2+y2.1)) (kZ (.str) L.p3 L.1 λz7=>(bB (a8 (ai L.q9+ai ([oz (12,0,z7,[],([]:Y Xp),eC (0,0,[],([]:Y Xp)),([]:Y Sx),([]:Y Sx))])) 176) (cQ ((cJ L.1),L.2.1,L.p2,L.p3,L.p4,L.p5,L.p6,L.p7,L.p8,(L.q9++([oz (12,0,z7,[],([]:Y Xp),eC (0,0,[],([]:Y Xp)),([]:Y Sx),([]:Y Sx))])))))) (aD (bS L.2)))) (1,(z.1,z.2.1.2),z.p2,z.p3,(z4,0),z.p4,z.p5,z.q6,[[97],[98]],([]:Y Sx))) (aD ((z.1,z.2.1.2),z.p2,z.p3,(z4,0),z.p4,z.p5,z.q6,[[97],[98]],([]:Y Sx)))) λA=>(au (bA (3,A.p4)) λy8=>(au (qW ((2,(bl .i64 (1+y8.1))),A.1,y8.2,A.p5)) λU=>(bB (((A.p5.1==A.p5.1)&&J)&&aB (ai A.p5.2) (ai A.p5.2)&&J) (bB (a8 (ai A.q8+ai U.q3) 176) (jn (α:=C'×xI×dA×j9×gY×UI×(Y xH)×dA×Y Sx) (jn (α:=Bool×C'×xI×dA×j9×gY×UI×(Y xH)×dA×Y Sx) (bg z.1 0 (au (bA (3,U.2.1)) λy12=>(aD ((decide ((y12.1:Int)=2)),U.1,A.2.1,A.p2,A.p3,y12.2,U.p2,A.p6,A.p7,(A.q8++U.q3)))) (aD (af,U.1,A.2.1,A.p2,A.p3,U.2.1,U.p2,A.p6,A.p7,(A.q8++U.q3)))) λa=>(aF a.1 (kZ (.str) a.p3 1 λZ=>(bB (a8 (ai a.q9+ai ([oz (13,0,Z,[],([]:Y Xp),eC (0,0,[],([]:Y Xp)),([]:Y Sx),([]:Y Sx))])) 176) (aD (a.2.1,a.p2,a.p3,a.p4,a.p5,a.p6,a.p7,a.p8,(a.q9++([oz (13,0,Z,[],([]:Y Xp),eC (0,0,[],([]:Y Xp)),([]:Y Sx),([]:Y Sx))])))))) (aD a.2))) λs=>(bB (a8 (ai s.p6+ai ([(s.p3.1,s.p3.2,s.q7)])) 72) (cQ ((cJ z.1),s.1,s.2.1,s.p2,s.p4,s.p5,(s.p6++([(s.p3.1,s.p3.2,s.q7)])))))))))))) (au (au (fH (z.p2,z.q6)) λy14=>(jk y14.1 0 (au (s7 ()) λy15=>(au (r_ 1) λy16=>(au (jG ([120],y16)) λy17=>(M (y15,[([109,97,105,110],0,[[97],[98]],[eD y17])]))))) (M (z.p2,z.q6)))) λr=>M (bS r)))) (0,(0,20,af,af,af,af),y1,[[109,97,105,110],[116,49],[116,50],[116,51]],y2.2,(J,([]:Y ζ)),([]:Y xH)))))
def ye (x:η):I C_:=
 (au (pg x) λs=>(au (qV s) λa=>(M a.1)))
def s8 (x:η×η):I (fk×Y ja):=
 (au (ye x.1) λz=>(au (ph x.2) λs=>(au (zV (z,s)) λa=>(M a.1))))
def om (x:Unit):I fk:=
 (iter (σ:=Int×oK×ng×(Y j9)×dA×dA×Y π) (λs=>(bw s.1 (aM (ai ([[109,97,105,110],[116,49],[116,50],[116,51]]))) (iter (σ:=Int×oK×ng×(Y j9)×dA×dA×Y π) (λa=>(bw a.1 6 (bB (a8 (ai a.q6+ai ([(s.1,a.1,(bl .i64 ((bl .i64 ((bl .i64 (10*s.1))+a.1))+1)))])) 24) (cQ ((cJ a.1),a.2.1,a.p2,a.p3,a.p4,a.p5,(a.q6++([(s.1,a.1,(bl .i64 ((bl .i64 ((bl .i64 (10*s.1))+a.1))+1)))]))))) (aD (oh ((cJ s.1),a.2))))) (0,s.2)) (aD s.2))) (0,[([120],0,0,af,0),([121],0,0,af,1),([118],0,0,J,0),([113],0,2,af,0),([113],1,2,af,0)],[([109],af),([110],af),([114],J)],[([99],0)],[[102]],[[109,97,105,110],[116,49],[116,50],[116,51]],([]:Y π)))
def lE (x:tH×(η)×(η)×η):I η:=
 (iter (σ:=Int×η) (λa=>(bw a.1 (aX x.1.q3) (jn (α:=η) (bC iu x.1.q3 a.1 λs=>(bg s.1 3 (bB (a8 (ai a.2+ai ([a.1])) 8) (aD (a.2++([a.1])))) (aD a.2))) λz=>(cQ ((cJ a.1),z))) (aD a.2))) (0,([]:η)))
def ug (x:Unit):I η:=
 (M ([3,3,3,3,3,4,4,4,4,4,5,5,5,6,6,6,7,7,7,8,9,10,11,12,13,14,14,15,16,16,17,17,18,18,19,20,1,1,2,21,22,23,23]))
def o9 (x:ν×(η)×Int):I (Int×(η)×Int):=
 (jn (bg x.1.1 3 (aD ((decide ((x.1.1:Int)=3)),x.2)) (aD ((decide ((x.1.1:Int)=4)),x.2))) λA=>(aF A.1 (au (bA (8,A.2)) λZ=>(kZ aL ([0,0,0,1,1,2,3,4]) Z.1 λz3=>(M (z3,Z.2)))) (jn (bg x.1.1 6 (aD ((decide ((x.1.1:Int)=6)),A.2)) (aD ((decide ((x.1.1:Int)=7)),A.2))) λs=>(aF s.1 (au (bA (2,s.2)) λy5=>(M y5)) (jn (bg x.1.1 8 (aD ((decide ((x.1.1:Int)=8)),s.2)) (bg x.1.1 9 (aD ((decide ((x.1.1:Int)=9)),s.2)) (bg x.1.1 10 (aD ((decide ((x.1.1:Int)=10)),s.2)) (aD ((decide ((x.1.1:Int)=11)),s.2))))) λa=>(aF a.1 (M (2,a.2)) (jn (bg x.1.1 16 (aD ((decide ((x.1.1:Int)=16)),a.2)) (bg x.1.1 17 (aD ((decide ((x.1.1:Int)=17)),a.2)) (bg x.1.1 18 (aD ((decide ((x.1.1:Int)=18)),a.2)) (bg x.1.1 19 (aD ((decide ((x.1.1:Int)=19)),a.2)) (bg x.1.1 22 (aD ((decide ((x.1.1:Int)=22)),a.2)) (aD ((decide ((x.1.1:Int)=23)),a.2))))))) λz=>(aF z.1 (M (0,z.2)) (jn (bg x.1.1 20 (aD ((decide ((x.1.1:Int)=20)),z.2)) (aD ((decide ((x.1.1:Int)=21)),z.2))) λL=>(aF L.1 (au (bA (3,L.2)) λU=>(M ((AQ (bl .i64 ((cJ x.1.2)+U.1)) 4),U.2))) (M ((-1),L.2))))))))))))
def qO (x:(gx×Int×Int)×(η)×Int):I (Int×(η)×Int):=
 (bg x.1.2.1 3 (bC aL x.1.1.2.1 x.1.2.2 λU=>(M (U,x.2))) (bg x.1.2.1 23 (bC aL x.1.1.p2 0 λL=>(M (L,x.2))) (jn (bg x.1.2.1 4 (aD ((decide ((x.1.2.1:Int)=4)),x.2,x.1.1)) (aD ((decide ((x.1.2.1:Int)=22)),x.2,x.1.1))) λa=>(aF a.1 (au (bA (3,a.2.1)) λy4=>(M y4)) (bg x.1.2.1 5 (au (bA (2,a.2.1)) λy5=>(M y5)) (bg x.1.2.1 18 (au (lE a.2.2) λs=>(bw 0 (aX s) (au (bA ((aX s),a.2.1)) λz=>(bC aL s z.1 λA=>(M (A,z.2)))) (M ((-1),a.2.1)))) (bg x.1.2.1 19 (au (lE a.2.2) λZ=>(M ((aX Z),a.2.1))) (M (0,a.2.1)))))))))
def gO (x:gY×η):I (η×gY×η):=
 (iter (σ:=Int×gY×(η)×η) (λa=>(bw a.1 (aX x.2) (jn (α:=gY×(η)×η) (kZ aL a.p2 a.1 λz=>(jn (α:=Bool×gY×(η)×η) (iZ (aX a.p2) (bl .i64 (a.1+3)) (au (bA (2,a.2.1)) λA=>(aD ((decide ((A.1:Int)=1)),A.2,a.2.2))) (aD (af,a.2))) λs=>(aF s.1 (bB (a8 (ai s.q3+ai ([z])) 8) (aD (s.2.1,s.p2,(s.q3++([z]))))) (aD s.2)))) λL=>(cQ ((cJ a.1),L))) (aD (a.q3,a.2.1,a.p2)))) (0,x.1,x.2,([]:η)))
def qP (x:(gx×oK×ng×(Y j9)×dA×dA×Y π)×gY×(η)×(η)×(η)×η):I (ja×gY×(η)×(η)×(η)×η):=
 (au (bA (4,x.2.1)) λA=>(au (ug ()) λy2=>(au (bA ((aX y2),A.2)) λy3=>(bC aL y2 y3.1 λz4=>(au (bA (6,y3.2)) λy5=>(jn (α:=gY×(η)×(η)×(η)×(η)×gx×fk×EX×Int×Int×Int×Int×Int) (jn (α:=Bool×gY×(η)×(η)×(η)×(η)×gx×fk×EX×Int×Int×Int×Int×Int) (bg z4 1 (aD (J,y5.2,x.p2,x.p3,x.p4,x.q5,x.1.1,x.1.2,(0,0,0,0,0),A.1,z4,0,0,(bl .i64 ((bl .i64 (A.1*6))+y5.1)))) (aD ((decide ((z4:Int)=2)),y5.2,x.p2,x.p3,x.p4,x.q5,x.1.1,x.1.2,(0,0,0,0,0),A.1,z4,0,0,(bl .i64 ((bl .i64 (A.1*6))+y5.1))))) λL=>(aF L.1 (aD (L.2.1,L.p2,L.p3,L.p4,L.p5,L.p6,L.p7,L.p8,L.p9,L.p10,L.p11,L.p12,(-1))) (aD L.2))) λz=>(au (o9 ((z.p9,A.1),z.1)) λy8=>(au (qO ((z.p5,z.p9,y8.1),y8.2)) λy9=>(jn (α:=gY×(η)×(η)×(η)×(η)×EX×Int×Int×Int×Int×Int×η) (jn (bg z.p9 5 (aD (J,y9.2,z.2.1,z.p2,z.p3,z.p4,z.p7,z.p8,z.p9,y8.1,y9.1,z.q12)) (bg z.p9 3 (bC k_ z.p6.1 y8.1 λz12=>(aD ((fP 0 z12.2.2.1),y9.2,z.2.1,z.p2,z.p3,z.p4,z.p7,z.p8,z.p9,y8.1,y9.1,z.q12))) (bg z.p9 4 (bC k_ z.p6.1 y8.1 λz13=>(aD ((fP 0 z13.2.2.1),y9.2,z.2.1,z.p2,z.p3,z.p4,z.p7,z.p8,z.p9,y8.1,y9.1,z.q12))) (aD (af,y9.2,z.2.1,z.p2,z.p3,z.p4,z.p7,z.p8,z.p9,y8.1,y9.1,z.q12))))) λs=>(aF s.1 (bg A.1 0 (au (gO (s.2.1,s.p2)) λy14=>(bB (aB (ai s.p2) (ai y14.2.2)&&J) (aD (y14.2.1,y14.2.2,s.p3,s.p4,s.p5,s.p6,s.p7,s.p8,s.p9,s.p10,s.q11,y14.1)))) (bg A.1 1 (au (gO (s.2.1,s.p3)) λy15=>(bB (aB (ai s.p3) (ai y15.2.2)&&J) (aD (y15.2.1,s.p2,y15.2.2,s.p4,s.p5,s.p6,s.p7,s.p8,s.p9,s.p10,s.q11,y15.1)))) (bg A.1 2 (au (gO (s.2.1,s.p4)) λy16=>(bB (aB (ai s.p4) (ai y16.2.2)&&J) (aD (y16.2.1,s.p2,s.p3,y16.2.2,s.p5,s.p6,s.p7,s.p8,s.p9,s.p10,s.q11,y16.1)))) (bg A.1 3 (au (gO (s.2.1,s.p5)) λy17=>(bB (aB (ai s.p5) (ai y17.2.2)&&J) (aD (y17.2.1,s.p2,s.p3,s.p4,y17.2.2,s.p6,s.p7,s.p8,s.p9,s.p10,s.q11,y17.1)))) D)))) (aD (s.2.1,s.p2,s.p3,s.p4,s.p5,s.p6,s.p7,s.p8,s.p9,s.p10,s.q11,([]:η))))) λx10=>(jn (α:=gY×(η)×(η)×(η)×(η)×EX×Int×Int×Int×Int×Int×(η)×η) (jn (bg x10.p7 4 (aD (J,x10)) (aD ((decide ((x10.p7:Int)=22)),x10))) λa=>(aF a.1 (bg A.1 0 (au (gO (a.2.1,a.p2)) λy20=>(bB (aB (ai a.p2) (ai y20.2.2)&&J) (aD (y20.2.1,y20.2.2,a.p3,a.p4,a.p5,a.p6,a.p7,a.p8,a.p9,a.p10,a.p11,a.q12,y20.1)))) (bg A.1 1 (au (gO (a.2.1,a.p3)) λy21=>(bB (aB (ai a.p3) (ai y21.2.2)&&J) (aD (y21.2.1,a.p2,y21.2.2,a.p4,a.p5,a.p6,a.p7,a.p8,a.p9,a.p10,a.p11,a.q12,y21.1)))) (bg A.1 2 (au (gO (a.2.1,a.p4)) λy22=>(bB (aB (ai a.p4) (ai y22.2.2)&&J) (aD (y22.2.1,a.p2,a.p3,y22.2.2,a.p5,a.p6,a.p7,a.p8,a.p9,a.p10,a.p11,a.q12,y22.1)))) (bg A.1 3 (au (gO (a.2.1,a.p5)) λZ=>(bB (aB (ai a.p5) (ai Z.2.2)&&J) (aD (Z.2.1,a.p2,a.p3,a.p4,Z.2.2,a.p6,a.p7,a.p8,a.p9,a.p10,a.p11,a.q12,Z.1)))) D)))) (aD (a.2.1,a.p2,a.p3,a.p4,a.p5,a.p6,a.p7,a.p8,a.p9,a.p10,a.p11,a.q12,([]:η))))) λU=>(M (U.q6,U.1,U.2.1,U.p2,U.p3,U.p4))))))))))))
def sX (x:(gx×fk×Int×Bool)×(η)×Int):I ((Y ja)×(η)×Int):=
 (bB (c_ 0 (aX x.1.2.1.p4)&&c_ (aX x.1.2.1.p4) (aX x.1.2.1.p4)&&a8 (aQ (aX x.1.2.1.p4)) 24&&decide (((aX x.1.2.1.p4):Int)=4)) (jn (α:=gY×gx×fk×(η)×(η)×(η)×η) (bw 0 (aM 4) (jn (α:=gY×gx×fk×(η)×(η)×(η)×η) (jn (α:=Bool×gY×gx×fk×(η)×(η)×(η)×η) (aF x.1.q3 (bC aL x.1.1.q3 0 λz4=>(bw 1 z4 (au (bA (3,x.2)) λy5=>(aD ((decide ((y5.1:Int)=2)),y5.2,x.1.1,x.1.2.1,([]:η),([]:η),([]:η),([]:η)))) (aD (af,x.2,x.1.1,x.1.2.1,([]:η),([]:η),([]:η),([]:η))))) (aD (af,x.2,x.1.1,x.1.2.1,([]:η),([]:η),([]:η),([]:η)))) λx3=>(aF x3.1 (bB (a8 (ai x3.p4+ai ([1])) 8) (aD (x3.2.1,x3.p2,x3.p3,(x3.p4++([1])),x3.q5))) (aD x3.2))) λx2=>(bw 1 (aM 4) (jn (α:=gY×gx×fk×(η)×(η)×(η)×η) (jn (α:=Bool×gY×gx×fk×(η)×(η)×(η)×η) (aF x.1.q3 (bC aL x2.2.1.q3 1 λz8=>(bw 1 z8 (au (bA (3,x2.1)) λy9=>(aD ((decide ((y9.1:Int)=2)),y9.2,x2.2))) (aD (af,x2)))) (aD (af,x2))) λx7=>(aF x7.1 (bB (a8 (ai x7.p5+ai ([1])) 8) (aD (x7.2.1,x7.p2,x7.p3,x7.p4,(x7.p5++([1])),x7.q6))) (aD x7.2))) λx6=>(bw 2 (aM 4) (jn (α:=gY×gx×fk×(η)×(η)×(η)×η) (jn (α:=Bool×gY×gx×fk×(η)×(η)×(η)×η) (aF x.1.q3 (bC aL x6.2.1.q3 2 λz12=>(bw 1 z12 (au (bA (3,x6.1)) λy13=>(aD ((decide ((y13.1:Int)=2)),y13.2,x6.2))) (aD (af,x6)))) (aD (af,x6))) λL=>(aF L.1 (bB (a8 (ai L.p6+ai ([1])) 8) (aD (L.2.1,L.p2,L.p3,L.p4,L.p5,(L.p6++([1])),L.q7))) (aD L.2))) λx10=>(bw 3 (aM 4) (jn (α:=gY×gx×fk×(η)×(η)×(η)×η) (jn (α:=Bool×gY×gx×fk×(η)×(η)×(η)×η) (aF x.1.q3 (bC aL x10.2.1.q3 3 λz16=>(bw 1 z16 (au (bA (3,x10.1)) λy17=>(aD ((decide ((y17.1:Int)=2)),y17.2,x10.2))) (aD (af,x10)))) (aD (af,x10))) λA=>(aF A.1 (bB (a8 (ai A.q7+ai ([1])) 8) (aD (A.2.1,A.p2,A.p3,A.p4,A.p5,A.p6,(A.q7++([1]))))) (aD A.2))) λZ=>(bw 4 (aM 4) (jn (α:=gY×gx×fk×(η)×(η)×(η)×η) (jn (α:=Bool×gY×gx×fk×(η)×(η)×(η)×η) (aF x.1.q3 (bC aL Z.2.1.q3 4 λz20=>(bw 1 z20 (au (bA (3,Z.1)) λy21=>(aD ((decide ((y21.1:Int)=2)),y21.2,Z.2))) (aD (af,Z)))) (aD (af,Z))) λx19=>(aF x19.1 D (aD x19.2))) λx18=>D) (aD Z))) (aD x10))) (aD x6))) (aD x2))) (aD (x.2,x.1.1,x.1.2.1,([]:η),([]:η),([]:η),([]:η)))) λx1=>(iter (σ:=gY×gx×fk×(Y ja)×(η)×(η)×(η)×η) (λx22=>(jn (bw (aX x22.p3) x.1.p2 (aD ((fP x22.1.2 (aX x22.1.1)),x22)) (aD (af,x22))) λs=>(aF s.1 (jn (α:=gY×gx×fk×(Y ja)×(η)×(η)×(η)×η) (au (qP ((s.p2,s.p3),s.2.1,s.q5)) λz=>(bB (aB (ai s.q8) (ai z.q5)&&(aB (ai s.p7) (ai z.p4)&&(aB (ai s.p6) (ai z.p3)&&(aB (ai s.p5) (ai z.p2)&&J)))) (au (rV (s.p3,s.p2,z.1)) λy26=>(aF (!y26.2) (aD (z.2.1,s.p2,s.p3,s.p4,z.2.2)) (jn (α:=gY×gx×fk×(Y ja)×ja×gx×(η)×(η)×(η)×η) (jn (bg z.1.2.1 3 (aD (J,z.2.1,s.p2,s.p3,s.p4,z.1,y26.1,z.2.2)) (aD ((decide ((z.1.2.1:Int)=23)),z.2.1,s.p2,s.p3,s.p4,z.1,y26.1,z.2.2))) λa=>(aF a.1 (bg a.p5.1 0 (bC aL a.p2.q3 0 λz29=>(bB (a8 (ai a.p7+ai ([z29])) 8) (aD (a.2.1,a.p2,a.p3,a.p4,(0,a.p5.2),a.p6,(a.p7++([z29])),a.q8)))) (bg a.p5.1 1 (bC aL a.p2.q3 1 λz30=>(bB (a8 (ai a.p8+ai ([z30])) 8) (aD (a.2.1,a.p2,a.p3,a.p4,(1,a.p5.2),a.p6,a.p7,(a.p8++([z30])),a.q9)))) (bg a.p5.1 2 (bC aL a.p2.q3 2 λz31=>(bB (a8 (ai a.p9+ai ([z31])) 8) (aD (a.2.1,a.p2,a.p3,a.p4,(2,a.p5.2),a.p6,a.p7,a.p8,(a.p9++([z31])),a.q10)))) (bg a.p5.1 3 (bC aL a.p2.q3 3 λz32=>(bB (a8 (ai a.q10+ai ([z32])) 8) (aD (a.2.1,a.p2,a.p3,a.p4,(3,a.p5.2),a.p6,a.p7,a.p8,a.p9,(a.q10++([z32])))))) D)))) (aD a.2))) λU=>(bB (a8 (ai U.p3+ai ([U.p4])) 88) (aD (U.1,U.p5,U.p2,(U.p3++([U.p4])),U.q6)))))))) λx24=>(cQ x24)) (aD (s.p4,s.2.1))))) (x1.1,x1.2.1,x1.p2,([]:Y ja),x1.q3))))
def qQ (x:η×Int):I (fk×Y ja):=
 (jn (bw 600 (aX x.1) (bB (c_ 0 600&&c_ 600 (ai x.1)) (aD (dQ (aQ 600) x.1))) (aD x.1)) λx1=>(au (om ()) λy2=>(au (nF y2) λy3=>(au (bA (3,x1,0)) λy4=>(iter (σ:=Int×gY×fk×gx×Y ja) (λs=>(iZ s.1 (bl .i64 (1+y4.1)) (bB (a8 (ai s.q4+ai ([(0,20,s.1,0,0,([]:η),([]:η)),(s.1,1,(-1),0,(-1),([]:η),([]:η))])) 88) (cQ ((cJ s.1),s.2.1,s.p2,s.p3,(s.q4++([(0,20,s.1,0,0,([]:η),([]:η)),(s.1,1,(-1),0,(-1),([]:η),([]:η))]))))) (au (iter (σ:=Int×gY×fk×gx×(Y ja)×Y ja) (λa=>(bw a.1 (aX s.q4) (jn (α:=gY×fk×gx×(Y ja)×Y ja) (kZ gH a.p4 a.1 λA=>(au (rV (a.p2,a.p3,A)) λZ=>(aF Z.2 (bB (a8 (ai a.q5+ai ([A])) 88) (aD (a.2.1,a.p2,Z.1,a.p4,(a.q5++([A]))))) (aD a.2)))) λx7=>(cQ ((cJ a.1),x7))) (au (au (sX ((a.p3,a.p2,(H7 (fJ x.2 0) 60),af),a.2.1)) λz=>(bB (a8 (ai a.q5+ai z.1) 88) (au (uP (a.p2,(a.q5++z.1))) λU=>(jk U.2 0 (au (om ()) λL=>(M (L,([]:Y ja)))) (M (a.p2,(a.q5++z.1))))))) λr=>M (bS r)))) (0,s.2.1,s.p2,s.p3,s.q4,([]:Y ja))) λr=>M (bS r)))) (1,y4.2,y2,y3,[(0,1,(-1),0,(-1),([]:η),([]:η))]))))))
def lG (x:(η×(η)×η)×Int):I (fk×Y ja):=
 (bw 0 (aX x.1.2.2) (au (qQ (x.1.2.2,x.2)) λs=>(M s)) (bB (c_ 0 (H7 (aX x.1.2.1) x.2)&&c_ (H7 (aX x.1.2.1) x.2) (ai x.1.2.1)) (au (s8 (x.1.1,(dQ (aQ (H7 (aX x.1.2.1) x.2)) x.1.2.1))) λa=>(M a))))
end
end Go.Proofs.YtloaobgmjdjhhaaGreatDoor.AI
