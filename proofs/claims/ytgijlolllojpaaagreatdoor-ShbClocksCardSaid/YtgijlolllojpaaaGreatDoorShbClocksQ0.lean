/-
  Texts of the proof, part 1 of 6: what is used to prove the statement. No condition.
-/
import Derived.WalkKit
import Derived.Lib.Hide
import Derived.Deep.QuietTactic
namespace Prod
variable {A0 A1 A2 A3 A4 A5 A6 A7 A8 A9 A10 A11 A12 A13 A14 A15 A16 A17 A18 A19 A20 A21 A22 A23 A24:Type}
abbrev p2 (x:A0×A1×A2×A3):A2:=x.2.2.1
abbrev p3 (x:A0×A1×A2×A3×A4):A3:=x.2.2.2.1
abbrev q3 (x:A0×A1×A2×A3):A3:=x.2.2.2
abbrev p4 (x:A0×A1×A2×A3×A4×A5):A4:=x.2.2.2.2.1
abbrev q4 (x:A0×A1×A2×A3×A4):A4:=x.2.2.2.2
abbrev p5 (x:A0×A1×A2×A3×A4×A5×A6):A5:=x.2.2.2.2.2.1
abbrev q5 (x:A0×A1×A2×A3×A4×A5):A5:=x.2.2.2.2.2
abbrev p6 (x:A0×A1×A2×A3×A4×A5×A6×A7):A6:=x.2.2.2.2.2.2.1
abbrev q6 (x:A0×A1×A2×A3×A4×A5×A6):A6:=x.2.2.2.2.2.2
abbrev p7 (x:A0×A1×A2×A3×A4×A5×A6×A7×A8):A7:=x.2.2.2.2.2.2.2.1
abbrev q7 (x:A0×A1×A2×A3×A4×A5×A6×A7):A7:=x.2.2.2.2.2.2.2
abbrev p8 (x:A0×A1×A2×A3×A4×A5×A6×A7×A8×A9):A8:=x.2.2.2.2.2.2.2.2.1
abbrev q8 (x:A0×A1×A2×A3×A4×A5×A6×A7×A8):A8:=x.2.2.2.2.2.2.2.2
abbrev p9 (x:A0×A1×A2×A3×A4×A5×A6×A7×A8×A9×A10):A9:=x.2.2.2.2.2.2.2.2.2.1
abbrev q9 (x:A0×A1×A2×A3×A4×A5×A6×A7×A8×A9):A9:=x.2.2.2.2.2.2.2.2.2
abbrev p10 (x:A0×A1×A2×A3×A4×A5×A6×A7×A8×A9×A10×A11):A10:=x.2.2.2.2.2.2.2.2.2.2.1
abbrev q10 (x:A0×A1×A2×A3×A4×A5×A6×A7×A8×A9×A10):A10:=x.2.2.2.2.2.2.2.2.2.2
abbrev p11 (x:A0×A1×A2×A3×A4×A5×A6×A7×A8×A9×A10×A11×A12):A11:=x.2.2.2.2.2.2.2.2.2.2.2.1
abbrev q11 (x:A0×A1×A2×A3×A4×A5×A6×A7×A8×A9×A10×A11):A11:=x.2.2.2.2.2.2.2.2.2.2.2
abbrev p12 (x:A0×A1×A2×A3×A4×A5×A6×A7×A8×A9×A10×A11×A12×A13):A12:=x.2.2.2.2.2.2.2.2.2.2.2.2.1
abbrev q12 (x:A0×A1×A2×A3×A4×A5×A6×A7×A8×A9×A10×A11×A12):A12:=x.2.2.2.2.2.2.2.2.2.2.2.2
abbrev p13 (x:A0×A1×A2×A3×A4×A5×A6×A7×A8×A9×A10×A11×A12×A13×A14):A13:=x.2.2.2.2.2.2.2.2.2.2.2.2.2.1
abbrev q13 (x:A0×A1×A2×A3×A4×A5×A6×A7×A8×A9×A10×A11×A12×A13):A13:=x.2.2.2.2.2.2.2.2.2.2.2.2.2
abbrev p14 (x:A0×A1×A2×A3×A4×A5×A6×A7×A8×A9×A10×A11×A12×A13×A14×A15):A14:=x.2.2.2.2.2.2.2.2.2.2.2.2.2.2.1
abbrev p15 (x:A0×A1×A2×A3×A4×A5×A6×A7×A8×A9×A10×A11×A12×A13×A14×A15×A16):A15:=x.2.2.2.2.2.2.2.2.2.2.2.2.2.2.2.1
abbrev p16 (x:A0×A1×A2×A3×A4×A5×A6×A7×A8×A9×A10×A11×A12×A13×A14×A15×A16×A17):A16:=x.2.2.2.2.2.2.2.2.2.2.2.2.2.2.2.2.1
abbrev q16 (x:A0×A1×A2×A3×A4×A5×A6×A7×A8×A9×A10×A11×A12×A13×A14×A15×A16):A16:=x.2.2.2.2.2.2.2.2.2.2.2.2.2.2.2.2
abbrev p17 (x:A0×A1×A2×A3×A4×A5×A6×A7×A8×A9×A10×A11×A12×A13×A14×A15×A16×A17×A18):A17:=x.2.2.2.2.2.2.2.2.2.2.2.2.2.2.2.2.2.1
abbrev q17 (x:A0×A1×A2×A3×A4×A5×A6×A7×A8×A9×A10×A11×A12×A13×A14×A15×A16×A17):A17:=x.2.2.2.2.2.2.2.2.2.2.2.2.2.2.2.2.2
abbrev p18 (x:A0×A1×A2×A3×A4×A5×A6×A7×A8×A9×A10×A11×A12×A13×A14×A15×A16×A17×A18×A19):A18:=x.2.2.2.2.2.2.2.2.2.2.2.2.2.2.2.2.2.2.1
abbrev q18 (x:A0×A1×A2×A3×A4×A5×A6×A7×A8×A9×A10×A11×A12×A13×A14×A15×A16×A17×A18):A18:=x.2.2.2.2.2.2.2.2.2.2.2.2.2.2.2.2.2.2
abbrev p19 (x:A0×A1×A2×A3×A4×A5×A6×A7×A8×A9×A10×A11×A12×A13×A14×A15×A16×A17×A18×A19×A20):A19:=x.2.2.2.2.2.2.2.2.2.2.2.2.2.2.2.2.2.2.2.1
abbrev p20 (x:A0×A1×A2×A3×A4×A5×A6×A7×A8×A9×A10×A11×A12×A13×A14×A15×A16×A17×A18×A19×A20×A21):A20:=x.2.2.2.2.2.2.2.2.2.2.2.2.2.2.2.2.2.2.2.2.1
abbrev q21 (x:A0×A1×A2×A3×A4×A5×A6×A7×A8×A9×A10×A11×A12×A13×A14×A15×A16×A17×A18×A19×A20×A21):A21:=x.2.2.2.2.2.2.2.2.2.2.2.2.2.2.2.2.2.2.2.2.2
end Prod
namespace Go.Proofs.YtgijlolllojpaaaGreatDoor.AI
open Go.RowKit
set_option maxRecDepth 100000
set_option maxHeartbeats 4000000
set_option linter.unusedVariables false
set_option linter.unusedSimpArgs false
open Act renaming put→Om
open _root_.Array renaming length_toList→iz,replicate→oJ
open _root_.Bool renaming true→ai,false→aj
open _root_.Int renaming ofNat→aO,toNat→aT,tmod→Ar
open IntKind renaming wrap→pa
open _root_.List renaming length→al,replicate→aG,range→bt,take→dF,length_singleton→dS,getElem?_cons_zero→re
open _root_.Nat renaming beq→aC,testBit→aN,ble→eO,blt→gm,min→iX
open Oper renaming wp→H7
open _root_.Option renaming some→af,none→ah,bind_some→aH
open Region renaming wanted→iO,binds→Ao,ready→H6
open _root_.Sum renaming inr→bP,inl→lD
open World renaming shape?→rZ,cell?→Oh
noncomputable section
abbrev η:=List Int
abbrev ζ:=List UInt8
abbrev θ:=List Bool
abbrev ι:=List Nat
abbrev ξ:=List Value
abbrev ω:=Int×Int×Int×Int×Int×Int
abbrev υ:=Int×Int×Int×Int×Int
abbrev π:=Int×Int×Int
abbrev ν:=Int×Int
abbrev ay:=@if_neg
abbrev aD:=@if_pos
abbrev aQ:=@decide_eq_true
abbrev be:=@decide_eq_true_eq
abbrev bw:=@of_decide_eq_true
abbrev bG:=@if_true
abbrev bN:=@decide_eq_false
abbrev cB:=@decide_false
abbrev cN:=@decide_true
abbrev cY:=@absurd
abbrev c4:=@beq_self_eq_true
abbrev c5:=@beq_iff_eq
abbrev ef:=@if_false
abbrev gh:=@or_false
abbrev gM:=@congrArg
abbrev BR:=@true_and
abbrev Ux:=@of_decide_eq_false
abbrev ak:=@Option.some.injEq
abbrev av:=@Bool.and_eq_true
abbrev aw:=@Nat.eq_of_beq_eq_true
abbrev aA:=@List.getD_eq_getElem?_getD
abbrev aB:=@List.getElem?_eq_getElem
abbrev aE:=@Prod.mk.injEq
abbrev aL:=@List.mem_singleton
abbrev a8:=@Nat.le_of_ble_eq_true
abbrev ba:=@List.mem_of_getElem?
abbrev bc:=@List.getElem?_map
abbrev bl:=@List.getElem?_eq_some_iff
abbrev bm:=@List.mem_cons
abbrev bu:=@Nat.testBit_or
abbrev bx:=@List.length_append
abbrev bE:=@Nat.ble_eq_true_of_le
abbrev bH:=@List.length_take
abbrev bK:=@List.getElem?_append_left
abbrev bQ:=@Nat.zero_add
abbrev bR:=@List.getElem?_eq_none
abbrev bV:=@List.mem_append
abbrev bW:=@List.getElem?_append_right
abbrev bX:=@Nat.le_refl
abbrev bY:=@List.length_map
abbrev cf:=@Nat.lt_or_ge
abbrev cC:=@List.map_append
abbrev cD:=@List.not_mem_nil
abbrev cE:=@Bool.false_eq_true
abbrev cJ:=@Array.getElem?_eq_some_iff
abbrev cL:=@Nat.mul_le_mul_right
abbrev cM:=@List.mem_cons_of_mem
abbrev cP:=@Array.getElem?_toList
abbrev cX:=@List.take_length
abbrev cZ:=@List.getElem?_take
abbrev c_:=@List.mem_map
abbrev dg:=@Nat.le_trans
abbrev dh:=@List.mem_cons_self
abbrev dE:=@Nat.lt_of_lt_of_le
abbrev dG:=@List.ext_getElem
abbrev dR:=@List.foldl_append
abbrev dT:=@Int.natCast_nonneg
abbrev eB:=@Int.le_refl
abbrev eC:=@Bool.not_eq_true'
abbrev eP:=@List.length_replicate
abbrev fk:=@List.take_of_length_le
abbrev fm:=@List.getElem?_of_mem
abbrev fQ:=@List.flatMap_cons
abbrev fZ:=@List.mem_of_mem_take
abbrev gq:=@List.map_cons
abbrev gu:=@List.all_eq_true
abbrev gI:=@Array.getD_eq_getD_getElem?
abbrev gL:=@List.length_eq_zero_iff
abbrev gY:=@List.getElem?_drop
abbrev ig:=@Nat.ne_of_beq_eq_false
abbrev ik:=@Array.getElem?_eq_getElem
abbrev iB:=@Nat.le_succ_of_le
abbrev iC:=@List.length_range
abbrev iD:=@List.append_assoc
abbrev iP:=@Option.isSome_iff_exists
abbrev iQ:=@Bool.and_self
abbrev iW:=@Nat.succ_mul
abbrev iY:=@List.cons.injEq
abbrev iZ:=@List.append_nil
abbrev i_:=@Bool.or_eq_true
abbrev jT:=@Option.map_eq_some_iff
abbrev jU:=@List.mem_range
abbrev jZ:=@Option.some.inj
abbrev ky:=@List.getElem?_toArray
abbrev kL:=@Nat.or_assoc
abbrev kN:=@List.map_take
abbrev lq:=@Nat.zero_le
abbrev lw:=@List.take_append_of_le_length
abbrev lx:=@List.mem_append_left
abbrev lE:=@List.getElem?_replicate
abbrev mN:=@List.length_drop
abbrev nG:=@List.getElem_range
abbrev nI:=@Bool.false_and
abbrev nN:=@List.mem_append_right
abbrev o9:=@List.take_succ_eq_append_getElem
abbrev o_:=@List.getElem?_set
abbrev pd:=@Bool.and_eq_true_iff
abbrev pO:=@Nat.add_assoc
abbrev pP:=@List.eq_of_mem_replicate
abbrev pR:=@Bool.true_and
abbrev qg:=@Array.getElem?_setIfInBounds_ne
abbrev qm:=@List.map_congr_left
abbrev qn:=@List.length_take_le
abbrev q_:=@Nat.lt_succ_self
abbrev rc:=@List.getElem_map
abbrev r7:=@Nat.beq_refl
abbrev r8:=@List.drop_of_length_le
abbrev sX:=@Nat.min_eq_left
abbrev sY:=@List.length_set
abbrev tu:=@List.contains_iff_mem
abbrev tL:=@List.size_toArray
abbrev vb:=@List.replicate_succ'
abbrev vw:=@Nat.sub_self
abbrev vx:=@List.mem_flatMap
abbrev vy:=@List.getElem_set
abbrev vz:=@List.getElem_mem
abbrev vA:=@List.drop_append
abbrev vW:=@Classical.byContradiction
abbrev wz:=@List.drop_succ_cons
abbrev xA:=@Nat.not_lt_zero
abbrev xB:=@List.range_succ
abbrev xC:=@List.mem_filter
abbrev yw:=@List.filter_append
abbrev yX:=@Nat.zero_or
abbrev Ap:=@Nat.lt_succ_of_lt
abbrev Aq:=@List.map_map
abbrev BP:=@List.take_append_drop
abbrev BQ:=@List.length_filter_le
abbrev CF:=@Int.not_lt
abbrev CI:=@Nat.lt_irrefl
abbrev Ev:=@List.getElem?_mapIdx
abbrev Ew:=@List.drop_append_of_le_length
abbrev F3:=@List.sum_append
abbrev Hn:=@List.getElem?_range
abbrev Ho:=@Int.toNat_of_nonneg
abbrev H8:=@Nat.mul_comm
abbrev LF:=@Nat.eq_zero_or_pos
abbrev LI:=@Array.ext'
abbrev Oj:=@Nat.lt_trichotomy
abbrev Ol:=@Nat.add_mul
inductive FV where
 |raw (v:Value)
 |sl (cells:List FV) (n:Nat)
 |ptr (cells:List FV) (off:Nat)
 |agg (cells:List FV)
inductive AV where
 |f (x:FV)
 |ptr (id off:Nat)
 |sl (id off n:Nat)
 |row (id sz n:Nat)
 |mp (id:Nat)
 |emp
 |anyb
 |agg (cells:List AV)
 |tup (vs:List AV)
 |clo (g:FuncId) (cap:List AV)
def FV.isCell:FV->Bool
 |.raw v=>v.oneCell'
 |.sl _ _=>ai
 |.ptr _ _=>ai
 |.agg _=>aj
def AV.isCell:AV->Bool
 |.f x=>x.isCell
 |.ptr _ _=>ai
 |.sl _ _ _=>ai
 |.row _ _ _=>ai
 |.mp _=>ai
 |.emp=>ai
 |.clo _ _=>ai
 |_=>aj
inductive nF (O:Nat->Prop) (w:World):FV->Value->Prop
 |raw (v:Value):nF O w (.raw v) v
 |nil (a:Option Addr) (c:Nat) (hc:c<=maxLen):nF O w (.sl [] 0) (.slice a 0 c)
 |sl (cells:List FV) (n c b off:Nat) (us:Nat->Value) (hn:n<=c) (hc:c<=maxLen) (hO:¬O b) (hb:b<w.heap.size)
   (hcl:∀x∈cells,x.isCell=ai)
   (hu:∀j,j<cells.length->w.cell? ⟨b,off+j,ah⟩=af (us j)) (hr:∀(j:Nat) x,cells[j]? =af x->nF O w x (us j)):
   nF O w (.sl cells n) (.slice (af ⟨b,off,ah⟩) n c)
 |ptr (cells:List FV) (o b off:Nat) (us:Nat->Value) (hO:¬O b) (hb:b<w.heap.size)
   (hcl:∀x∈cells,x.isCell=ai)
   (hu:∀j,j<cells.length->w.cell? ⟨b,off+j,ah⟩=af (us j)) (hr:∀(j:Nat) x,cells[j]? =af x->nF O w x (us j)):
   nF O w (.ptr cells o) (.pointer (af ⟨b,off+o,ah⟩))
 |agg (cells:List FV) (vs:ξ) (hl:vs.length=cells.length) (hcl:∀x∈cells,x.isCell=ai)
   (hr:∀(j:Nat) x v,cells[j]? =af x->vs[j]? =af v->nF O w x v):nF O w (.agg cells) (.agg vs.toArray)
abbrev PM:=Nat->Option Nat
inductive cW (φ:PM) (O:Nat->Prop) (w:World):AV->Value->Prop
 |f {x:FV} {v:Value} (h:nF O w x v):cW φ O w (.f x) v
 |ptr {id off b:Nat} (h:φ id=af b):cW φ O w (.ptr id off) (.pointer (af ⟨b,off,ah⟩))
 |sl {id off n c b:Nat} (h:φ id=af b) (hn:n<=c) (hc:c<=maxLen):cW φ O w (.sl id off n) (.slice (af ⟨b,off,ah⟩) n c)
 |row {id sz n c b:Nat} (h:φ id=af b) (hn:n<=c) (hc:c<=maxLen) (hs:∃ty,w.shape? b=af (ty,c*sz)):
   cW φ O w (.row id sz n) (.slice (af ⟨b,0,ah⟩) n c)
 |emp {a:Option Addr}:cW φ O w .emp (.slice a 0 0)
 |anyb {b:Bool}:cW φ O w .anyb (.bool b)
 |mp {id b:Nat} (h:φ id=af b):cW φ O w (.mp id) (.map (af b))
 |agg {cells:List AV} {vs:ξ} (hl:vs.length=cells.length) (hcl:∀x∈cells,x.isCell=ai)
   (hr:∀(j:Nat) x v,cells[j]? =af x->vs[j]? =af v->cW φ O w x v):cW φ O w (.agg cells) (.agg vs.toArray)
 |tup {cells:List AV} {vs:ξ} (hl:vs.length=cells.length)
   (hr:∀(j:Nat) x v,cells[j]? =af x->vs[j]? =af v->cW φ O w x v):cW φ O w (.tup cells) (.tuple vs.toArray)
 |clo {g:FuncId} {cells:List AV} {vs:ξ} (hl:vs.length=cells.length)
   (hr:∀(j:Nat) x v,cells[j]? =af x->vs[j]? =af v->cW φ O w x v):cW φ O w (.clo g cells) (.func (.func g) #[] vs.toArray)
structure LA (O:Nat->Prop) (w w':World):Prop where
 os:w'.os=w.os
 tape:w'.tape=w.tape
 output:w'.output=w.output
 size:w.heap.size<=w'.heap.size
 blk:∀k,k<w.heap.size->¬O k->w'.heap[k]? =w.heap[k]?
 shp:∀k,k<w.heap.size->w'.shape? k=w.shape? k
theorem LA.refl (O:Nat->Prop) (w:World):LA O w w:=⟨rfl,rfl,rfl,bX _,λ_ _ _=>rfl,λ_ _=>rfl⟩
theorem Ed {w w':World} {b:Nat} (h:w'.heap[b]? =w.heap[b]?) (o:Nat):w'.cell? ⟨b,o,ah⟩=w.cell? ⟨b,o,ah⟩:=by
 unfold Oh;rw[h]
theorem nF.ext {O O':Nat->Prop} {w w':World} (he:LA O w w') (J:∀k,k<w.heap.size->O' k->O k) {x:FV} {v:Value} (h:nF O w x v):nF O' w' x v:=by
 induction h with
 |raw v=>exact .raw v
 |nil a c hc=>exact .nil a c hc
 |sl cells n c b off us hn hc hO hb hcl hu hr I=>
  exact .sl cells n c b off us hn hc (λh=>hO (J b hb h)) (dE hb he.size) hcl (λj hj=>by rw[Ed (he.blk b hb hO)];exact hu j hj) I
 |ptr cells o b off us hO hb hcl hu hr I=>
  exact .ptr cells o b off us (λh=>hO (J b hb h)) (dE hb he.size) hcl (λj hj=>by rw[Ed (he.blk b hb hO)];exact hu j hj) I
 |agg cells vs hl hcl hr I=>exact .agg cells vs hl hcl I
theorem cW.ext {φ φ':PM} {O O':Nat->Prop} {w w':World} (hs:∀i k,φ i=af k->φ' i=af k) (he:LA O w w') (J:∀k,k<w.heap.size->O' k->O k) {x:AV} {v:Value} (h:cW φ O w x v):cW φ' O' w' x v:=by
 induction h with
 |f h=>exact .f (h.ext he J)
 |ptr h=>exact .ptr (hs _ _ h)
 |sl h hn hc=>exact .sl (hs _ _ h) hn hc
 |row h hn hc hsh=>
  obtain⟨ty,hty⟩:=hsh;refine .row (hs _ _ h) hn hc ⟨ty,?_⟩;rw[he.shp _ ?_];exact hty;unfold rZ at hty;rcases cf _ w.heap.size with hlt|hge
  .exact hlt
  .rw[Array.getElem?_eq_none hge]at hty;cases hty
 |emp=>exact .emp
 |anyb=>exact .anyb
 |mp h=>exact .mp (hs _ _ h)
 |agg hl hcl hr I=>exact .agg hl hcl I
 |tup hl hr I=>exact .tup hl I
 |clo hl hr I=>exact .clo hl I
inductive BC where
 |fz (l:List FV)
 |mx (l:List AV)
 |mp (es:List (Value×AV))
 |it (s:ByteArray) (pos:Nat)
def BC.get:BC->Nat->Option AV
 |.fz l,j=>l[j]?.map AV.f
 |.mx l,j=>l[j]?
 |_,_=>ah
def BC.len:BC->Nat
 |.fz l=>l.length
 |.mx l=>l.length
 |_=>0
def BC.isCells:BC->Bool
 |.fz _=>ai
 |.mx _=>ai
 |_=>aj
structure xu where
 ty:TypeId
 c:BC
abbrev HF:=Nat->Option xu
def own (φ:PM) (h:HF) (k:Nat):Prop:=∃id b,h id=af b/\φ id=af k
def tot (E:Nat->Prop) (φ:PM) (h:HF) (k:Nat):Prop:=E k\/own φ h k
def vV (φ:PM) (O:Nat->Prop) (w:World) (c:BC) (arr:Array Value):Prop:=
 c.len<=arr.size/\∀j x,c.get j=af x->x.isCell=ai/\∃v,arr[j]? =af v/\cW φ O w x v
def jC (φ:PM) (O:Nat->Prop) (w:World) (b:xu) (o:Obj):Prop:=
 match b.c with
 |.mp es=>∃ents clock,o= .map ents clock/\ents.toList.map (·.key)=es.map (·.1)/\∀(j:Nat) x,es[j]? =af x->∃m,ents[j]? =af m/\cW φ O w x.2 m.val
 |.it s p=>o= .stringIter s p
 |c=>∃arr,o= .cells arr b.ty (0,0)/\vV φ O w c arr
def Yv (φ:PM) (O:Nat->Prop) (w:World) (k:Nat) (b:xu):Prop:=∃o,w.heap[k]? =af o/\jC φ O w b o
theorem Yv.cells {φ:PM} {O:Nat->Prop} {w:World} {k:Nat} {b:xu} (h:Yv φ O w k b) (hc:b.c.isCells=ai):
 ∃arr,w.heap[k]? =af (.cells arr b.ty (0,0))/\vV φ O w b.c arr:=by
 obtain⟨o,h1,h2⟩:=h;unfold jC at h2;cases hb:b.c with
 |fz l=>rw[hb]at h2;obtain⟨arr,rfl,I⟩:=h2;exact⟨arr,h1,I⟩
 |mx l=>rw[hb]at h2;obtain⟨arr,rfl,I⟩:=h2;exact⟨arr,h1,I⟩
 |mp _=>rw[hb]at hc;cases hc
 |it _ _=>rw[hb]at hc;cases hc
theorem jC.mono {φ φ':PM} {O O':Nat->Prop} {w w':World} (hk:∀x v,cW φ O w x v->cW φ' O' w' x v) {b:xu} {o:Obj} (h:jC φ O w b o):jC φ' O' w' b o:=by
 unfold jC at h ⊢;cases hb:b.c with
 |fz l=>rw[hb]at h;obtain⟨arr,h1,h2,J⟩:=h;exact⟨arr,h1,h2,λj x I=>by obtain⟨a,v,c,d⟩:=J j x I;exact⟨a,v,c,hk _ _ d⟩⟩
 |mx l=>rw[hb]at h;obtain⟨arr,h1,h2,J⟩:=h;exact⟨arr,h1,h2,λj x I=>by obtain⟨a,v,c,d⟩:=J j x I;exact⟨a,v,c,hk _ _ d⟩⟩
 |mp es=>rw[hb]at h;obtain⟨e,c,h1,h2,J⟩:=h;exact⟨e,c,h1,h2,λj x I=>by obtain⟨m,a,b⟩:=J j x I;exact⟨m,a,hk _ _ b⟩⟩
 |it s p=>rw[hb]at h;exact h
theorem vV.mono {φ φ':PM} {O O':Nat->Prop} {w w':World} (hk:∀x v,cW φ O w x v->cW φ' O' w' x v) {c:BC} {arr:Array Value} (h:vV φ O w c arr):vV φ' O' w' c arr:=
 ⟨h.1,λj x I=>by obtain⟨a,v,c,d⟩:=h.2 j x I;exact⟨a,v,c,hk _ _ d⟩⟩
def vk (l:ζ):FV:=.raw (.string ⟨l.toArray⟩)
def Dd:List FV:=[vk [118,97,114],vk [118,111,108,97,116,105,108,101],vk [109,117,116,101,120],vk [114,119,108,111,99,107],vk [99,111,110,100],vk [102,117,116,117,114,101],vk [116,104,114,101,97,100],vk [105,102],vk [101,108,115,101],vk [119,104,105,108,101],vk [108,111,99,107],vk [114,101,97,100],vk [119,114,105,116,101],vk [116,114,97,110,115,97,99,116,105,111,110],vk [97,116,111,109,105,99],vk [119,97,105,116],vk [110,111,116,105,102,121],vk [110,111,116,105,102,121,97,108,108],vk [115,112,97,119,110],vk [106,111,105,110],vk [115,101,116],vk [103,101,116]]
def G (g:Nat):Option (List FV):=if g==0 then af Dd else ah
structure rq (φ:PM) (E:Nat->Prop) (h:HF) (w:World):Prop where
 inj:∀i j b b' k,h i=af b->h j=af b'->φ i=af k->φ j=af k->i=j
 at_:∀i b,h i=af b->∃k,φ i=af k/\¬E k/\Yv φ (tot E φ h) w k b
 el:∀k,E k->k<w.heap.size
 gl:∀g cells,G g=af cells->nF (tot E φ h) w (.ptr cells 0) (.pointer (af ⟨g,0,ah⟩))
structure jg (φ φ':PM) (h h':HF) (w w':World):Prop where
 sub:∀i k,φ i=af k->φ' i=af k
 ext:LA (own φ h) w w'
 own_:∀k,k<w.heap.size->own φ' h' k->own φ h k
theorem jg.refl (φ:PM) (h:HF) (w:World):jg φ φ h h w w:=⟨λ_ _ h=>h,LA.refl _ _,λ_ _ h=>h⟩
theorem jg.trans {φ φ' φ'':PM} {h h' h'':HF} {w w' w'':World} (m:jg φ φ' h h' w w') (n:jg φ' φ'' h' h'' w' w''):jg φ φ'' h h'' w w'' where
 sub:=λi k e=>n.sub i k (m.sub i k e)
 ext:=⟨n.ext.os.trans m.ext.os,n.ext.tape.trans m.ext.tape,n.ext.output.trans m.ext.output,dg m.ext.size n.ext.size,
  λk hk I=>(n.ext.blk k (dE hk m.ext.size) (λh=>I (m.own_ k hk h))).trans (m.ext.blk k hk I),
  λk hk=>(n.ext.shp k (dE hk m.ext.size)).trans (m.ext.shp k hk)⟩
 own_:=λk hk h=>m.own_ k hk (n.own_ k (dE hk m.ext.size) h)
theorem LA.mono {O O':Nat->Prop} {w w':World} (h:LA O w w') (I:∀k,O k->O' k):LA O' w w':=
 ⟨h.os,h.tape,h.output,h.size,λk hk hO=>h.blk k hk (λx=>hO (I k x)),h.shp⟩
theorem jg.keep {φ φ':PM} {h h':HF} {w w':World} (m:jg φ φ' h h' w w') {E:Nat->Prop} {x:AV} {v:Value} (r:cW φ (tot E φ h) w x v):cW φ' (tot E φ' h') w' x v:=
 r.ext m.sub (m.ext.mono λ_ h=>.inr h) λk hk I=>I.elim .inl λo=>.inr (m.own_ k hk o)
theorem jg.keepF {φ φ':PM} {h h':HF} {w w':World} (m:jg φ φ' h h' w w') {E:Nat->Prop} {x:FV} {v:Value} (r:nF (tot E φ h) w x v):nF (tot E φ' h') w' x v:=
 r.ext (m.ext.mono λ_ h=>.inr h) λk hk I=>I.elim .inl λo=>.inr (m.own_ k hk o)
abbrev EF:=Nat->Option AV
def Od (φ:PM) (O:Nat->Prop) (w:World) (e:EF) (a:Act):Prop:=∀t x,e t=af x->cW φ O w x (a.tmps.getD t undef)
def C4 (e:EF) (dst:Option Nat) (x:AV):EF:=λt=>if dst=af t then af x else e t
def eZ (h:HF) (wr:ι) (nw:HF):HF:=λi=>if i∈wr then nw i else h i
structure BO where
 val:AV
 rd:ι
 wr:ι
 nw:HF
 N:ι
def gQ (P:Program) (o:Oper) (e:EF) (h:HF) (f:BO):Prop:=
 ∀(φ:PM) (E:Nat->Prop) (h':HF) (w:World) (a:Act),(∀i∈f.rd,h' i=h i)->(∀i∈f.wr,h' i=h i)->
  (∀t,.tmp t∈o.op.operands->∀y,e t=af y->cW φ (tot E φ h') w y (a.tmps.getD t undef))->rq φ E h' w->(∀n∈f.N,φ n=ah)->
  o.wp P a w (λa' w'=>∃v φ',a'=a.put o.dst v/\jg φ φ' h' (eZ h' f.wr f.nw) w w'/\(∀i k,φ' i=af k->φ i=af k\/i∈f.N)/\
   rq φ' E (eZ h' f.wr f.nw) w'/\cW φ' (tot E φ' (eZ h' f.wr f.nw)) w' f.val v) (λ_ _ _=>False)
def r9:BO:=⟨.f (.raw undef),[],[],λ_=>ah,[]⟩
inductive Lo (P:Program) (ops:Array Oper) (o:Oper) (f:BO) (e:EF) (h:HF):Prop
 |run (hg:o.guard=ah) (ht:gQ P o e h f)
 |runG (j t:Nat) (want:Bool) (hg:o.guard=af (j,want)) (hj:(ops[j]?).bind (·.dst)=af t) (he:e t=af (.f (.raw (.bool want)))) (ht:gQ P o e h f)
 |skip (j t:Nat) (want:Bool) (hg:o.guard=af (j,want)) (hj:(ops[j]?).bind (·.dst)=af t) (v:Value) (he:e t=af (.f (.raw v))) (hv:v≠ .bool want) (hf:f=r9)
inductive An (P:Program) (ops:Array Oper):List (Oper×BO)->EF->HF->EF->HF->Prop
 |nil (e:EF) (h:HF):An P ops [] e h e h
 |cons {o:Oper} {f:BO} {r:List (Oper×BO)} {e e':EF} {h h':HF} (hs:Lo P ops o f e h)
   (hr:An P ops r (C4 e o.dst f.val) (eZ h f.wr f.nw) e' h'):An P ops ((o,f)::r) e h e' h'
def LK (S:Nat->Bool):Nat->List (Oper×BO)->EF->EF
 |_,[],e=>e
 |k,(o,f)::r,e=>LK S (k+1) r (if S k then C4 e o.dst f.val else e)
def CG (S:Nat->Bool):Nat->List (Oper×BO)->HF->HF
 |_,[],h=>h
 |k,(_,f)::r,h=>CG S (k+1) r (if S k then eZ h f.wr f.nw else h)
theorem EE {S S':Nat->Bool} {t:Nat}:∀(l:List (Oper×BO)) (k:Nat) (e e':EF),e t=e' t->
 (∀(j:Nat) o f,l[j]? =af (o,f)->o.dst=af t->S (k+j)=S' (k+j))->LK S k l e t=LK S' k l e' t
 |[],_,_,_,he,_=>he
 |(o,f)::r,k,e,e',he,I=>by
  simp only[LK];refine EE r (k+1) _ _ ?_ (λj o f hj hd=>by have:=I (j+1) o f (by simpa using hj) hd;rwa [show k+(j+1)=k+1+j from by omega]at this);by_cases hd:o.dst=af t
  .rw[show S k=S' k from by simpa using I 0 o f rfl hd];split
   .simp[C4,hd]
   .exact he
  .split<;>split<;>simp[C4,hd,he]
theorem ED {S S':Nat->Bool} {t:Nat}:∀(l:List (Oper×BO)) (k:Nat) (e e':HF),e t=e' t->
 (∀(j:Nat) o f,l[j]? =af (o,f)->t∈f.wr->S (k+j)=S' (k+j))->CG S k l e t=CG S' k l e' t
 |[],_,_,_,he,_=>he
 |(o,f)::r,k,e,e',he,I=>by
  simp only[CG];refine ED r (k+1) _ _ ?_ (λj o f hj hd=>by have:=I (j+1) o f (by simpa using hj) hd;rwa [show k+(j+1)=k+1+j from by omega]at this);by_cases hd:t∈f.wr
  .rw[show S k=S' k from by simpa using I 0 o f rfl hd];split
   .simp[eZ,hd]
   .exact he
  .split<;>split<;>simp[eZ,hd,he]
theorem CS {S:Nat->Bool} {t:Nat}:∀(l:List (Oper×BO)) (k:Nat) (e:EF),(∀(j:Nat) o f,l[j]? =af (o,f)->o.dst=af t->S (k+j)=aj)->LK S k l e t=e t
 |[],_,_,_=>rfl
 |(o,f)::r,k,e,I=>by
  simp only[LK];rw[CS r (k+1) _ (λj o f hj hd=>by have:=I (j+1) o f (by simpa using hj) hd;rwa [show k+(j+1)=k+1+j from by omega]at this)];split
  .rename_i h;unfold C4;rw[ay];intro hd;have:=I 0 o f rfl hd;simp_all
  .rfl
theorem CR {S:Nat->Bool} {t:Nat}:∀(l:List (Oper×BO)) (k:Nat) (e:HF),(∀(j:Nat) o f,l[j]? =af (o,f)->t∈f.wr->S (k+j)=aj)->CG S k l e t=e t
 |[],_,_,_=>rfl
 |(o,f)::r,k,e,I=>by
  simp only[CG];rw[CR r (k+1) _ (λj o f hj hd=>by have:=I (j+1) o f (by simpa using hj) hd;rwa [show k+(j+1)=k+1+j from by omega]at this)];split
  .rename_i h;unfold eZ;rw[ay];intro hd;have:=I 0 o f rfl hd;simp_all
  .rfl
theorem QY {S:Nat->Bool} {t:Nat}:∀(l:List (Oper×BO)) (k i:Nat) (e:EF) (o:Oper) (f:BO),l[i]? =af (o,f)->o.dst=af t->S (k+i)=ai->
 (∀(j:Nat) o' f',i<j->l[j]? =af (o',f')->o'.dst=af t->S (k+j)=aj)->LK S k l e t=af f.val
 |[],_,_,_,_,_,h,_,_,_=>by simp at h
 |(o',f')::r,k,0,e,o,f,h,hd,I,hl=>by
  simp only[re,ak,aE]at h;obtain⟨rfl,rfl⟩:=h;simp only[LK];rw[CS r (k+1) _ (λj o f hj hd=>by have:=hl (j+1) o f (by omega) (by simpa using hj) hd;rwa [show k+(j+1)=k+1+j from by omega]at this)];simp at I;simp[I,C4,hd]
 |(o',f')::r,k,i+1,e,o,f,h,hd,I,hl=>by
  simp only[LK];exact QY r (k+1) i _ o f (by simpa using h) hd (by rwa [show k+1+i=k+(i+1) from by omega])
   (λj o f hij hj hd=>by have:=hl (j+1) o f (by omega) (by simpa using hj) hd;rwa [show k+(j+1)=k+1+j from by omega]at this)
theorem QX {S:Nat->Bool} {t:Nat}:∀(l:List (Oper×BO)) (k i:Nat) (e:HF) (o:Oper) (f:BO),l[i]? =af (o,f)->t∈f.wr->S (k+i)=ai->
 (∀(j:Nat) o' f',i<j->l[j]? =af (o',f')->t∈f'.wr->S (k+j)=aj)->CG S k l e t=f.nw t
 |[],_,_,_,_,_,h,_,_,_=>by simp at h
 |(o',f')::r,k,0,e,o,f,h,hd,I,hl=>by
  simp only[re,ak,aE]at h;obtain⟨rfl,rfl⟩:=h;simp only[CG];rw[CR r (k+1) _ (λj o f hj hd=>by have:=hl (j+1) o f (by omega) (by simpa using hj) hd;rwa [show k+(j+1)=k+1+j from by omega]at this)];simp at I;simp[I,eZ,hd]
 |(o',f')::r,k,i+1,e,o,f,h,hd,I,hl=>by
  simp only[CG];exact QX r (k+1) i _ o f (by simpa using h) hd (by rwa [show k+1+i=k+(i+1) from by omega])
   (λj o f hij hj hd=>by have:=hl (j+1) o f (by omega) (by simpa using hj) hd;rwa [show k+(j+1)=k+1+j from by omega]at this)
theorem An.step {P:Program} {ops:Array Oper}:∀{l:List (Oper×BO)} {e e':EF} {h h':HF} (_:An P ops l e h e' h') (k i:Nat) (o:Oper) (f:BO),l[i]? =af (o,f)->
 Lo P ops o f (LK (λj=>decide (j<k+i)) k l e) (CG (λj=>decide (j<k+i)) k l h):=by
 intro l e e' h h' hc;induction hc with
 |nil=>intro k i o f hi;simp at hi
 |@cons o1 I r e e' h h' hs hr J=>
  intro k i o f hi;cases i with
  |zero=>
   simp only[re,ak,aE]at hi;obtain⟨rfl,rfl⟩:=hi;have e1:LK (λj=>decide (j<k+0)) k ((o1,I)::r) e=e:=by
    funext t;rw[CS];intro j o f _ _;simp
   have e2:CG (λj=>decide (j<k+0)) k ((o1,I)::r) h=h:=by
    funext t;rw[CR];intro j o f _ _;simp
   rw[e1,e2];exact hs
  |succ i=>
   have:=J (k+1) i o f (by simpa using hi);simp only[LK,CG];rw[show k+(i+1)=k+1+i from by omega];simpa[show k<k+1+i from by omega] using this
theorem An.final {P:Program} {ops:Array Oper}:∀{l:List (Oper×BO)} {e e':EF} {h h':HF} (_:An P ops l e h e' h') (k:Nat) (S:Nat->Bool),(∀j,j<l.length->S (k+j)=ai)->
 LK S k l e=e'/\CG S k l h=h':=by
 intro l e e' h h' hc;induction hc with
 |nil=>intro k S _;exact⟨rfl,rfl⟩
 |@cons o1 M r e e' h h' hs hr J=>
  intro k S I;have h0:S k=ai:=by simpa using I 0 (by simp)
  simp only[LK,CG,h0,bG];exact J (k+1) S (λj hj=>by have:=I (j+1) (by simpa using hj);rwa [show k+(j+1)=k+1+j from by omega]at this)
theorem QN {P:Program} {o:Oper} {a:Act} {w:World} {K K':Act->World->Prop} {Q:Exit->Act->World->Prop} (h:∀a w,K a w->K' a w)
 (hh:o.wp P a w K (λ_ _ _=>False)):o.wp P a w K' Q:=by
 unfold H7 at*
 generalize (execOp a.eval o).run P w=r at*
 cases r with
 |ok n w'=>
  cases n<;>simp only[Oper.upon]at hh ⊢<;>
   first
    |exact h _ _ hh
    |exact Calls.mono hh (λe w'' he=>by
      cases e with
      |returned v=>exact h _ _ he
      |panicked c=>exact he.elim
      |outgrown=>obtain⟨_,_,h⟩:=he;exact h.elim)
    |exact Rows.mono hh (λ_ _ he=>h _ _ he)
 |halt x w'=>cases x<;>simp only[Oper.upon]at hh ⊢<;>first|exact hh.elim|exact hh
inductive Bef (ops:Array Oper):Nat->Nat->Prop
 |one {j:Nat} {o:Oper} {e:Edge} (h:ops[j]? =af o) (he:e∈o.after) (hb:Ao .any e=ai):Bef ops j e.on
 |more {j i:Nat} {o:Oper} {e:Edge} (h:ops[j]? =af o) (he:e∈o.after) (hb:Ao .any e=ai) (hi:Bef ops e.on i):Bef ops j i
structure NIP (ops:Array Oper) (l:List (Oper×BO)):Prop where
 edge:∀(j:Nat) o,ops[j]? =af o->∀e∈o.after,Ao .any e=ai->e.on<j
 pair:∀(i j:Nat) oi fi oj fj,i<j->l[i]? =af (oi,fi)->l[j]? =af (oj,fj)->Bef ops j i\/
  (oi.apart ops oj=ai/\(∀x∈fi.wr,x∉fj.rd/\x∉fj.wr)/\(∀x∈fj.wr,x∉fi.rd))
 names:∀(i j:Nat) oi fi oj fj,i<j->l[i]? =af (oi,fi)->l[j]? =af (oj,fj)->∀n∈fi.N,n∉fj.N
def FZ (ops:Array Oper) (listed:Array Bool):Prop:=∀(j:Nat) o,ops[j]? =af o->listed.getD j aj=ai->∀e∈o.after,Ao .any e=ai->listed.getD e.on aj=ai
theorem FZ.bef {ops:Array Oper} {listed:Array Bool} (hc:FZ ops listed) {j i:Nat} (h:Bef ops j i):listed.getD j aj=ai->listed.getD i aj=ai:=by
 induction h with
 |one h he hb=>intro hj;exact hc _ _ h hj _ he hb
 |more h he hb hi I=>intro hj;exact I (hc _ _ h hj _ he hb)
theorem YE {ops:Array Oper} {listed:Array Bool} (hc:FZ ops listed) {j i:Nat} {o:Oper} (I:ops[j]? =af o) (hr:∀e∈o.after,Ao .any e=ai->listed.getD e.on aj=ai) (h:Bef ops j i):listed.getD i aj=ai:=by
 cases h with
 |one h he hb=>rw[h]at I;cases I;exact hr _ he hb
 |more h he hb hi=>rw[h]at I;cases I;exact hc.bef hi (hr _ he hb)
theorem s8 {listed:Array Bool} {j:Nat} (h:listed.getD j ai=aj):listed.getD j aj=aj/\j<listed.size:=by
 rcases cf j listed.size with h1|h1
 .simp[h1]at h ⊢;exact h
 .simp[Array.getElem?_eq_none h1]at h
def StP (φ0:PM) (E:Nat->Prop) (e0:EF) (h0:HF) (w0:World) (a0:Act) (l:List (Oper×BO)) (S:Nat->Bool) (a:Act) (w:World):Prop:=
 ∃φ,jg φ0 φ h0 (CG S 0 l h0) w0 w/\(∀i k,φ i=af k->φ0 i=af k\/∃(j:Nat) (o:Oper) (f:BO),S j=ai/\l[j]? =af (o,f)/\i∈f.N)/\
  rq φ E (CG S 0 l h0) w/\Od φ (tot E φ (CG S 0 l h0)) w (LK S 0 l e0) a/\a.defers=a0.defers/\a.tmps.size=a0.tmps.size
theorem IW {a:Act} {dst:Option Tmp} {v:Value} {t:Nat} (hd:∀d,dst=af d->d<a.tmps.size):(a.put dst v).tmps.getD t undef=if dst=af t then v else a.tmps.getD t undef:=by
 cases dst with
 |none=>simp[Om]
 |some d=>
  by_cases h:d=t
  .subst h;simp[Om,hd d rfl]
  .simp[Om,h,qg h]
theorem Rf {a:Act} {dst:Option Tmp} {v:Value}:(a.put dst v).tmps.size=a.tmps.size:=by cases dst<;>simp[Om]
theorem IX {a:Act} {dst:Option Tmp} {v:Value}:(a.put dst v).defers=a.defers:=by cases dst<;>rfl
theorem abn {P:Program} {ops:Array Oper} {l:List (Oper×BO)} {e0 e':EF} {h0 h':HF} {φ0:PM} {E:Nat->Prop} {w0:World} {a0:Act}
 (hl:l.map (·.1)=ops.toList) (hc:An P ops l e0 h0 e' h') (ni:NIP ops l) (hfr:∀(j:Nat) o f,l[j]? =af (o,f)->∀n∈f.N,φ0 n=ah)
 (hsz:∀(j:Nat) o,ops[j]? =af o->∀d,o.dst=af d->d<a0.tmps.size) {listed:Array Bool} (hcl:FZ ops listed) {i:Nat} (hi:i∈H6 .any ops listed) {Q:Exit->Act->World->Prop} {K:Act->World->Prop}
 (hK:∀a w,StP φ0 E e0 h0 w0 a0 l (λj=>(listed.setIfInBounds i ai).getD j aj) a w->K a w) {a:Act} {w:World} (hst:StP φ0 E e0 h0 w0 a0 l (λj=>listed.getD j aj) a w):
 wpOp P ops Q i K a w:=by
 obtain⟨hun,o,ho,hdeps⟩:=mem_ready.1 hi;obtain⟨hnf,hlt⟩:=s8 hun;have hln:∀(j:Nat) o',ops[j]? =af o'->∃f,l[j]? =af (o',f):=λj o' h=>by
  have h1:(l.map (·.1))[j]? =af o':=by rw[hl];simpa using h
  rw[bc]at h1;cases hj:l[j]? with
  |none=>rw[hj]at h1;cases h1
  |some p=>rw[hj]at h1;obtain⟨a,b⟩:=p;simp at h1;subst h1;exact⟨b,rfl⟩
 have hnl:∀(j:Nat) o' f,l[j]? =af (o',f)->ops[j]? =af o':=λj o' f h=>by
  have h1:(l.map (·.1))[j]? =af o':=by rw[bc,h];rfl
  rw[hl]at h1;simpa using h1
 obtain⟨f,hf⟩:=hln i o ho;have hord:∀(j:Nat) oj fj,j≠i->l[j]? =af (oj,fj)->(listed.getD j aj=decide (j<i))\/
  (o.apart ops oj=ai\/oj.apart ops o=ai)/\(∀x∈f.wr,x∉fj.rd/\x∉fj.wr)/\(∀x∈fj.wr,x∉f.rd/\x∉f.wr):=by
  intro j oj fj hji hj;rcases cf j i with h|h
  .rcases ni.pair j i oj fj o f h hj hf with hb|⟨h1,h2,h3⟩
   .left;rw[YE hcl ho hdeps hb];simp[h]
   .right;exact⟨.inr h1,λx I=>⟨h3 x I,λU=>(h2 x U).2 I⟩,λx I=>h2 x I⟩
  .have h:i<j:=by omega
   rcases ni.pair i j o f oj fj h hf hj with hb|⟨h1,h2,h3⟩
   .left;have:listed.getD j aj=aj:=by
     cases I:listed.getD j aj with
     |false=>rfl
     |true=>have:=hcl.bef hb I;rw[hnf]at this;cases this
    rw[this];simp;omega
   .right;exact⟨.inl h1,λx I=>h2 x I,λx I=>⟨h3 x I,λU=>(h2 x U).2 I⟩⟩
 have J:∀j,(listed.setIfInBounds i ai).getD j aj=if j=i then ai else listed.getD j aj:=λj=>by
  by_cases h:i=j
  .subst h;simp[hlt]
  .rw[getD_set_ne aj h,ay (λe=>h e.symm)]
 have hlater:∀(j:Nat) oj fj,i<j->l[j]? =af (oj,fj)->(listed.getD j aj=aj)\/((o.apart ops oj=ai\/oj.apart ops o=ai)/\(∀x∈f.wr,x∉fj.rd/\x∉fj.wr)):=by
  intro j oj fj hij hj;rcases hord j oj fj (by omega) hj with h|⟨h1,h2,_⟩
  .left;rw[h];simp;omega
  .right;exact⟨h1,h2⟩
 have hdd:∀{x y:Oper},(x.apart ops y=ai\/y.apart ops x=ai)->∀d,x.dst=af d->y.dst≠af d:=by
  intro x y h d hd he;rcases h with h|h
  .exact (Oper.apart_spec h).2.1 d hd he
  .exact (Oper.apart_spec h).2.1 d he hd
 have hlook:∀{x y:Oper},(x.apart ops y=ai\/y.apart ops x=ai)->∀d,y.dst=af d->d∉x.looksAt ops:=by
  intro x y h d hd;rcases h with h|h
  .exact (Oper.apart_spec h).2.2 d hd
  .exact (Oper.apart_spec h).1 d hd
 have heL:∀t,t∈o.looksAt ops->LK (λj=>listed.getD j aj) 0 l e0 t=LK (λj=>decide (j<0+i)) 0 l e0 t:=λt ht=>by
  refine EE l 0 e0 e0 rfl λj oj fj hj hd=>?_
  simp only[bQ];by_cases hji:j=i
  .subst hji;rw[hnf];simp
  .rcases hord j oj fj hji hj with h|⟨h,_⟩
   .exact h
   .exact cY ht (hlook h t hd)
 have hhL:∀t,t∈f.rd\/t∈f.wr->CG (λj=>listed.getD j aj) 0 l h0 t=CG (λj=>decide (j<0+i)) 0 l h0 t:=λt ht=>by
  refine ED l 0 h0 h0 rfl λj oj fj hj hd=>?_
  simp only[bQ];by_cases hji:j=i
  .subst hji;rw[hnf];simp
  .rcases hord j oj fj hji hj with h|⟨_,_,h⟩
   .exact h
   .rcases ht with ht|ht
    .exact cY ht (h t hd).1
    .exact cY ht (h t hd).2
 have hE':∀t,LK (λj=>(listed.setIfInBounds i ai).getD j aj) 0 l e0 t=if o.dst=af t then af f.val else LK (λj=>listed.getD j aj) 0 l e0 t:=λt=>by
  by_cases hd:o.dst=af t
  .rw[aD hd];refine QY l 0 i e0 o f hf hd (by simp[J]) λj o' f' hij hj M=>?_
   simp only[bQ,J,ay (show ¬j=i by omega)];rcases hlater j o' f' hij hj with h|⟨h,_⟩
   .exact h
   .exact cY M (hdd h t hd)
  .rw[ay hd];refine EE l 0 e0 e0 rfl λj oj fj hj M=>?_
   simp only[bQ,J];rw[ay];intro hji;subst hji;rw[hf]at hj;cases hj;exact hd M
 have Y:CG (λj=>(listed.setIfInBounds i ai).getD j aj) 0 l h0=eZ (CG (λj=>listed.getD j aj) 0 l h0) f.wr f.nw:=by
  funext t;unfold eZ;by_cases hd:t∈f.wr
  .rw[aD hd];refine QX l 0 i h0 o f hf hd (by simp[J]) λj o' f' hij hj M=>?_
   simp only[bQ,J,ay (show ¬j=i by omega)];rcases hlater j o' f' hij hj with h|⟨_,h⟩
   .exact h
   .exact cY M (h t hd).2
  .rw[ay hd];refine ED l 0 h0 h0 rfl λj oj fj hj M=>?_
   simp only[bQ,J];rw[ay];intro hji;subst hji;rw[hf]at hj;cases hj;exact hd M
 obtain⟨φ,hm,hdom,hrep,henv,hdef,hsize⟩:=hst;have hfrN:∀n∈f.N,φ n=ah:=λn hn=>by
  cases I:φ n with
  |none=>rfl
  |some k=>
   rcases hdom n k I with h|⟨j,oj,fj,hSj,hj,hnj⟩
   .rw[hfr i o f hf n hn]at h;cases h
   .have hji:j≠i:=by intro h;subst h;exact cY hSj (by simp only[hnf];simp)
    rcases cf j i with h|h
    .exact cY hn (ni.names j i oj fj o f h hj hf n hnj)
    .exact cY hnj (ni.names i j o f oj fj (by omega) hf hj n hn)
 have hdsz:∀d,o.dst=af d->d<a.tmps.size:=λd hd=>by rw[hsize];exact hsz i o ho d hd
 have main:∀(v:Value) (φ':PM) (w':World),jg φ φ' (CG (λj=>listed.getD j aj) 0 l h0) (eZ (CG (λj=>listed.getD j aj) 0 l h0) f.wr f.nw) w w'->
  (∀i k,φ' i=af k->φ i=af k\/i∈f.N)->rq φ' E (eZ (CG (λj=>listed.getD j aj) 0 l h0) f.wr f.nw) w'->
  cW φ' (tot E φ' (eZ (CG (λj=>listed.getD j aj) 0 l h0) f.wr f.nw)) w' f.val v->K (a.put o.dst v) w':=by
  intro v φ' w' m1 d1 r1 v1;refine hK _ _ ⟨φ',?_,?_,?_,?_,?_,?_⟩
  .rw[Y];exact hm.trans m1
  .intro i' k h;rcases d1 i' k h with h|h
   .rcases hdom i' k h with h|⟨j,oj,fj,hSj,hj,hnj⟩
    .exact .inl h
    .refine .inr ⟨j,oj,fj,?_,hj,hnj⟩;show (listed.setIfInBounds i ai).getD j aj=ai;rw[J j];split
     .rfl
     .exact hSj
   .exact .inr ⟨i,o,f,(J i).trans (by simp),hf,h⟩
  .rw[Y];exact r1
  .rw[Y];intro t x I;rw[hE' t]at I;rw[IW hdsz];by_cases hd:o.dst=af t
   .rw[aD hd]at I ⊢;cases I;exact v1
   .rw[ay hd]at I ⊢;exact m1.keep (henv t x I)
  .rw[IX];exact hdef
  .rw[Rf];exact hsize
 have hstep:=hc.step 0 i o f hf;have hrun:gQ P o (LK (λj=>decide (j<0+i)) 0 l e0) (CG (λj=>decide (j<0+i)) 0 l h0) f->o.wp P a w K Q:=by
  intro ht;refine QN ?_ (ht φ E (CG (λj=>listed.getD j aj) 0 l h0) w a (λt h=>hhL t (.inl h)) (λt h=>hhL t (.inr h)) ?_ hrep hfrN)
  .rintro a' w' ⟨v,φ',rfl,m1,d1,r1,v1⟩;exact main v φ' w' m1 d1 r1 v1
  .intro t ht' y hy;refine henv t y ?_;rw[heL t (lx _ (List.mem_filterMap.2 ⟨.tmp t,by simpa using ht',rfl⟩))];exact hy
 have hyield:∀(j t:Nat) (want b:Bool),o.guard=af (j,want)->(ops[j]?).bind (·.dst)=af t->LK (λj=>decide (j<0+i)) 0 l e0 t=af (.f (.raw (.bool b)))->iO o (yielded ops a.tmps)=(b==want):=by
  intro j t want b hg hj he;rw[<- heL t (nN _ (by rw[hg];simp[hj]))]at he;have h1:=henv t _ he;have h2:a.tmps.getD t undef= .bool b:=by
   generalize Z:a.tmps.getD t undef=z at h1;cases h1 with
   |f h=>cases h;rfl
  have h3:a.tmps[t]? =af (.bool b):=by
   rw[gI]at h2;cases Z:a.tmps[t]? with
   |none=>rw[Z]at h2;simp[undef]at h2
   |some z=>rw[Z]at h2;simp at h2;rw[h2]
  unfold iO yielded;rw[hg];simp[hj,h3]
 unfold wpOp;simp only[ho];cases hstep with
 |run hg ht=>
  rw[aD (by unfold iO;rw[hg])];exact .inl (hrun ht)
 |runG j t want hg hj he ht=>
  rw[aD (by rw[hyield j t want want hg hj he];simp)];exact .inl (hrun ht)
 |skip j t want hg hj v he hv hf'=>
  have hnw:iO o (yielded ops a.tmps)=aj:=by
   rw[<- heL t (nN _ (by rw[hg];simp[hj]))]at he;have h1:=henv t _ he;have h2:a.tmps.getD t undef=v:=by
    generalize a.tmps.getD t undef=z at h1;cases h1 with
    |f h=>cases h;rfl
   unfold iO yielded;rw[hg];simp only[hj,aH];rw[gI]at h2;cases Z:a.tmps[t]? with
   |none=>simp
   |some z=>
    rw[Z]at h2;simp at h2;subst h2;cases z<;>simp at hv ⊢;exact hv
  rw[ay (by rw[hnw];simp)];subst hf';have hu:eZ (CG (λj=>listed.getD j aj) 0 l h0) r9.wr r9.nw=CG (λj=>listed.getD j aj) 0 l h0:=by
   funext t;simp[eZ,r9]
  refine main undef φ w ?_ (λ_ _ h=>.inl h) ?_ ?_
  .rw[hu];exact jg.refl _ _ _
  .rw[hu];exact hrep
  .exact .f (.raw _)
theorem ZA {l:θ}:∀{i:Nat},l[i]? =af aj->(l.set i ai).countP id=l.countP id+1:=by
 induction l with
 |nil=>intro i h;simp at h
 |cons b l I=>
  intro i h;cases i with
  |zero=>simp at h;subst h;simp
  |succ i=>
   simp only[List.set_cons_succ,List.countP_cons];rw[I (by simpa using h)];omega
theorem Qm {l:θ} (h:l.length<=l.countP id):∀(j:Nat),j<l.length->l[j]? =af ai:=by
 have h1:l.countP id=l.length:=Nat.le_antisymm List.countP_le_length h;rw[List.countP_eq_length]at h1;intro j hj;rw[aB hj];simpa using h1 _ (vz hj)
theorem WG {ops:Array Oper} {l:List (Oper×BO)} (J:NIP ops l) {listed:Array Bool} (hs:listed.size=ops.size) (hr:H6 .any ops listed=[]):
 ∀(n j:Nat),j<n->j<ops.size->listed.getD j aj=ai:=by
 intro n;induction n with
 |zero=>intro j h;omega
 |succ n M=>
  intro j hj hjs;cases I:listed.getD j aj with
  |true=>rfl
  |false=>
   exfalso;have hmem:j∈H6 .any ops listed:=by
    refine mem_ready.2 ⟨?_,ops[j],ik hjs,λe he hb=>?_⟩
    .have:j<listed.size:=by omega
     simp[this]at I ⊢;exact I
    .have h1:=J.edge j _ (ik hjs) e he hb;exact M e.on (by omega) (by omega)
   rw[hr]at hmem;cases hmem
theorem N9 {P:Program} {ops:Array Oper} {l:List (Oper×BO)} {e0 e':EF} {h0 h':HF} {φ0:PM} {E:Nat->Prop} {w0:World} {a0:Act}
 (hl:l.map (·.1)=ops.toList) (hc:An P ops l e0 h0 e' h') (J:NIP ops l) (hfr:∀(j:Nat) o f,l[j]? =af (o,f)->∀n∈f.N,φ0 n=ah)
 (hsz:∀(j:Nat) o,ops[j]? =af o->∀d,o.dst=af d->d<a0.tmps.size) {Q:Exit->Act->World->Prop}
 (U:∀a w,StP φ0 E e0 h0 w0 a0 l (λ_=>ai) a w->Q .normal a w):
 ∀(fuel:Nat) (listed:Array Bool) (a:Act) (w:World),listed.size=ops.size->FZ ops listed->ops.size<=fuel+listed.toList.countP id->
  StP φ0 E e0 h0 w0 a0 l (λj=>listed.getD j aj) a w->wpAny P .any ops Q fuel listed a w:=by
 have hlen:l.length=ops.size:=by have:=gM al hl;simpa using this
 have fin:∀(listed:Array Bool) (a:Act) (w:World),(∀j,j<ops.size->listed.getD j aj=ai)->StP φ0 E e0 h0 w0 a0 l (λj=>listed.getD j aj) a w->Q .normal a w:=by
  intro listed a w hall hst;refine U a w ?_;have h1:=hc.final 0 (λj=>listed.getD j aj) (λj hj=>by simp only[bQ];exact hall j (by omega));have h2:=hc.final 0 (λ_=>ai) (λ_ _=>rfl);unfold StP at hst ⊢;rw[h1.1,h1.2]at hst;rw[h2.1,h2.2];obtain⟨φ,m,d,r⟩:=hst;refine ⟨φ,m,λi k h=>?_,r⟩;rcases d i k h with h|⟨j,o,f,_,hj,hn⟩
  .exact .inl h
  .exact .inr ⟨j,o,f,rfl,hj,hn⟩
 intro fuel;induction fuel with
 |zero=>
  intro listed a w hs hcl hcnt hst;have hall:∀j,j<ops.size->listed.getD j aj=ai:=λj hj=>by
   have:=Qm (l:=listed.toList) (by simp only[iz];omega) j (by simp only[iz];omega);rw[cP]at this;rw[gI,this];rfl
  refine ⟨?_,fin listed a w hall hst⟩;cases hr:H6 .any ops listed with
  |nil=>rfl
  |cons i r=>
   have hi:i∈H6 .any ops listed:=by rw[hr];simp
   obtain⟨hun,o,I,_⟩:=mem_ready.1 hi;have hnf:=(s8 hun).1;rw[hall i (cJ.1 I).1]at hnf;cases hnf
 |succ fuel M=>
  intro listed a w hs hcl hcnt hst;refine ⟨λhr=>fin listed a w (λj hj=>WG J hs hr (j+1) j (by omega) hj) hst,λi hi=>?_⟩;obtain⟨hun,o,I,hdeps⟩:=mem_ready.1 hi;obtain⟨hnf,hlt⟩:=s8 hun;refine abn hl hc J hfr hsz hcl hi (λa' w' h=>M _ a' w' ?_ ?_ ?_ h) hst
  .simpa using hs
  .intro j oj hoj hj e he hb;by_cases hji:i=j
   .subst hji;rw[I]at hoj;cases hoj;exact getD_set_true (hdeps e he hb)
   .rw[getD_set_ne aj hji]at hj;exact getD_set_true (hcl j oj hoj hj e he hb)
  .have h1:listed.toList[i]? =af aj:=by
    rw[cP,ik hlt];simp[hlt]at hnf;rw[hnf]
   rw[Array.toList_setIfInBounds,ZA h1];omega
def aq2 (φ0:PM) (E:Nat->Prop) (e':EF) (h0 h':HF) (N:ι) (w0:World) (a0:Act) (a:Act) (w:World):Prop:=
 ∃φ,jg φ0 φ h0 h' w0 w/\(∀i k,φ i=af k->φ0 i=af k\/i∈N)/\rq φ E h' w/\Od φ (tot E φ h') w e' a/\a.defers=a0.defers/\a.tmps.size=a0.tmps.size
theorem jg.drew {φ:PM} {h:HF} (w:World):jg φ φ h h w {w with drawn:=w.drawn+1}:=
 ⟨λ_ _ h=>h,⟨rfl,rfl,rfl,bX _,λ_ _ _=>rfl,λ_ _=>rfl⟩,λ_ _ h=>h⟩
theorem rq.moved {φ:PM} {E:Nat->Prop} {h:HF} {w w':World} (r:rq φ E h w) (m:jg φ φ h h w w') (hk:∀k,own φ h k->w'.heap[k]? =w.heap[k]?):rq φ E h w':=
 ⟨r.inj,λi b hb=>by
   obtain⟨k,h1,h2,o,J,I⟩:=r.at_ i b hb;exact⟨k,h1,h2,o,by rw[hk k ⟨i,b,hb,h1⟩];exact J,I.mono λ_ _ h=>m.keep h⟩,λk hk=>dE (r.el k hk) m.ext.size,
   λg cells hg=>m.keepF (r.gl g cells hg)⟩
theorem Rc {P:Program} {ops:Array Oper} {l:List (Oper×BO)} {e0 e':EF} {h0 h':HF} {φ0:PM} {E:Nat->Prop} {w0:World} {a0:Act} {id:Nat} {draw:Bool}
 (hm:P.follows .mixedOrders=ai) (hl:l.map (·.1)=ops.toList) (hc:An P ops l e0 h0 e' h') (I:NIP ops l) (hfr:∀n∈l.flatMap (λp=>p.2.N),φ0 n=ah)
 (hsz:∀(j:Nat) o,ops[j]? =af o->∀d,o.dst=af d->d<a0.tmps.size) (hrep:rq φ0 E h0 w0) (henv:Od φ0 (tot E φ0 h0) w0 e0 a0) {Q:Exit->Act->World->Prop}
 (Y:∀a w,aq2 φ0 E e' h0 h' (l.flatMap (λp=>p.2.N)) w0 a0 a w->Q .normal a w):(Code.region id ops draw).wp P Q a0 w0:=by
 have hfr':∀(j:Nat) o f,l[j]? =af (o,f)->∀n∈f.N,φ0 n=ah:=λj o f hj n hn=>hfr n (vx.2 ⟨(o,f),ba hj,hn⟩)
 have fin:∀a w,StP φ0 E e0 h0 w0 a0 l (λ_=>ai) a w->Q .normal a w:=by
  rintro a w ⟨φ,m,d,r,en,Z,sz⟩;have h2:=hc.final 0 (λ_=>ai) (λ_ _=>rfl);rw[h2.2]at m r en;rw[h2.1]at en;refine Y a w ⟨φ,m,λi k h=>?_,r,en,Z,sz⟩;rcases d i k h with h|⟨j,o,f,_,hj,hn⟩
  .exact .inl h
  .exact .inr (vx.2 ⟨(o,f),ba hj,hn⟩)
 have st0:∀(w:World),jg φ0 φ0 h0 h0 w0 w->rq φ0 E h0 w->StP φ0 E e0 h0 w0 a0 l (λj=>(oJ ops.size aj).getD j aj) a0 w:=by
  intro w m r;have e1:(λj=>(oJ ops.size aj).getD j aj)=λ_=>aj:=by
   funext j;rw[gI,Array.getElem?_replicate];split<;>rfl
  rw[e1];have e2:LK (λ_=>aj) 0 l e0=e0:=by funext t;rw[CS];intros;rfl
  have e3:CG (λ_=>aj) 0 l h0=h0:=by funext t;rw[CR];intros;rfl
  refine ⟨φ0,by rw[e3];exact m,λ_ _ h=>.inl h,by rw[e3];exact r,?_,rfl,rfl⟩;rw[e2,e3];exact λt x U=>m.keep (henv t x U)
 have cl0:FZ ops (oJ ops.size aj):=by
  intro j o ho hj;rw[gI,Array.getElem?_replicate]at hj;split at hj<;>simp at hj
 cases draw with
 |true=>
  refine wp_region_any hm ?_;exact N9 hl hc I hfr' hsz fin ops.size _ a0 _ (by simp) cl0 (by omega) (st0 _ (jg.drew w0) (hrep.moved (jg.drew w0) λ_ _=>rfl))
 |false=>
  have hany:=N9 (E:=E) (w0:=w0) hl hc I hfr' hsz fin ops.size _ a0 w0 (by simp) cl0 (by omega) (st0 _ (jg.refl _ _ _) hrep);refine wp_region ?_;have key:∀(m k:Nat) (listed:Array Bool) (a:Act) (w:World),k+m=ops.size->listed.size=ops.size->(∀j,j<k->listed.getD j aj=ai)->(∀j,k<=j->j<ops.size->listed.getD j ai=aj)->
   wpAny P .any ops Q m listed a w->wpOps P ops Q (List.range' k m) a w:=by
   intro m;induction m with
   |zero=>intro k listed a w hk hs h1 h2 h;simpa[wpOps] using h.2
   |succ m M=>
    intro k listed a w hk hs h1 h2 h;rw[List.range'_succ,wpOps_cons];have hkr:k∈H6 .any ops listed:=by
     refine mem_ready.2 ⟨h2 k (bX _) (by omega),ops[k]'(by omega),ik (by omega),λe he hb=>?_⟩;exact h1 _ (I.edge k _ (ik (by omega)) e he hb)
    refine wpOp_mono (λa' w' h'=>M (k+1) (listed.setIfInBounds k ai) a' w' (by omega) (by simpa using hs) ?_ ?_ h') (h.2 k hkr)
    .intro j hj;by_cases hjk:k=j
     .subst hjk;simp[show k<listed.size by omega]
     .rw[getD_set_ne aj hjk];exact h1 j (by omega)
    .intro j hj J;rw[getD_set_ne ai (by omega)];exact h2 j (by omega) J
  have:=key ops.size 0 (oJ ops.size aj) a0 w0 (by omega) (by simp) (by intro j hj;omega) (by
   intro j _ hj;rw[gI,Array.getElem?_replicate,aD hj];rfl) hany
  rwa [List.range_eq_range']
inductive PT (α:Type) where
 |leaf
 |node (v:Option α) (l r:PT α)
namespace PT
variable {α:Type}
def get:PT α->Nat->Option α
 |leaf,_=>ah
 |node v l r,n=>match n with
  |0=>v
  |m+1=>if aC (m%2) 0 then get l (m/2) else get r (m/2)
def OF:Nat->PT α->Nat->Option α->PT α
 |0,t,_,_=>t
 |k+1,t,n,x=>match t with
  |leaf=>(match n with
   |0=>node x leaf leaf
   |m+1=>if aC (m%2) 0 then node ah (OF k leaf (m/2) x) leaf else node ah leaf (OF k leaf (m/2) x))
  |node v l r=>(match n with
   |0=>node x l r
   |m+1=>if aC (m%2) 0 then node v (OF k l (m/2) x) r else node v l (OF k r (m/2) x))
def set (t:PT α) (n:Nat) (x:Option α):PT α:=OF (n+1) t n x
theorem zJ:∀(k:Nat) (t:PT α) (n:Nat) (x:Option α),n<k->∀i,(OF k t n x).get i=if i=n then x else t.get i
 |0,_,_,_,h,_=>cY h (xA _)
 |k+1,t,n,x,h,i=>by
  cases n with
  |zero=>
   cases t<;>cases i<;>simp[OF,get]
  |succ m=>
   have hm:m/2<k:=by have:=Nat.div_le_self m 2;omega
   cases t with
   |leaf=>
    simp only[OF];cases hb:aC (m%2) 0 with
    |true=>
     have J:m%2=0:=aw hb;simp only[bG];cases i with
     |zero=>simp[get]
     |succ j=>
      simp only[get];cases hj:aC (j%2) 0 with
      |true=>
       have I:j%2=0:=aw hj;simp only[bG];rw[zJ k _ _ _ hm];by_cases he:j/2=m/2
       .rw[aD he,aD (by omega)]
       .rw[ay he,ay (by omega)];rfl
      |false=>
       have I:¬j%2=0:=ig hj;simp only[cE,ef];rw[ay (by omega)]
    |false=>
     have J:¬m%2=0:=ig hb;simp only[cE,ef];cases i with
     |zero=>simp[get]
     |succ j=>
      simp only[get];cases hj:aC (j%2) 0 with
      |true=>
       have I:j%2=0:=aw hj;simp only[bG];rw[ay (by omega)]
      |false=>
       have I:¬j%2=0:=ig hj;simp only[cE,ef];rw[zJ k _ _ _ hm];by_cases he:j/2=m/2
       .rw[aD he,aD (by omega)]
       .rw[ay he,ay (by omega)];rfl
   |node v l r=>
    simp only[OF];cases hb:aC (m%2) 0 with
    |true=>
     have J:m%2=0:=aw hb;simp only[bG];cases i with
     |zero=>simp[get]
     |succ j=>
      simp only[get];cases hj:aC (j%2) 0 with
      |true=>
       have I:j%2=0:=aw hj;simp only[bG];rw[zJ k _ _ _ hm];by_cases he:j/2=m/2
       .rw[aD he,aD (by omega)]
       .rw[ay he,ay (by omega)]
      |false=>
       have I:¬j%2=0:=ig hj;simp only[cE,ef];rw[ay (by omega)]
    |false=>
     have J:¬m%2=0:=ig hb;simp only[cE,ef];cases i with
     |zero=>simp[get]
     |succ j=>
      simp only[get];cases hj:aC (j%2) 0 with
      |true=>
       have I:j%2=0:=aw hj;simp only[bG];rw[ay (by omega)]
      |false=>
       have I:¬j%2=0:=ig hj;simp only[cE,ef];rw[zJ k _ _ _ hm];by_cases he:j/2=m/2
       .rw[aD he,aD (by omega)]
       .rw[ay he,ay (by omega)]
theorem get_set (t:PT α) (n:Nat) (x:Option α) (i:Nat):(t.set n x).get i=if i=n then x else t.get i:=zJ (n+1) t n x (by omega) i
def mask {β:Type}:PT α->PT β->PT α
 |leaf,_=>leaf
 |node _ _ _,leaf=>leaf
 |node v l r,node u J I=>node (match u with|some _=>v|none=>ah) (mask l J) (mask r I)
def mk:Option α->PT α->PT α->PT α
 |none,leaf,leaf=>leaf
 |v,l,r=>node v l r
def only (m:Nat):Nat->Nat->PT α->PT α
 |_,_,leaf=>leaf
 |a,b,node v l r=>mk (if aN m b then v else ah) (only m (2*a) (a+b) l) (only m (2*a) (2*a+b) r)
def exc (m:Nat):Nat->Nat->PT α->PT α
 |_,_,leaf=>leaf
 |a,b,node v l r=>mk (if aN m b then ah else v) (exc m (2*a) (a+b) l) (exc m (2*a) (2*a+b) r)
def merge (m:Nat):Nat->Nat->PT α->PT α->PT α
 |a,b,leaf,t=>only m a b t
 |a,b,node v l r,leaf=>exc m a b (node v l r)
 |a,b,node v l r,node I M J=>mk (if aN m b then I else v) (merge m (2*a) (a+b) l M) (merge m (2*a) (2*a+b) r J)
def all (p:Nat->α->Bool):Nat->Nat->PT α->Bool
 |_,_,leaf=>ai
 |a,b,node v l r=>(match v with|some x=>p b x|none=>ai)&&all p (2*a) (a+b) l&&all p (2*a) (2*a+b) r
theorem get_all (p:Nat->α->Bool):∀(t:PT α) (a b i:Nat) (x:α),all p a b t=ai->t.get i=af x->p (a*i+b) x=ai
 |leaf,_,_,_,_,_,h=>by simp[get]at h
 |node v l r,a,b,0,x,h,I=>by
  simp only[get]at I;subst I;simp only[all,av]at h;rw[Nat.mul_zero,bQ];exact h.1.1
 |node v l r,a,b,j+1,x,h,I=>by
  simp only[all,av]at h;simp only[get]at I;cases hj:aC (j%2) 0 with
  |true=>
   have J:j%2=0:=aw hj;simp only[hj,bG]at I;have key:=get_all p l _ _ _ x h.1.2 I;have:2*a*(j/2)+(a+b)=a*(j+1)+b:=by
    have e:j=2*(j/2):=by omega
    calc 2*a*(j/2)+(a+b)=a*(2*(j/2))+a+b:=by rw[H8 2 a,Nat.mul_assoc];omega
     _=a*(j+1)+b:=by rw[<- e,Nat.mul_add];omega
   rw[this]at key;exact key
  |false=>
   have J:¬j%2=0:=ig hj;simp only[hj,cE,ef]at I;have key:=get_all p r _ _ _ x h.2 I;have:2*a*(j/2)+(2*a+b)=a*(j+1)+b:=by
    have e:j=2*(j/2)+1:=by omega
    have h2:a*(j+1)=a*(2*(j/2))+2*a:=by
     calc a*(j+1)=a*(2*(j/2)+2):=by rw[show j+1=2*(j/2)+2 from by omega]
      _=a*(2*(j/2))+2*a:=by rw[Nat.mul_add];omega
    have M:2*a*(j/2)=a*(2*(j/2)):=by rw[H8 2 a,Nat.mul_assoc]
    omega
   rw[this]at key;exact key
def dom:Nat->Nat->PT α->Nat->Nat
 |_,_,leaf,acc=>acc
 |a,b,node v l r,acc=>dom (2*a) (a+b) l (dom (2*a) (2*a+b) r (match v with|some _=>acc|||(1<<<b)|none=>acc))
def emp:PT α:=leaf
end PT
abbrev Am:=PT AV
abbrev ov:=PT xu
abbrev NW:=List (Nat×xu)
def Am.put (e:Am):Option Nat->AV->Am
 |none,_=>e
 |some d,x=>e.set d (af x)
def jp:NW->HF
 |[],_=>ah
 |(s,x)::r,t=>if aC s t then af x else jp r t
theorem abe (e:Am) (d:Option Nat) (x:AV):C4 e.get d x=(e.put d x).get:=by
 funext t;cases d with
 |none=>simp[C4,Am.put]
 |some d=>
  simp only[C4,Am.put,PT.get_set,ak];by_cases h:d=t
  .simp[h]
  .rw[ay h,ay (λe=>h e.symm)]
def Iv (acc:ι) (s:Nat) (e:Edge):Nat:=if Ao .any e then (s|||2^e.on)|||acc.getD e.on 0 else s
def Ld:List Oper->ι->ι
 |[],acc=>acc
 |o::r,acc=>Ld r (acc++[o.after.toList.foldl (Iv acc) 0])
theorem Lf {ops:Array Oper} {o:Oper} {k:Nat} {acc:ι} (J:ops[k]? =af o) (M:∀(j:Nat) B,acc[j]? =af B->∀i,B.testBit i=ai->Bef ops j i):
 ∀(es:List Edge) (s:Nat),(∀e∈es,e∈o.after)->(∀i,s.testBit i=ai->Bef ops k i)->∀i,(es.foldl (Iv acc) s).testBit i=ai->Bef ops k i
 |[],s,_,hs,i,hi=>hs i hi
 |e::r,s,he,hs,i,hi=>by
  refine Lf J M r (Iv acc s e) (λe' h'=>he e' (cM _ h')) (λi hi=>?_) i hi;unfold Iv at hi;split at hi
  .rename_i hb;rw[bu,bu,i_,i_]at hi;rcases hi with (hi|hi)|hi
   .exact hs i hi
   .rw[Nat.testBit_two_pow]at hi;have:e.on=i:=by simpa using hi
    subst this;exact .one J (he e (dh ..)) hb
   .refine .more J (he e (dh ..)) hb ?_;rw[aA]at hi;cases I:acc[e.on]? with
    |none=>rw[I]at hi;simp at hi
    |some C=>rw[I]at hi;exact M _ C I i hi
  .exact hs i hi
theorem N8 {ops:Array Oper}:∀(rest:List Oper) (acc:ι),(∀(j:Nat),∀o,rest[j]? =af o->ops[acc.length+j]? =af o)->
 (∀(j:Nat) B,acc[j]? =af B->∀i,B.testBit i=ai->Bef ops j i)->∀(j:Nat) B,(Ld rest acc)[j]? =af B->∀i,B.testBit i=ai->Bef ops j i
 |[],acc,_,I=>I
 |o::r,acc,J,I=>by
  refine N8 r _ (λj o' hj=>?_) ?_
  .rw[bx,dS,show acc.length+1+j=acc.length+(j+1) from by omega];exact J (j+1) o' (by simpa using hj)
  .intro j B hj i hi;rcases cf j acc.length with h|h
   .rw[bK h]at hj;exact I j B hj i hi
   .rw[bW h]at hj;have M:j-acc.length=0:=by
     rcases LF (j-acc.length) with h0|h0
     .exact h0
     .rw[bR (by simp;omega)]at hj;cases hj
    have hjl:j=acc.length:=by omega
    subst hjl;simp at hj;subst hj;have hoo:ops[acc.length]? =af o:=by simpa using J 0 o rfl
    rw[<- Array.foldl_toList]at hi;exact Lf hoo I _ 0 (λe he=>by simpa using he) (λi hi=>by simp at hi) i hi
inductive Z5 where
 |mv (x:Operand)
 |pick (c a b:Operand)
 |alloc (ty:TypeId) (z:ξ)
 |box (ty:TypeId) (x:Operand)
 |build (z:ξ) (parts:List (Nat×Nat×Operand))
 |bsl (ty:TypeId) (sz len:Nat) (z:ξ) (parts:List (Nat×Nat×Operand))
 |load (sz:Nat) (ag:Bool) (x:Operand)
 |store (sz:Nat) (x v:Operand)
 |nilc (x:Operand)
 |bin (op:BinOp) (x y:Operand)
 |eqs (neg:Bool) (ds:List TypeDesc) (x y:Operand)
 |isnil (neg:Bool) (x:Operand)
 |eqb (neg:Bool) (x y:Operand)
 |not (x:Operand)
 |conv (k:IntKind) (x:Operand)
 |mksl (ty:TypeId) (sz bytes:Nat) (z:ξ) (l c:Operand)
 |slc (sz:Nat) (x:Operand) (lo hi mx:Option Operand)
 |fad (off:Nat) (x:Operand)
 |fld (off sz:Nat) (ag:Bool) (x:Operand)
 |iad (sz:Nat) (x i:Operand)
 |iada (n sz:Nat) (x i:Operand)
 |idx (n sz:Nat) (ag:Bool) (x i:Operand)
 |ext (x:Operand) (i:Nat)
 |len (x:Operand)
 |lens (x:Operand)
 |lenm (x:Operand)
 |max (x y:Operand)
 |min (x y:Operand)
 |sidx (x i:Operand)
 |app (ty:TypeId) (sz bytes:Nat) (s x:Operand)
 |copy (sz:Nat) (d x:Operand)
 |clr (sz:Nat) (z:ξ) (x:Operand)
 |mkf (f:FuncId) (caps:List Operand)
 |mkm
 |lku (str ok:Bool) (z:Value) (x k:Operand)
 |mup (str:Bool) (x k v:Operand)
 |rng (x:Operand)
 |nxt (x:Operand)
 |bad
inductive SI where
 |op (s:Z5)
 |call (f:FuncId) (args:List Operand)
 |callv (x:Operand) (args:List Operand)
def YN (t:Nat):ι->Bool
 |[]=>aj
 |x::r=>aC x t||YN t r
def K_:ξ->Bool
 |[]=>ai
 |v::r=>v.oneCell'&&K_ r
def FF:Value->AV
 |.agg vs=>if K_ vs.toList then .agg (vs.toList.map λv=>.f (.raw v)) else .f (.raw (.agg vs))
 |v=>.f (.raw v)
def mO (e:Am):Operand->Option AV
 |.tmp t=>e.get t
 |.const v=>af (FF v)
 |.func g=>af (.clo g [])
 |.global g=>match G g with|some cells=>af (.f (.ptr cells 0))|none=>ah
def XY (e:Am):List Operand->Option (List AV)
 |[]=>af []
 |x::xs=>match mO e x with|some y=>(match XY e xs with|some I=>af (y::I)|none=>ah)|none=>ah
structure CC where
 val:AV
 rd:ι
 wr:ι
 nw:NW
 N:ι
def CC.eff (r:CC):BO:=⟨r.val,r.rd,r.wr,jp r.nw,r.N⟩
def rv (x:AV):Option CC:=af ⟨x,[],[],[],[]⟩
def raw (v:Value):AV:=.f (.raw v)
def pkV (ok:Bool) (v:AV) (b:Bool):AV:=match ok with|true=>.tup [v,raw (.bool b)]|false=>v
def yp:List AV->Option (List FV)
 |[]=>af []
 |.f x::r=>match yp r with|some l=>af (x::l)|none=>ah
 |_::_=>ah
def pH (l:List AV):BC:=match yp l with|some fs=>.fz fs|none=>.mx l
def Nd (l:List AV):AV:=match yp l with|some fs=>.f (.agg fs)|none=>.agg l
def splice {α:Type} (l:List α) (off:Nat) (vs:List α):List α:=l.take off++vs++l.drop (off+vs.length)
def BC.toMx:BC->List AV
 |.fz l=>l.map .f
 |.mx l=>l
 |_=>[]
def gJ:List AV->Bool
 |[]=>ai
 |x::r=>x.isCell&&gJ r
def BC.put (c:BC) (off:Nat) (vs:List AV):Option BC:=
 if c.isCells&&eO (off+vs.length) c.len&&gJ vs then
  match c,yp vs with
  |.fz l,af I=>af (.fz (splice l off I))
  |c,_=>af (.mx (splice c.toMx off vs))
 else ah
def BC.sub? (c:BC) (off sz:Nat):Bool->Option AV
 |false=>match sz with|1=>c.get off|_=>ah
 |true=>match c with
  |.fz l=>if eO (off+sz) l.length then af (.f (.agg ((l.drop off).take sz))) else ah
  |.mx l=>if eO (off+sz) l.length then af (.agg ((l.drop off).take sz)) else ah
  |_=>ah
def AV.cs:AV->List AV
 |.agg l=>l
 |.f (.agg l)=>l.map .f
 |x=>[x]
def Eh (h:ov) (sz:Nat) (ag:Bool):AV->Option CC
 |.ptr id off=>match h.get id with
  |some b=>(match b.c.sub? off sz ag with|some v=>af ⟨v,[id],[],[],[]⟩|none=>ah)
  |none=>ah
 |.f (.ptr cells off)=>(match (BC.fz cells).sub? off sz ag with|some v=>rv v|none=>ah)
 |_=>ah
def Lg (h:ov) (sz:Nat) (v:AV):AV->Option CC
 |.ptr id off=>match h.get id with
  |some b=>if v.cs.length==sz then (match b.c.put off v.cs with|some c=>af ⟨raw undef,[id],[id],[(id,⟨b.ty,c⟩)],[]⟩|none=>ah) else ah
  |none=>ah
 |_=>ah
def zP (cells:List AV) (e:Am):List (Nat×Nat×Operand)->Option (List AV)
 |[]=>af cells
 |(off,sz,x)::r=>match mO e x with
  |some v=>if v.cs.length==sz&&eO (off+sz) cells.length&&gJ v.cs then zP (splice cells off v.cs) e r else ah
  |none=>ah
def c6 (a b:Int):Bool:=decide (a<=b)
def fV (a b:Int):Bool:=decide (a<b)
def MZ (k:IntKind) (n:Int):Int:=
 match k with
 |.i64=>if c6 (-9223372036854775808) n&&c6 n 9223372036854775807 then n else pa .i64 n
 |.u8=>if c6 0 n&&c6 n 255 then n else pa .u8 n
 |k=>pa k n
def nok:Int->Bool
 |.ofNat k=>aC k k
 |.negSucc k=>aC k k
theorem ana (n:Int):nok n=ai:=by cases n<;>exact r7 _
def bk (k:IntKind) (n:Int):Int:=bif nok n then MZ k n else 0
theorem H9 (k:IntKind) (n:Int):bk k n=MZ k n:=by unfold bk;rw[ana];rfl
def sr (a b:ByteArray):Bool:=a.data.toList==b.data.toList
def vn (op:BinOp):Value->Value->Option Value
 |.int k a,.int k' b=>if k==k' then
   match op with
   |.add=>af (.int k (bk k (a+b)))
   |.sub=>af (.int k (bk k (a-b)))
   |.mul=>af (.int k (bk k (a*b)))
   |.rem=>if b==0 then ah else af (.int k (a.tmod b))
   |.quo=>if b==0 then ah else af (.int k (bk k (a.tdiv b)))
   |.eql=>af (.bool (a==b))
   |.neq=>af (.bool (a !=b))
   |.lss=>af (.bool (fV a b))
   |.leq=>af (.bool (c6 a b))
   |.gtr=>af (.bool (fV b a))
   |.geq=>af (.bool (c6 b a))
   |_=>ah
  else ah
 |.string a,.string b=>match op with
   |.eql=>af (.bool (sr a b))
   |.neq=>af (.bool !(sr a b))
   |_=>ah
 |_,_=>ah
def ye:TypeDesc->FV->FV->Option Bool
 |.int _,.raw (.int k a),.raw (.int k' b)=>if k==k' then af (a==b) else ah
 |.bool,.raw (.bool a),.raw (.bool b)=>af (a==b)
 |.string,.raw (.string a),.raw (.string b)=>af (sr a b)
 |_,_,_=>ah
def pj:List TypeDesc->List FV->List FV->Option Bool
 |[],[],[]=>af ai
 |d::ds,x::xs,y::I=>match ye d x y with
  |some ai=>pj ds xs I
  |some aj=>af aj
  |none=>ah
 |_,_,_=>ah
def AV.row? (h:ov) (sz:Nat):AV->Option (List AV×Nat×ι)
 |.f (.sl cells n)=>if eO (n*sz) cells.length then af ((cells.take (n*sz)).map .f,n,[]) else ah
 |.f (.raw (.slice ah 0 0))=>af ([],0,[])
 |.emp=>af ([],0,[])
 |.row id sz' n=>if sz'==sz then (match h.get id with|some b=>if b.c.isCells&&eO (n*sz) b.c.len then af (b.c.toMx.take (n*sz),n,[id]) else ah|none=>ah) else ah
 |.sl id off n=>match h.get id with|some b=>if b.c.isCells&&eO (off+n*sz) b.c.len then af ((b.c.toMx.drop off).take (n*sz),n,[id]) else ah|none=>ah
 |_=>ah
def AV.slen:AV->Option Nat
 |.f (.sl _ n)=>af n
 |.f (.raw (.slice _ n _))=>af n
 |.emp=>af 0
 |.row _ _ n=>af n
 |.sl _ _ n=>af n
 |_=>ah
def a_ (n bytes:Nat):Bool:=eO n 1099511627776&&eO (n*bytes) 1099511627776
def repl (z:ξ):Nat->List FV
 |0=>[]
 |n+1=>z.map .raw++repl z n
def Ay:Value->Bool
 |.slice ah 0 0=>ai
 |_=>aj
def Jq:AV->Bool
 |.emp=>ai
 |.f (.raw v)=>Ay v
 |_=>aj
def tU (k:Value):List (Value×AV)->Option (Option AV)
 |[]=>af ah
 |(k',v)::r=>match vn .eql k k' with
  |some (.bool ai)=>af (af v)
  |some (.bool aj)=>tU k r
  |_=>ah
def zB (k:Value) (v:AV):List (Value×AV)->Option (List (Value×AV))
 |[]=>af [(k,v)]
 |(k',I)::r=>match vn .eql k k' with
  |some (.bool ai)=>af ((k,v)::r)
  |some (.bool aj)=>(match zB k v r with|some J=>af ((k',I)::J)|none=>ah)
  |_=>ah
def zD:Bool->Value->Bool
 |false,.int _ _=>ai
 |true,.string _=>ai
 |_,_=>aj
def eU (s:Z5) (e:Am) (h:ov) (nx:Nat):Option CC:=
 match s with
 |.mv x=>match mO e x with|some v=>rv v|none=>ah
 |.pick c a b=>match mO e c with
  |some (.f (.raw (.bool t)))=>(match mO e (if t then a else b) with|some v=>rv v|none=>ah)
  |_=>ah
 |.alloc ty z=>af ⟨.ptr nx 0,[],[nx],[(nx,⟨ty,.fz (z.map .raw)⟩)],[nx]⟩
 |.box ty x=>match mO e x with
  |some v=>if gJ v.cs then af ⟨.ptr nx 0,[],[nx],[(nx,⟨ty,pH v.cs⟩)],[nx]⟩ else ah
  |none=>ah
 |.build z parts=>match zP (z.map raw) e parts with|some cs=>rv (Nd cs)|none=>ah
 |.bsl ty sz len z parts=>match zP ((repl z len).map .f) e parts with
  |some cs=>af ⟨if len=0 then .emp else .row nx sz len,[],[nx],[(nx,⟨ty,pH cs⟩)],[nx]⟩
  |none=>ah
 |.load sz ag x=>match mO e x with|some p=>Eh h sz ag p|none=>ah
 |.store sz x v=>match mO e x,mO e v with|some p,af y=>Lg h sz y p|_,_=>ah
 |.nilc x=>match mO e x with
  |some (.ptr id off)=>rv (.ptr id off)
  |some (.f (.ptr cells off))=>rv (.f (.ptr cells off))
  |some (.clo g cap)=>rv (.clo g cap)
  |_=>ah
 |.bin op x y=>match mO e x,mO e y with
  |some (.f (.raw u)),af (.f (.raw v))=>(match vn op u v with|some r=>rv (raw r)|none=>ah)
  |_,_=>ah
 |.eqs neg ds x y=>match mO e x,mO e y with
  |some (.f (.agg a)),af (.f (.agg b))=>(match pj ds a b with|some r=>rv (raw (.bool (r !=neg)))|none=>ah)
  |_,_=>ah
 |.eqb neg x y=>match mO e x,mO e y with
  |some (.f (.raw (.bool a))),af (.f (.raw (.bool b)))=>rv (raw (.bool ((a==b) !=neg)))
  |_,_=>ah
 |.isnil neg x=>match mO e x with
  |some (.row _ _ _)=>rv (raw (.bool neg))
  |some (.sl _ _ _)=>rv (raw (.bool neg))
  |some (.f (.sl _ (_+1)))=>rv (raw (.bool neg))
  |some (.f (.sl _ 0))=>rv .anyb
  |some .emp=>rv .anyb
  |some (.f (.raw v))=>if Ay v then rv (raw (.bool !neg)) else ah
  |_=>ah
 |.not x=>match mO e x with|some (.f (.raw (.bool b)))=>rv (raw (.bool !b))|_=>ah
 |.conv k x=>match mO e x with|some (.f (.raw (.int _ n)))=>rv (raw (.int k (bk k n)))|_=>ah
 |.mksl ty sz bytes z l c=>match mO e l,mO e c with
  |some (.f (.raw (.int _ a))),af (.f (.raw (.int _ b)))=>
   if c6 0 a&&c6 a b&&a_ b.toNat bytes then af ⟨.row nx sz a.toNat,[],[nx],[(nx,⟨ty,.fz (repl z a.toNat)⟩)],[nx]⟩ else ah
  |_,_=>ah
 |.slc sz x lo hi mx=>match mO e x with
  |some v=>match lo,hi,mx with
   |none,af (.const (.int _ 0)),af (.const (.int _ 0))=>if v.slen.isSome then rv .emp else ah
   |none,af b,ah=>match v,mO e b with
    |.row id sz' n,af (.f (.raw (.int _ j)))=>if sz'==sz&&c6 0 j&&c6 j n then (match h.get id with
     |some blk=>if blk.c.isCells&&eO (n*sz) blk.c.len then af ⟨.row nx sz j.toNat,[id],[nx,id],[(nx,⟨blk.ty,pH (blk.c.toMx.take (j.toNat*sz))⟩)],[nx]⟩ else ah
     |none=>ah) else ah
    |.f (.sl cells n),af (.f (.raw (.int _ j)))=>if c6 0 j&&c6 j n&&eO (n*sz) cells.length then rv (.f (.sl (cells.take (j.toNat*sz)) j.toNat)) else ah
    |_,_=>ah
   |some b,ah,ah=>match v,mO e b with
    |.row id sz' n,af (.f (.raw (.int _ j)))=>if sz'==sz&&c6 0 j&&fV j n then rv (.sl id (j.toNat*sz) (n-j.toNat)) else ah
    |.f (.sl cells n),af (.f (.raw (.int _ j)))=>if c6 0 j&&c6 j n&&eO (n*sz) cells.length then rv (.f (.sl ((cells.drop (j.toNat*sz)).take ((n-j.toNat)*sz)) (n-j.toNat))) else ah
    |_,_=>ah
   |_,_,_=>ah
  |none=>ah
 |.fad off x=>match mO e x with
  |some (.ptr id o)=>rv (.ptr id (o+off))
  |some (.f (.ptr cells o))=>rv (.f (.ptr cells (o+off)))
  |_=>ah
 |.fld off sz ag x=>match mO e x with
  |some (.agg l)=>(match (BC.mx l).sub? off sz ag with|some v=>rv v|none=>ah)
  |some (.f (.agg l))=>(match (BC.fz l).sub? off sz ag with|some v=>rv v|none=>ah)
  |_=>ah
 |.iad sz x i=>match mO e x,mO e i with
  |some v,af (.f (.raw (.int _ j)))=>match v with
   |.row id sz' n=>if sz'==sz&&c6 0 j&&fV j n then rv (.ptr id (j.toNat*sz)) else ah
   |.sl id off n=>if c6 0 j&&fV j n then rv (.ptr id (off+j.toNat*sz)) else ah
   |.f (.sl cells n)=>if c6 0 j&&fV j n then rv (.f (.ptr cells (j.toNat*sz))) else ah
   |_=>ah
  |_,_=>ah
 |.iada n sz x i=>match mO e x,mO e i with
  |some v,af (.f (.raw (.int _ j)))=>if c6 0 j&&fV j n then (match v with
   |.ptr id off=>rv (.ptr id (off+j.toNat*sz))
   |.f (.ptr cells off)=>rv (.f (.ptr cells (off+j.toNat*sz)))
   |_=>ah) else ah
  |_,_=>ah
 |.idx n sz ag x i=>match mO e x,mO e i with
  |some v,af (.f (.raw (.int _ j)))=>if c6 0 j&&fV j n then (match v with
   |.agg l=>(match (BC.mx l).sub? (j.toNat*sz) sz ag with|some v=>rv v|none=>ah)
   |.f (.agg l)=>(match (BC.fz l).sub? (j.toNat*sz) sz ag with|some v=>rv v|none=>ah)
   |_=>ah) else ah
  |_,_=>ah
 |.ext x i=>match mO e x with|some (.tup l)=>(match l[i]? with|some v=>rv v|none=>ah)|_=>ah
 |.len x=>match mO e x with
  |some v=>(match v.slen with|some n=>rv (raw (.int .i64 n))|none=>ah)
  |none=>ah
 |.lens x=>match mO e x with
  |some (.f (.raw (.string s)))=>rv (raw (.int .i64 s.data.toList.length))
  |_=>ah
 |.lenm x=>match mO e x with
  |some (.mp id)=>(match h.get id with|some ⟨_,.mp es⟩=>af ⟨raw (.int .i64 es.length),[id],[],[],[]⟩|_=>ah)
  |_=>ah
 |.max x y=>match mO e x,mO e y with
  |some (.f (.raw (.int k a))),af (.f (.raw (.int _ b)))=>rv (raw (.int k (if fV a b then b else a)))
  |_,_=>ah
 |.min x y=>match mO e x,mO e y with
  |some (.f (.raw (.int k a))),af (.f (.raw (.int _ b)))=>rv (raw (.int k (if fV b a then b else a)))
  |_,_=>ah
 |.sidx x i=>match mO e x,mO e i with
  |some (.f (.raw (.string s))),af (.f (.raw (.int _ j)))=>if c6 0 j then (match s.data.toList[j.toNat]? with|some b=>rv (raw (.int .u8 b.toNat))|none=>ah) else ah
  |_,_=>ah
 |.app ty sz bytes s x=>match mO e s,mO e x with
  |some b,af y=>match y.row? h sz with
   |some (src,m,rd)=>match b with
    |.row id sz' n=>match h.get id with
     |some blk=>if sz'==sz&& !(YN id rd)&&blk.c.isCells&&eO (n*sz) blk.c.len&&blk.ty==ty&&a_ (n+m) bytes then
       af ⟨.row nx sz (n+m),id::rd,[nx,id],[(nx,⟨ty,pH (blk.c.toMx.take (n*sz)++src)⟩)],[nx]⟩ else ah
     |none=>ah
    |b=>if Jq b&&a_ m bytes then
      (if m==0 then af ⟨b,rd,[],[],[]⟩ else af ⟨.row nx sz m,rd,[nx],[(nx,⟨ty,pH src⟩)],[nx]⟩) else ah
   |none=>ah
  |_,_=>ah
 |.copy sz d x=>match mO e d,mO e x with
  |some (.row id sz' n),af y=>(match h.get id,y.row? h sz with
   |some blk,af (src,m,rd)=>if sz'==sz&& !(YN id rd)&&eO (n*sz) blk.c.len then
     (match blk.c.put 0 (src.take (iX m n*sz)) with
     |some c=>af ⟨raw (.int .i64 (iX m n)),id::rd,[id],[(id,⟨blk.ty,c⟩)],[]⟩
     |none=>ah) else ah
   |_,_=>ah)
  |_,_=>ah
 |.clr _ z x=>match mO e x with
  |some (.sl id off n)=>(match h.get id with
   |some blk=>if gm 0 n then (match blk.c.put off ((repl z n).map .f) with
    |some c=>af ⟨.tup [],[id],[id],[(id,⟨blk.ty,c⟩)],[]⟩
    |none=>ah) else ah
   |none=>ah)
  |_=>ah
 |.mkf f caps=>match XY e caps with|some l=>rv (.clo f l)|none=>ah
 |.mkm=>af ⟨.mp nx,[],[nx],[(nx,⟨0,.mp []⟩)],[nx]⟩
 |.lku str ok z x k=>match mO e x,mO e k with
  |some (.mp id),af (.f (.raw key))=>(match h.get id with
   |some ⟨_,.mp es⟩=>if zD str key then (match tU key es with|some (af v)=>af ⟨pkV ok v ai,[id],[],[],[]⟩|some ah=>af ⟨pkV ok (raw z) aj,[id],[],[],[]⟩|none=>ah) else ah
   |_=>ah)
  |_,_=>ah
 |.mup str x k v=>match mO e x,mO e k,mO e v with
  |some (.mp id),af (.f (.raw key)),af y=>(match h.get id with
   |some ⟨ty,.mp es⟩=>if zD str key then (match zB key y es with|some es'=>af ⟨raw undef,[id],[id],[(id,⟨ty,.mp es'⟩)],[]⟩|none=>ah) else ah
   |_=>ah)
  |_,_,_=>ah
 |.rng x=>match mO e x with
  |some (.f (.raw (.string s)))=>af ⟨.ptr nx 0,[],[nx],[(nx,⟨0,.it s 0⟩)],[nx]⟩
  |_=>ah
 |.nxt x=>match mO e x with
  |some (.ptr id 0)=>(match h.get id with
   |some ⟨ty,.it s p⟩=>(match s.data.toList[p]? with
    |some b=>if gm b.toNat 128 then af ⟨.tup [raw (.bool ai),raw (.int .i64 p),raw (.int .i32 b.toNat)],[id],[id],[(id,⟨ty,.it s (p+1)⟩)],[]⟩ else ah
    |none=>af ⟨.tup [raw (.bool aj)],[id],[id],[(id,⟨ty,.it s p⟩)],[]⟩)
   |_=>ah)
  |_=>ah
 |.bad=>ah
structure sW where
 dst:Option Nat
 op:SI
 guard:Option (Nat×Bool)
inductive SC where
 |skip
 |reg (ops:List sW) (prs:List (Nat×Nat))
 |seq (a b:SC)
 |cond (c:Nat) (a b:SC)
 |block (id:Nat) (b:SC)
 |loop (b:SC)
 |exit (id:Nat)
 |ret
 |defer (f:FuncId) (caps:List Operand) (t:Nat)
 |bad
structure aq1 where
 val:AV
 h:ov
 nx:Nat
 wr:Nat
abbrev Yu:=FuncId->List AV->ov->Nat->Option aq1
mutual
def AV.ids:AV->Nat->Nat
 |.ptr id _,acc=>acc|||(1<<<id)
 |.sl id _ _,acc=>acc|||(1<<<id)
 |.row id _ _,acc=>acc|||(1<<<id)
 |.mp id,acc=>acc|||(1<<<id)
 |.agg l,acc=>AV.idsL l acc
 |.tup l,acc=>AV.idsL l acc
 |.clo _ l,acc=>AV.idsL l acc
 |.f _,acc=>acc
 |.emp,acc=>acc
 |.anyb,acc=>acc
def AV.idsL:List AV->Nat->Nat
 |[],acc=>acc
 |x::r,acc=>AV.idsL r (AV.ids x acc)
end
mutual
def AV.all (p:Nat->Bool):AV->Bool
 |.ptr id _=>p id
 |.sl id _ _=>p id
 |.row id _ _=>p id
 |.mp id=>p id
 |.agg l=>AV.allL p l
 |.tup l=>AV.allL p l
 |.clo _ l=>AV.allL p l
 |.f _=>ai
 |.emp=>ai
 |.anyb=>ai
def AV.allL (p:Nat->Bool):List AV->Bool
 |[]=>ai
 |x::r=>AV.all p x&&AV.allL p r
end
def BC.ids:BC->Nat->Nat
 |.mx l,acc=>AV.idsL l acc
 |.mp es,acc=>AV.idsL (es.map (·.2)) acc
 |_,acc=>acc
def BC.all (p:Nat->Bool):BC->Bool
 |.mx l=>AV.allL p l
 |.mp es=>AV.allL p (es.map (·.2))
 |_=>ai
def ov.all (p:Nat->Bool) (h:ov):Bool:=PT.all (λi b=>p i&&b.c.all p) 1 0 h
def Xn:Nat->ov->Nat->Nat->Nat
 |0,_,_,LR=>LR
 |n+1,h,todo,LR=>
  if aC todo 0 then LR else
  match Nat.log2 todo with
  |id=>if aN LR id then Xn n h (todo ^^^ (1<<<id)) LR else
   match h.get id with
   |some b=>Xn n h (b.c.ids (todo ^^^ (1<<<id))) (LR|||(1<<<id))
   |none=>Xn n h (todo ^^^ (1<<<id)) LR
section force
variable {α:Type}
def s_ (n:Nat) (k:Nat->α):α:=match n with|0=>k 0|m+1=>k (m+1)
def frcI (n:Int) (k:Int->α):α:=match n with|.ofNat m=>s_ m λm=>k (.ofNat m)|.negSucc m=>s_ m λm=>k (.negSucc m)
def frcB (b:Bool) (k:Bool->α):α:=match b with|true=>k ai|false=>k aj
def frcV (v:Value) (k:Value->α):α:=match v with
 |.int kd n=>frcI n λn=>k (.int kd n)
 |.bool b=>frcB b λb=>k (.bool b)
 |v=>k v
def anj (x:FV) (k:FV->α):α:=match x with
 |.raw v=>frcV v λv=>k (.raw v)
 |.ptr cells off=>s_ off λoff=>k (.ptr cells off)
 |.sl cells n=>s_ n λn=>k (.sl cells n)
 |.agg l=>k (.agg l)
def acs:List FV->(List FV->α)->α
 |[],k=>k []
 |x::r,k=>anj x λx=>acs r λr=>k (x::r)
def ani (x:FV) (k:FV->α):α:=match x with
 |.agg l=>acs l λl=>k (.agg l)
 |x=>anj x k
def ain (x:AV) (k:AV->α):α:=match x with
 |.f x=>ani x λx=>k (.f x)
 |.ptr id off=>s_ id λid=>s_ off λoff=>k (.ptr id off)
 |.sl id off n=>s_ id λid=>s_ off λoff=>s_ n λn=>k (.sl id off n)
 |.row id sz n=>s_ id λid=>s_ sz λsz=>s_ n λn=>k (.row id sz n)
 |.mp id=>s_ id λid=>k (.mp id)
 |x=>k x
def R_:List AV->(List AV->α)->α
 |[],k=>k []
 |x::r,k=>ain x λx=>R_ r λr=>k (x::r)
def ank (x:AV) (k:AV->α):α:=match x with
 |.agg l=>R_ l λl=>k (.agg l)
 |.tup l=>R_ l λl=>k (.tup l)
 |.clo f l=>R_ l λl=>k (.clo f l)
 |x=>ain x k
def frcC (c:BC) (k:BC->α):α:=match c with
 |.fz l=>acs l λl=>k (.fz l)
 |.mx l=>R_ l λl=>k (.mx l)
 |.it s p=>s_ p λp=>k (.it s p)
 |.mp es=>k (.mp es)
def R9 {β:Type}:PT β->(PT β->α)->α
 |.leaf,k=>k .leaf
 |.node v l r,k=>(match v with
  |none=>λ(k:Option β->α)=>k ah
  |some x=>λk=>k (af x)) λv=>R9 l λl=>R9 r λr=>k (.node v l r)
def UJ {β:Type}:Nat->PT β->Nat->Option β->(PT β->α)->α
 |0,t,_,_,k=>k t
 |f+1,t,n,x,k=>match t with
  |.leaf=>(match n with
   |0=>k (.node x .leaf .leaf)
   |m+1=>if aC (m%2) 0 then s_ (m/2) λq=>UJ f .leaf q x λu=>k (.node ah u .leaf) else s_ (m/2) λq=>UJ f .leaf q x λu=>k (.node ah .leaf u))
  |.node v l r=>(match n with
   |0=>k (.node x l r)
   |m+1=>if aC (m%2) 0 then s_ (m/2) λq=>UJ f l q x λu=>k (.node v u r) else s_ (m/2) λq=>UJ f r q x λu=>k (.node v l u))
theorem Pu {β:Type}:∀(x:PT β) (k:PT β->α),R9 x k=k x
 |.leaf,_=>rfl
 |.node v l r,k=>by cases v<;>simp only[R9,Pu l,Pu r]
end force
structure IS where
 e:Am
 h:ov
 nx:Nat
 wr:Nat
structure aj8 where
 val:AV
 rd:Nat
 wr:Nat
 h:ov
 nx:Nat
def bits:ι->Nat->Nat
 |[],acc=>acc
 |x::r,acc=>bits r (acc|||(1<<<x))
def ajk {α:Type} (h:ov) (nw:NW):ι->(ov->α)->α
 |[],k=>k h
 |i::r,k=>match jp nw i with
  |none=>UJ (i+1) h i ah λh=>ajk h nw r k
  |some ⟨ty,c⟩=>frcC c λc=>UJ (i+1) h i (af ⟨ty,c⟩) λh=>ajk h nw r k
def ait (call:Yu) (f:FuncId) (args:List AV) (h:ov) (nx:Nat):Option aj8:=
 s_ (Xn 1000000 h (AV.idsL args 0) 0) λids=>R9 (PT.only ids 1 0 h) λhc=>
 if AV.allL (gm · nx) args&&ov.all (gm · nx) hc then
  match call f args hc nx with
  |some ⟨val,h',nx',wr⟩=>ank val λval=>s_ nx' λnx'=>s_ wr λwr=>R9 (PT.merge wr 1 0 h h') λhm=>af ⟨val,ids,wr,hm,nx'⟩
  |none=>ah
 else ah
def opA (call:Yu) (o:SI) (e:Am) (h:ov) (nx:Nat):Option aj8:=
 match o with
 |.call f args=>match XY e args with|some l=>ait call f l h nx|none=>ah
 |.callv x args=>match mO e x,XY e args with|some (.clo f cap),af l=>ait call f (l++cap) h nx|_,_=>ah
 |.op o=>match eU o e h nx with
  |some ⟨val,rd,wr,nw,N⟩=>ank val λval=>s_ (bits rd 0) λrd=>s_ (bits wr 0) λI=>s_ (nx+N.length) λnx'=>ajk h nw wr λh=>af ⟨val,rd,I,h,nx'⟩
  |none=>ah
def an0 (e:Am):Option (Nat×Bool)->Option Bool
 |none=>af ai
 |some (t,want)=>match e.get t with
  |some (.f (.raw (.bool b)))=>af (b==want)
  |some (.f (.raw (.tuple _)))=>af aj
  |_=>ah
def ajs {α:Type} (e:Am) (dst:Option Nat) (v:AV) (k:Am->α):α:=match dst with
 |none=>k e
 |some d=>UJ (d+1) e d (af v) k
structure FPm where
 rd:Nat
 wr:Nat
def UN (call:Yu):List sW->IS->Option (IS×List FPm)
 |[],s=>af (s,[])
 |o::r,⟨e,h,nx,wr⟩=>
  match an0 e o.guard with
  |some ai=>(match opA call o.op e h nx with
   |some ⟨val,rd,w,h',nx'⟩=>ajs e o.dst val λe'=>s_ (wr|||w) λwr'=>(match UN call r ⟨e',h',nx',wr'⟩ with
    |some (s',fs)=>af (s',⟨rd,w⟩::fs)
    |none=>ah)
   |none=>ah)
  |some aj=>ajs e o.dst (raw undef) λe'=>(match UN call r ⟨e',h,nx,wr⟩ with
   |some (s',fs)=>af (s',⟨0,0⟩::fs)
   |none=>ah)
  |none=>ah
def Ze:List FPm->Nat->Option FPm
 |[],_=>ah
 |f::_,0=>af f
 |_::r,n+1=>Ze r n
def D5 (a b:Nat):Bool:=aC (a&&&b) 0
def F9 (fs:List FPm):List (Nat×Nat)->Bool
 |[]=>ai
 |(i,j)::r=>(match Ze fs i,Ze fs j with
  |some a,af b=>D5 a.wr b.rd&&D5 a.wr b.wr&&D5 b.wr a.rd
  |_,_=>aj)&&F9 fs r
inductive Ex where
 |normal
 |exit (id:Nat)
 |ret
def aik (body:IS->Option (Ex×IS)) (e0:Am):Nat->IS->Option (Ex×IS)
 |0,_=>ah
 |n+1,s=>match body s with
  |some (.normal,⟨e,h,nx,wr⟩)=>R9 (PT.mask e e0) λe=>aik body e0 n ⟨e,h,nx,wr⟩
  |r=>r
def run (call:Yu) (inert:FuncId->Bool) (fuel:Nat):SC->IS->Option (Ex×IS)
 |.skip,s=>af (.normal,s)
 |.reg ops prs,s=>match UN call ops s with
  |some (s',fs)=>if F9 fs prs then af (.normal,s') else ah
  |none=>ah
 |.seq a b,s=>match run call inert fuel a s with
  |some (.normal,s')=>run call inert fuel b s'
  |r=>r
 |.cond c a b,s=>match s.e.get c with
  |some (.f (.raw (.bool ai)))=>run call inert fuel a s
  |some (.f (.raw (.bool aj)))=>run call inert fuel b s
  |_=>ah
 |.block id b,s=>match run call inert fuel b s with
  |some (.exit i,s')=>if aC i id then af (.normal,s') else af (.exit i,s')
  |r=>r
 |.loop b,s=>aik (run call inert fuel b) s.e fuel s
 |.exit id,s=>af (.exit id,s)
 |.ret,s=>af (.ret,s)
 |.defer f caps t,⟨e,h,nx,wr⟩=>match XY e caps with
  |some l=>if inert f then ajs e (af t) (.clo f l) λe'=>af (.normal,⟨e',h,nx,wr⟩) else ah
  |none=>ah
 |.bad,_=>ah
inductive RV where
 |tmp (t:Nat)
 |cell (a:Nat) (sz:Nat) (ag:Bool)
structure SF where
 code:SC
 res:List RV
 nt:Nat
def EA:List AV->AV
 |[x]=>x
 |l=>.tup l
def akh:Value->Value->Bool
 |.bool a,.bool b=>a==b
 |.int k a,.int k' b=>k==k'&&a==b
 |.string a,.string b=>sr a b
 |.slice ah n c,.slice ah I c'=>aC n I&&aC c c'
 |.pointer ah,.pointer ah=>ai
 |.tuple a,.tuple b=>a.isEmpty&&b.isEmpty
 |_,_=>aj
def fB (P:Program) (t:TypeId):Option Nat:=(P.info? t).map (·.size)
def FK (P:Program) (t:TypeId):Option Nat:=(P.info? t).map (·.bytes)
def tB (P:Program) (t:TypeId):Option ξ:=((P.info? t).bind (·.zero)).map (·.cells.toList)
def Ei (P:Program) (t:TypeId):Option Bool:=(P.underlying t).map λ|.struct _=>ai|.array _ _=>ai|_=>aj
def Bl (P:Program) (t:TypeId):Option TypeId:=match P.underlying t with|some (.slice e)=>af e|_=>ah
def BW (P:Program) (t:TypeId) (i:Nat):Option (Nat×Nat):=match P.underlying t with
 |some (.struct fs)=>(fs[i]?).bind λf=>(fB P f.type).map (f.offset,·)
 |some (.array _ el)=>(fB P el).map λs=>(i*s,s)
 |some (.slice el)=>(fB P el).map λs=>(i*s,s)
 |_=>ah
def xK (P:Program) (t:TypeId):List (Nat×Operand)->Option (List (Nat×Nat×Operand))
 |[]=>af []
 |(i,x)::r=>match BW P t i,xK P t r with|some (o,s),af l=>af ((o,s,x)::l)|_,_=>ah
def mL (z:ξ):Bool:=z.all λv=>v.oneCell'
def I0:TypeDesc->Bool
 |.int _=>ai
 |.bool=>ai
 |.string=>ai
 |_=>aj
def r_ (P:Program):Nat→List Field→Option (List TypeDesc)
 |_,[]=>af []
 |k,f::r=>match P.underlying f.type,r_ P (k+1) r with
  |some d,af ds=>if f.name != "_" &&f.offset==k&&I0 d then af (d::ds) else ah
  |_,_=>ah
def abi (P:Program) (t:TypeId):Option (List TypeDesc):=match P.underlying t with
 |some (.struct fs)=>if P.stoodInHeld t then ah else r_ P 0 fs.toList
 |_=>ah
def Tu (P:Program) (c:Call):Option Z5:=
 match c.callee with
 |.builtin .len=>(match c.args.toList,c.argTypes.toList with
  |[x],[t]=>(match P.underlying t with
   |some (.slice _)=>af (.len x)
   |some .string=>af (.lens x)
   |some (.map _ _)=>af (.lenm x)
   |_=>ah)
  |_,_=>ah)
 |.builtin .max=>(match c.args.toList with
  |[x,y]=>af (.max x y)
  |_=>ah)
 |.builtin .min=>(match c.args.toList with
  |[x,y]=>af (.min x y)
  |_=>ah)
 |.builtin .copy=>(match c.args.toList,c.argTypes.toList with
  |[d,x],[t,u]=>(match Bl P t,Bl P u with
   |some el,af _=>(fB P el).bind λsz=>if sz !=0 then af (.copy sz d x) else ah
   |_,_=>ah)
  |_,_=>ah)
 |.builtin .clear=>(match c.args.toList,c.argTypes.toList with
  |[x],[t]=>(Bl P t).bind λel=>(tB P el).bind λz=>(fB P el).bind λsz=>if mL z&&z.length==sz&&sz !=0 then af (.clr sz z x) else ah
  |_,_=>ah)
 |.builtin .append=>(match c.args.toList,c.argTypes.toList with
  |[s,x],[t,u]=>(match Bl P t,Bl P u with
   |some el,af _=>(fB P el).bind λsz=>(FK P el).bind λb=>(tB P el).bind λz=>if sz !=0&&z.length==sz then af (.app el sz b s x) else ah
   |_,_=>ah)
  |_,_=>ah)
 |_=>ah
def dt (P:Program):Op->Option Z5
 |.move x=>af (.mv x)
 |.assign x=>af (.mv x)
 |.pick c a b=>af (.pick c a b)
 |.alloc t=>(tB P t).bind λz=>if mL z then af (.alloc t z) else ah
 |.box t x=>af (.box t x)
 |.build t ps=>match P.underlying t with
  |some (.struct fs)=>(tB P t).bind λz=>if mL z&&(fs.toList.all λf=>(fB P f.type).isSome) then (xK P t ps.toList).map (.build z) else ah
  |some (.array _ el)=>(tB P t).bind λz=>if mL z&&(fB P el).isSome then (xK P t ps.toList).map (.build z) else ah
  |_=>ah
 |.buildSlice t n ps=>(Bl P t).bind λel=>(tB P el).bind λz=>(fB P el).bind λsz=>if mL z&&z.length==sz&&eO (n*sz) 65536&&sz !=0 then (xK P t ps.toList).map (.bsl el sz n z) else ah
 |.load t x=>(fB P t).bind λsz=>(Ei P t).map λag=>.load sz ag x
 |.store t x v=>(fB P t).map λsz=>.store sz x v
 |.nilCheck x=>af (.nilc x)
 |.binOp op t x y _=>match P.underlying t with
  |some (.int _)|some .string=>af (.bin op x y)
  |some .bool=>(match op with|.eql=>af (.eqb aj x y)|.neq=>af (.eqb ai x y)|_=>ah)
  |some (.slice _)=>(match op,y with
   |.eql,.const (.slice ah 0 0)=>af (.isnil aj x)
   |.neq,.const (.slice ah 0 0)=>af (.isnil ai x)
   |_,_=>ah)
  |some (.struct _)=>(abi P t).bind λds=>(match op with|.eql=>af (.eqs aj ds x y)|.neq=>af (.eqs ai ds x y)|_=>ah)
  |_=>ah
 |.unOp .not _ x=>af (.not x)
 |.unOp .neg t x=>match P.underlying t with|some (.int k)=>af (.bin .sub (.const (.int k 0)) x)|_=>ah
 |.convert s d x=>match P.underlying s,P.underlying d with|some (.int _),af (.int k)=>af (.conv k x)|_,_=>ah
 |.makeSlice t l c=>(Bl P t).bind λel=>(tB P el).bind λz=>(fB P el).bind λsz=>(FK P el).bind λb=>if mL z&&z.length==sz&&sz !=0 then af (.mksl el sz b z l c) else ah
 |.slice t x lo hi mx=>(Bl P t).bind λel=>(fB P el).map λsz=>.slc sz x lo hi mx
 |.fieldAddr t x k=>match P.underlying t with
  |some (.struct fs)=>(fs[k]?).bind λf=>(fB P f.type).bind λsz=>if sz !=0 then af (.fad f.offset x) else ah
  |_=>ah
 |.field t x k=>match P.underlying t with
  |some (.struct fs)=>(fs[k]?).bind λf=>(fB P f.type).bind λsz=>(Ei P f.type).map λag=>.fld f.offset sz ag x
  |_=>ah
 |.indexAddr t x i=>match P.underlying t with
  |some (.slice el)=>(fB P el).map λsz=>.iad sz x i
  |some (.array n el)=>(fB P el).map λsz=>.iada n sz x i
  |_=>ah
 |.index t x i=>match P.underlying t with
  |some (.array n el)=>(fB P el).bind λsz=>(Ei P el).map λag=>.idx n sz ag x i
  |some .string=>af (.sidx x i)
  |_=>ah
 |.extract x i=>af (.ext x i)
 |.makeFunc (.func f) first caps=>if first.isEmpty then af (.mkf f caps.toList) else ah
 |.makeMap t ah=>match P.underlying t with|some (.map _ _)=>af .mkm|_=>ah
 |.lookup t x k ok=>match P.underlying t with
  |some (.map I el)=>(match P.underlying I,(P.info? el).bind (·.zero) with
   |some (.int _),af z=>if z.oneCell' then af (.lku aj ok z x k) else ah
   |some .string,af z=>if z.oneCell' then af (.lku ai ok z x k) else ah
   |_,_=>ah)
  |_=>ah
 |.mapUpdate t m k v=>match P.underlying t with
  |some (.map I _)=>(match P.underlying I with
   |some (.int _)=>af (.mup aj m k v)
   |some .string=>af (.mup ai m k v)
   |_=>ah)
  |_=>ah
 |.range t x=>match P.underlying t with|some .string=>af (.rng x)|_=>ah
 |.next x ai=>af (.nxt x)
 |.call c=>Tu P c
 |_=>ah
def Qg:Op->Option SI
 |.call c=>(match c.callee with
  |.value (.func f)=>af (.call f c.args.toList)
  |.value (.tmp t)=>af (.callv (.tmp t) c.args.toList)
  |_=>ah)
 |_=>ah
def yV (P:Program) (op:Op):SI:=match Qg op with
 |some i=>i
 |none=>(match dt P op with|some s=>.op s|none=>.op .bad)
def Z5.still:Z5->Bool
 |.mv _|.pick _ _ _|.build _ _|.nilc _|.bin _ _ _|.eqs _ _ _ _|.isnil _ _|.eqb _ _ _|.not _|.conv _ _|.fad _ _|.fld _ _ _ _|.iad _ _ _|.iada _ _ _ _|.idx _ _ _ _ _|.ext _ _|.max _ _|.min _ _|.sidx _ _|.mkf _ _|.bad=>ai
 |_=>aj
def SI.still:SI->Bool
 |.op s=>s.still
 |_=>aj
def sq (P:Program) (ops:Array Oper):List Oper->Option (List sW)
 |[]=>af []
 |o::r=>match sq P ops r with
  |some l=>(match o.guard with
   |none=>af (⟨o.dst,yV P o.op,ah⟩::l)
   |some (j,want)=>(match (ops[j]?).bind (·.dst) with
    |some t=>af (⟨o.dst,yV P o.op,af (t,want)⟩::l)
    |none=>ah))
  |none=>ah
def M_ (ops:Array Oper) (l:List sW):Option (List (Nat×Nat)):=
 let B:=Ld ops.toList []
 if (bt ops.size).all λj=>((ops[j]?).all λoj=>oj.after.toList.all λe=> !Ao .any e||decide (e.on<j))&&
     (bt j).all λi=>aN (B.getD j 0) i||(match ops[i]?,ops[j]? with|some oi,af oj=>oi.apart ops oj|_,_=>aj)
 then af ((bt ops.size).flatMap λj=>(bt j).filterMap λi=>
  if aN (B.getD j 0) i||(match l[i]?,l[j]? with|some a,af b=>a.op.still||b.op.still|_,_=>aj) then ah else af (i,j))
 else ah
def D6 (ops:Array Oper) (I:Bool):Option (FuncId×List Operand×Nat):=match ops.toList,I with
 |[p,q],aj=>(match p.op,p.guard,p.dst,q.op,q.guard,q.dst with
  |.makeFunc (.func f) first caps,ah,af t,.defer c,ah,ah=>(match c.callee,c.args.toList with
   |.value (.tmp t'),[]=>if aC t t'&&first.isEmpty then af (f,caps.toList,t) else ah
   |_,_=>ah)
  |_,_,_,_,_,_=>ah)
 |_,_=>ah
def cA (P:Program) (nt:Nat):Code->SC
 |.skip=>.skip
 |.region _ ops I=>if ops.toList.all λo=>match o.dst with|some d=>decide (d<nt)|none=>ai then
   (match D6 ops I with
   |some (f,caps,t)=>.defer f caps t
   |none=>(match sq P ops ops.toList with
    |some l=>(match M_ ops l with|some prs=>.reg l prs|none=>.bad)
    |none=>.bad)) else .bad
 |.seq a b=>.seq (cA P nt a) (cA P nt b)
 |.cond (.tmp c) a b=>.cond c (cA P nt a) (cA P nt b)
 |.cond (.const (.bool ai)) a _=>cA P nt a
 |.cond (.const (.bool aj)) _ b=>cA P nt b
 |.block id b=>.block id (cA P nt b)
 |.loop b=>.loop (cA P nt b)
 |.exit id=>.exit id
 |.ret=>.ret
 |_=>.bad
def vS (P:Program):List ResultVar->Option (List RV)
 |[]=>af []
 |.tmp t::r=>match vS P r with|some l=>af (.tmp t::l)|none=>ah
 |.cell a t::r=>match vS P r,fB P t,Ei P t with|some l,af sz,af ag=>af (.cell a sz ag::l)|_,_,_=>ah
def Ae (P:Program) (f:FuncId):Option SF:=
 match P.funcs[f]? with
 |some fn=>if fn.name== "runtime.NumGoroutine" then ah else (match fn.body,vS P fn.results.toList with
  |some c,af r=>af ⟨cA P fn.ntmps c,r,fn.ntmps⟩
  |_,_=>ah)
 |none=>ah
inductive Xp where
 |mk (op n:Int) (name:ζ) (l:List Xp)
inductive Sx where
 |mk (op line:Int) (name arg:ζ) (index:List Xp) (expr:Xp) (body els:List Sx)
def Xp.op:Xp->Int|.mk a _ _ _=>a
def Xp.n:Xp->Int|.mk _ a _ _=>a
def Xp.name:Xp->ζ|.mk _ _ a _=>a
def Xp.l:Xp->List Xp|.mk _ _ _ a=>a
def Sx.op:Sx->Int|.mk a _ _ _ _ _ _ _=>a
def Sx.line:Sx->Int|.mk _ a _ _ _ _ _ _=>a
def Sx.name:Sx->ζ|.mk _ _ a _ _ _ _ _=>a
def Sx.arg:Sx->ζ|.mk _ _ _ a _ _ _ _=>a
def Sx.index:Sx->List Xp|.mk _ _ _ _ a _ _ _=>a
def Sx.expr:Sx->Xp|.mk _ _ _ _ _ a _ _=>a
def Sx.body:Sx->List Sx|.mk _ _ _ _ _ _ a _=>a
def Sx.els:Sx->List Sx|.mk _ _ _ _ _ _ _ a=>a
inductive Ty where
 |int (k:IntKind)
 |bool
 |str
 |sl (t:Ty)
 |st (t:Ty)
 |pr (a b:Ty)
 |un
 |ex
 |sm
 deriving DecidableEq
@[reducible] def Ty.den:Ty->Type
  |.int _=>Int
  |.bool=>Bool
  |.str=>ζ
  |.sl t=>List t.den
  |.st t=>t.den
  |.pr a b=>a.den×b.den
  |.un=>Unit
  |.ex=>Xp
  |.sm=>Sx
def Ty.size:Ty->Nat
 |.st t=>t.size
 |.pr a b=>a.size+b.size
 |.un=>0
 |.ex=>4
 |.sm=>11
 |_=>1
def Ty.zero:(t:Ty)->t.den
 |.int _=>(0:Int)
 |.bool=>aj
 |.str=>[]
 |.sl _=>[]
 |.st t=>t.zero
 |.pr a b=>(a.zero,b.zero)
 |.un=>()
 |.ex=>.mk 0 0 [] []
 |.sm=>.mk 0 0 [] [] [] (.mk 0 0 [] []) [] []
def Ty.one:Ty->Bool
 |.int _=>ai
 |.bool=>ai
 |.str=>ai
 |.sl _=>ai
 |_=>aj
def Nu:Ty:=.pr (.int .i64) (.pr (.int .i64) (.pr .str (.sl .ex)))
def M5:Ty:=.pr (.int .i64) (.pr (.int .i64) (.pr .str (.pr .str (.pr (.sl .ex) (.pr .ex (.pr (.sl .sm) (.sl .sm)))))))
def Oq (e:Xp):Nu.den:=(e.op,e.n,e.name,e.l)
def d_ (x:Nu.den):Xp:=.mk x.1 x.2.1 x.2.2.1 x.2.2.2
def Oo (e:Sx):M5.den:=(e.op,e.line,e.name,e.arg,e.index,e.expr,e.body,e.els)
def nY (x:M5.den):Sx:=.mk x.1 x.2.1 x.2.2.1 x.2.2.2.1 x.2.2.2.2.1 x.2.2.2.2.2.1 x.2.2.2.2.2.2.1 x.2.2.2.2.2.2.2
mutual
def wY:Xp->List FV
 |.mk op n name l=>[.raw (.int .i64 op),.raw (.int .i64 n),.raw (.string ⟨name.toArray⟩),.sl (J_ l) l.length]
def J_:List Xp->List FV
 |[]=>[]
 |x::r=>wY x++J_ r
end
mutual
def yK:Sx->List FV
 |.mk op line name arg index expr body els=>[.raw (.int .i64 op),.raw (.int .i64 line),.raw (.string ⟨name.toArray⟩),.raw (.string ⟨arg.toArray⟩),.sl (J_ index) index.length]++wY expr++[.sl (J9 body) body.length,.sl (J9 els) els.length]
def J9:List Sx->List FV
 |[]=>[]
 |x::r=>yK x++J9 r
end
def bS:(T:Ty)->T.den->List FV
 |.int k,n=>[.raw (.int k n)]
 |.bool,b=>[.raw (.bool b)]
 |.str,s=>[.raw (.string ⟨s.toArray⟩)]
 |.sl t,xs=>[.sl (List.flatMap (bS t) xs) (al xs)]
 |.st t,v=>bS t v
 |.pr a b,v=>bS a v.1++bS b v.2
 |.un,_=>[]
 |.ex,v=>wY v
 |.sm,v=>yK v
def gK:(T:Ty)->T.den->FV
 |.int k,n=>.raw (.int k n)
 |.bool,b=>.raw (.bool b)
 |.str,s=>.raw (.string ⟨s.toArray⟩)
 |.sl t,xs=>.sl (List.flatMap (bS t) xs) (al xs)
 |.st t,v=>.agg (bS t v)
 |.pr a b,v=>.agg (bS a v.1++bS b v.2)
 |.un,_=>.agg []
 |.ex,v=>.agg (wY v)
 |.sm,v=>.agg (yK v)
def QJ:(T:Ty)->T.den->T.den->Bool
 |.int _,a,b=>decide ((a:Int)=b)
 |.bool,a,b=>(a:Bool)==b
 |.str,a,b=>decide ((a:ζ)=b)
 |.st t,a,b=>QJ t a b
 |.pr x y,a,b=>QJ x a.1 b.1&&QJ y a.2 b.2
 |_,_,_=>ai
def xk {S:Ty} (T:Ty) (v:S.den):Option T.den:=if h:S=T then af (h▸v) else ah
def eX (j:Int) (n:Nat):Bool:=c6 0 j&&fV j n
def aJ {T:Ty} (xs:List T.den) (j:Int):T.den:=xs.getD j.toNat T.zero
def cw {α:Type} (xs:List α) (j:Int) (x:α):List α:=xs.set j.toNat x
def Uw {α:Type} (xs I:List α):List α:=I.take xs.length++xs.drop I.length
def ir (a b:Int):Int:=if fV a b then b else a
def Hy (a b:Int):Int:=if fV b a then b else a
def AL (s:ζ) (j:Int):Int:=aO (s.getD j.toNat 0).toNat
def bcase {R:Type} (b:Bool) (t f:Option R):Option R:=match b with|true=>t|false=>f
def chk {R:Type} (b:Bool) (k:b=ai->Option R):Option R:=match b,k with|true,k=>k rfl|false,_=>ah
open Classical in
def FL {R:Type} (a b:Option R):Option R:=if a=b then a else ah
open Classical in
def same {α R:Type} (a b:α) (r:Option R):Option R:=if a=b then r else ah
def obind {α R:Type} (o:Option α) (k:α->Option R):Option R:=match o with|some x=>k x|none=>ah
def lt {α R:Type} (x:α) (k:α->Option R):Option R:=k x
def jn {α R:Type} (o:Option (R⊕α)) (k:α->Option R):Option R:=match o with|some (.inr x)=>k x|some (.inl r)=>af r|none=>ah
def iterN {σ R:Type} (step:σ->Option (σ⊕R)):Nat->σ->Option R
 |0,_=>ah
 |n+1,x=>match step x with
  |some (.inl y)=>iterN step n y
  |some (.inr r)=>af r
  |none=>ah
open Classical in
def iter {σ R:Type} (step:σ->Option (σ⊕R)) (x:σ):Option R:=
 if h:∃n,(iterN step n x).isSome=ai then iterN step (Classical.choose h) x else ah
def fK {σ R:Type} (step:σ->Option (σ⊕R)) (x:σ):Option R:=iterN step 18446744073709551616 x
abbrev xy:Type 1:=∀σ R:Type,(σ->Option (σ⊕R))->σ->Option R
def kJ {R:Type} (a b:Option R):Prop:=∀y,a=af y->b=af y
theorem kJ.rfl {R:Type} {a:Option R}:kJ a a:=λ_ h=>h
theorem kJ.bcase {R:Type} {b:Bool} {t f t' f':Option R} (h1:kJ t t') (h2:kJ f f'):kJ (AI.bcase b t f) (AI.bcase b t' f'):=by cases b<;>assumption
theorem kJ.chk {R:Type} {b:Bool} {k k':Option R} (h:kJ k k'):kJ (AI.chk b λ_=>k) (AI.chk b λ_=>k'):=by
 cases b with
 |true=>exact h
 |false=>exact λ_ h=>by cases h
theorem kJ.obind {α R:Type} {o o':Option α} {k k':α->Option R} (h:kJ o o') (hk:∀x,kJ (k x) (k' x)):kJ (AI.obind o k) (AI.obind o' k'):=by
 intro y I;cases o with
 |none=>cases I
 |some x=>rw[h x (by exact Eq.refl _)];exact hk x y I
theorem kJ.lt {α R:Type} {x:α} {k k':α->Option R} (h:∀y,kJ (k y) (k' y)):kJ (AI.lt x k) (AI.lt x k'):=h x
theorem kJ.jn {α R:Type} {o o':Option (R⊕α)} {k k':α->Option R} (h:kJ o o') (hk:∀x,kJ (k x) (k' x)):kJ (AI.jn o k) (AI.jn o' k'):=by
 intro y I;cases o with
 |none=>cases I
 |some x=>
  rw[h x (by exact Eq.refl _)];cases x with
  |inl r=>exact I
  |inr a=>exact hk a y I
theorem kJ.iterN {σ R:Type} {f g:σ->Option (σ⊕R)} (h:∀x,kJ (f x) (g x)):∀(n:Nat) (x:σ),kJ (AI.iterN f n x) (AI.iterN g n x)
 |0,_=>λ_ h=>by cases h
 |n+1,x=>by
  intro y I;cases hf:f x with
  |none=>rw[AI.iterN,hf]at I;cases I
  |some s=>
   rw[AI.iterN,hf]at I;rw[AI.iterN,h x s hf];cases s with
   |inl z=>exact kJ.iterN h n z y I
   |inr r=>exact I
theorem Jp {σ R:Type} {f:σ->Option (σ⊕R)}:∀{n:Nat} {x:σ} {r:R},iterN f n x=af r->iterN f (n+1) x=af r
 |0,x,r,h=>by cases h
 |n+1,x,r,h=>by
  cases hf:f x with
  |none=>rw[iterN,hf]at h;cases h
  |some s=>
   cases s with
   |inl y=>rw[iterN,hf]at h;rw[iterN,hf];exact Jp h
   |inr q=>rw[iterN,hf]at h;rw[iterN,hf];exact h
theorem zF {σ R:Type} {f:σ->Option (σ⊕R)} {n m:Nat} {x:σ} {r:R} (h:iterN f n x=af r) (hle:n<=m):iterN f m x=af r:=by
 induction hle with
 |refl=>exact h
 |step _ I=>exact Jp I
theorem zE {σ R:Type} {f:σ->Option (σ⊕R)} {n:Nat} {x:σ} {r:R} (h:iterN f n x=af r):iter f x=af r:=by
 have J:∃n,(iterN f n x).isSome=ai:=⟨n,by rw[h];exact Eq.refl _⟩
 unfold iter;rw[dif_pos J];have hc:=Classical.choose_spec J;obtain⟨M,I⟩:=iP.1 hc;rw[I];rcases Nat.le_total n (Classical.choose J) with hl|hl
 .rw[zF h hl]at I;exact I.symm
 .rw[zF I hl]at h;exact h
theorem kJ.iter {σ R:Type} {f g:σ->Option (σ⊕R)} {x:σ} (h:∀x,kJ (f x) (g x)):kJ (fK f x) (AI.iter g x):=λy I=>zE (kJ.iterN h _ x y I)
def orE {R:Type} (a b:Option R):Option R:=match a with|some y=>af y|none=>b
def fuel:Nat:=Classical.choose (⟨100000,rfl⟩:∃n:Nat,n=100000)
theorem jW:fuel=100000:=Classical.choose_spec (⟨100000,rfl⟩:∃n:Nat,n=100000)
def Hp (a:Ty):Ty->Ty
 |.un=>a
 |.int k=>.pr a (.int k)
 |.bool=>.pr a .bool
 |.str=>.pr a .str
 |.sl t=>.pr a (.sl t)
 |.st t=>.pr a (.st t)
 |.pr x y=>.pr a (.pr x y)
 |.ex=>.pr a .ex
 |.sm=>.pr a .sm
def spr:Ty->Ty->Ty
 |.un,b=>b
 |.int k,b=>Hp (.int k) b
 |.bool,b=>Hp .bool b
 |.str,b=>Hp .str b
 |.sl t,b=>Hp (.sl t) b
 |.st t,b=>Hp (.st t) b
 |.pr x y,b=>Hp (.pr x y) b
 |.ex,b=>Hp .ex b
 |.sm,b=>Hp .sm b
def Rq (a:Ty):(b:Ty)->a.den->b.den->(Hp a b).den
 |.un,x,_=>x
 |.int _,x,y=>(x,y)
 |.bool,x,y=>(x,y)
 |.str,x,y=>(x,y)
 |.sl _,x,y=>(x,y)
 |.st _,x,y=>(x,y)
 |.pr _ _,x,y=>(x,y)
 |.ex,x,y=>(x,y)
 |.sm,x,y=>(x,y)
def fsN (a:Ty):(b:Ty)->(Hp a b).den->a.den
 |.un,z=>z
 |.int _,z=>z.1
 |.bool,z=>z.1
 |.str,z=>z.1
 |.sl _,z=>z.1
 |.st _,z=>z.1
 |.pr _ _,z=>z.1
 |.ex,z=>z.1
 |.sm,z=>z.1
def snN (a:Ty):(b:Ty)->(Hp a b).den->b.den
 |.un,_=>()
 |.int _,z=>z.2
 |.bool,z=>z.2
 |.str,z=>z.2
 |.sl _,z=>z.2
 |.st _,z=>z.2
 |.pr _ _,z=>z.2
 |.ex,z=>z.2
 |.sm,z=>z.2
def U2:(a b:Ty)->a.den->b.den->(spr a b).den
 |.un,_,_,y=>y
 |.int k,b,x,y=>Rq (.int k) b x y
 |.bool,b,x,y=>Rq .bool b x y
 |.str,b,x,y=>Rq .str b x y
 |.sl t,b,x,y=>Rq (.sl t) b x y
 |.st t,b,x,y=>Rq (.st t) b x y
 |.pr u v,b,x,y=>Rq (.pr u v) b x y
 |.ex,b,x,y=>Rq .ex b x y
 |.sm,b,x,y=>Rq .sm b x y
def Pt:(a b:Ty)->(spr a b).den->a.den
 |.un,_,_=>()
 |.int k,b,z=>fsN (.int k) b z
 |.bool,b,z=>fsN .bool b z
 |.str,b,z=>fsN .str b z
 |.sl t,b,z=>fsN (.sl t) b z
 |.st t,b,z=>fsN (.st t) b z
 |.pr u v,b,z=>fsN (.pr u v) b z
 |.ex,b,z=>fsN .ex b z
 |.sm,b,z=>fsN .sm b z
def LP:(a b:Ty)->(spr a b).den->b.den
 |.un,_,z=>z
 |.int k,b,z=>snN (.int k) b z
 |.bool,b,z=>snN .bool b z
 |.str,b,z=>snN .str b z
 |.sl t,b,z=>snN (.sl t) b z
 |.st t,b,z=>snN (.st t) b z
 |.pr u v,b,z=>snN (.pr u v) b z
 |.ex,b,z=>snN .ex b z
 |.sm,b,z=>snN .sm b z
theorem t7 (a b:Ty) (x:a.den) (y:b.den):Pt a b (U2 a b x y)=x:=by cases a<;>cases b<;>rfl
theorem vB (a b:Ty) (x:a.den) (y:b.den):LP a b (U2 a b x y)=y:=by cases a<;>cases b<;>rfl
inductive TV where
 |f (T:Ty) (v:T.den)
 |fel (T:Ty) (xs:List T.den) (j:Int) (h:eX j xs.length=ai) (off:Nat)
 |pel (id sz:Nat) (j:Int) (off:Nat)
 |ptr (id off:Nat)
 |row (id:Nat)
 |csl (id sz n:Nat)
 |emp
 |nil
 |mp (id:Nat)
 |agg (l:List TV)
 |tup (l:List TV)
 |clo (g:FuncId) (l:List TV)
 |undef
 |np
 |anyb
 |rtl (id:Nat) (j:Int)
inductive iw where
 |rows (ty:TypeId) (p:Bool) (T:Ty) (xs:List T.den)
 |cells (ty:TypeId) (l:List TV)
 |dead (p:Bool) (sz n:Nat)
 |mp (K V:Ty) (es:List (K.den×V.den))
abbrev iU:=PT TV
abbrev bi:=PT iw
def cst:Value->Option TV
 |.int k n=>af (.f (.int k) n)
 |.bool b=>af (.f .bool b)
 |.string s=>af (.f .str s.data.toList)
 |.slice ah 0 0=>af .nil
 |.pointer ah=>af .np
 |_=>ah
def KK:ξ->Option (List TV)
 |[]=>af []
 |v::r=>match cst v,KK r with|some x,af l=>af (x::l)|_,_=>ah
def ak9:Value->Option TV
 |.agg vs=>if K_ vs.toList then (match KK vs.toList with|some l=>af (.agg l)|none=>ah) else ah
 |v=>cst v
def cellsOf:Nat->(T:Ty)->T.den->Option (List TV)
 |0,_,_=>ah
 |n+1,.st t,v=>cellsOf n t v
 |n+1,.pr a b,v=>match cellsOf n a v.1,cellsOf n b v.2 with|some x,af y=>af (x++y)|_,_=>ah
 |_+1,.un,_=>af []
 |n+1,.ex,v=>cellsOf n Nu (Oq v)
 |n+1,.sm,v=>cellsOf n M5 (Oo v)
 |_+1,.int k,v=>af [.f (.int k) v]
 |_+1,.bool,v=>af [.f .bool v]
 |_+1,.str,v=>af [.f .str v]
 |_+1,.sl t,v=>af [.f (.sl t) v]
def TV.isC:TV->Bool
 |.f T _=>T.one
 |.fel _ _ _ _ _=>ai
 |.pel _ _ _ _=>ai
 |.ptr _ _=>ai
 |.row _=>ai
 |.csl _ _ _=>ai
 |.emp=>ai
 |.nil=>ai
 |.np=>ai
 |.mp _=>ai
 |.clo _ _=>ai
 |_=>aj
def kD:List TV->Bool
 |[]=>ai
 |x::r=>x.isC&&kD r
def TV.cs (v:TV):Option (List TV):=match v with
 |.agg l=>if kD l then af l else ah
 |.f T x=>cellsOf 40 T x
 |x=>if x.isC then af [x] else ah
def kT (i:Nat):Nat:=1<<<i
def iM (h:bi) (T:Ty):TV->Option (T.den×Nat)
 |.f _ v=>match xk T v with|some x=>af (x,0)|none=>ah
 |.emp=>(match T with|.sl _=>af ([],0)|_=>ah)
 |.nil=>(match T with|.sl _=>af ([],0)|_=>ah)
 |.row id=>match h.get id with
  |some (.rows _ _ S xs)=>(match xk (S:=.sl S) T xs with|some x=>af (x,kT id)|none=>ah)
  |_=>ah
 |_=>ah
def fg (h:bi):Nat->(T:Ty)->List TV->Option (T.den×Nat×List TV)
 |0,_,_=>ah
 |n+1,.st t,l=>fg h n t l
 |n+1,.pr a b,l=>match fg h n a l with
  |some (x,m,r)=>(match fg h n b r with|some (y,m',I)=>af ((x,y),m|||m',I)|none=>ah)
  |none=>ah
 |_+1,.un,l=>af ((),0,l)
 |n+1,.ex,l=>match fg h n Nu l with|some (x,m,r)=>af (d_ x,m,r)|none=>ah
 |n+1,.sm,l=>match fg h n M5 l with|some (x,m,r)=>af (nY x,m,r)|none=>ah
 |_+1,.int k,l=>match l with|c::r=>(match iM h (.int k) c with|some (x,m)=>af (x,m,r)|none=>ah)|[]=>ah
 |_+1,.bool,l=>match l with|c::r=>(match iM h .bool c with|some (x,m)=>af (x,m,r)|none=>ah)|[]=>ah
 |_+1,.str,l=>match l with|c::r=>(match iM h .str c with|some (x,m)=>af (x,m,r)|none=>ah)|[]=>ah
 |_+1,.sl t,l=>match l with|c::r=>(match iM h (.sl t) c with|some (x,m)=>af (x,m,r)|none=>ah)|[]=>ah
def Eg (h:bi) (T:Ty) (v:TV):Option (T.den×Nat):=match v with
 |.agg l=>if T.one then ah else (match fg h 40 T l with|some (x,m,[])=>af (x,m)|_=>ah)
 |x=>iM h T x
def ox:Nat->(T:Ty)->T.den->Nat->Nat->Bool->Option TV
 |0,_,_,_,_,_=>ah
 |n+1,.st t,v,off,sz,ag=>if aC off 0&&aC sz t.size&&ag then af (.f (.st t) v) else ox n t v off sz ag
 |n+1,.pr a b,v,off,sz,ag=>if gm off a.size then ox n a v.1 off sz ag else ox n b v.2 (off-a.size) sz ag
 |_+1,.un,_,_,_,_=>ah
 |n+1,.ex,v,off,sz,ag=>if aC off 0&&aC sz 4&&ag then af (.f .ex v) else ox n Nu (Oq v) off sz ag
 |n+1,.sm,v,off,sz,ag=>if aC off 0&&aC sz 11&&ag then af (.f .sm v) else ox n M5 (Oo v) off sz ag
 |_+1,.int k,v,off,sz,ag=>if aC off 0&&aC sz 1&& !ag then af (.f (.int k) v) else ah
 |_+1,.bool,v,off,sz,ag=>if aC off 0&&aC sz 1&& !ag then af (.f .bool v) else ah
 |_+1,.str,v,off,sz,ag=>if aC off 0&&aC sz 1&& !ag then af (.f .str v) else ah
 |_+1,.sl t,v,off,sz,ag=>if aC off 0&&aC sz 1&& !ag then af (.f (.sl t) v) else ah
def gU (h:bi) (x:TV):Nat->(T:Ty)->T.den->Nat->Nat->Option (T.den×Nat)
 |0,_,_,_,_=>ah
 |n+1,.st t,v,off,sz=>match (if aC off 0&&aC sz t.size then Eg h (.st t) x else ah) with
  |some y=>af y
  |none=>gU h x n t v off sz
 |n+1,.pr a b,v,off,sz=>if gm off a.size then (match gU h x n a v.1 off sz with|some (y,m)=>af ((y,v.2),m)|none=>ah) else (match gU h x n b v.2 (off-a.size) sz with|some (y,m)=>af ((v.1,y),m)|none=>ah)
 |_+1,.un,_,_,_=>ah
 |n+1,.ex,v,off,sz=>match (if aC off 0&&aC sz 4 then Eg h .ex x else ah) with
  |some y=>af y
  |none=>(match gU h x n Nu (Oq v) off sz with|some (y,m)=>af (d_ y,m)|none=>ah)
 |n+1,.sm,v,off,sz=>match (if aC off 0&&aC sz 11 then Eg h .sm x else ah) with
  |some y=>af y
  |none=>(match gU h x n M5 (Oo v) off sz with|some (y,m)=>af (nY y,m)|none=>ah)
 |_+1,.int k,_,off,sz=>if aC off 0&&aC sz 1 then iM h (.int k) x else ah
 |_+1,.bool,_,off,sz=>if aC off 0&&aC sz 1 then iM h .bool x else ah
 |_+1,.str,_,off,sz=>if aC off 0&&aC sz 1 then iM h .str x else ah
 |_+1,.sl t,_,off,sz=>if aC off 0&&aC sz 1 then iM h (.sl t) x else ah
def zl (h:bi) (T:Ty):Nat->List TV->Option (List T.den×Nat)
 |0,[]=>af ([],0)
 |0,_::_=>ah
 |n+1,l=>match fg h 40 T l with
  |some (x,m,r)=>(match zl h T n r with|some (xs,m')=>af (x::xs,m|||m')|none=>ah)
  |none=>ah
def tw:Ty->ξ
 |.int k=>[.int k 0]
 |.bool=>[.bool aj]
 |.str=>[.string ⟨#[]⟩]
 |.sl _=>[.slice ah 0 0]
 |.st t=>tw t
 |.pr a b=>tw a++tw b
 |.un=>[]
 |.ex=>[.int .i64 0,.int .i64 0,.string ⟨#[]⟩,.slice ah 0 0]
 |.sm=>[.int .i64 0,.int .i64 0,.string ⟨#[]⟩,.string ⟨#[]⟩,.slice ah 0 0,.int .i64 0,.int .i64 0,.string ⟨#[]⟩,.slice ah 0 0,.slice ah 0 0,.slice ah 0 0]
def TE:ξ->ξ->Bool
 |[],[]=>ai
 |x::xs,y::I=>akh x y&&TE xs I
 |_,_=>aj
def Ty.flat:Ty->Bool
 |.int _=>ai
 |.bool=>ai
 |.str=>ai
 |.st t=>t.flat
 |.pr a b=>a.flat&&b.flat
 |.un=>ai
 |_=>aj
def rm:List TypeDesc->Option Ty
 |[]=>af .un
 |.int k::r=>match rm r with|some t=>af (.pr (.int k) t)|none=>ah
 |.bool::r=>match rm r with|some t=>af (.pr .bool t)|none=>ah
 |.string::r=>match rm r with|some t=>af (.pr .str t)|none=>ah
 |_=>ah
inductive PV where
 |d (T:Ty)
 |ptr (id off:Nat)
 |row (id:Nat)
 |csl (id sz n:Nat)
 |mp (id:Nat)
 |nil
 |emp
 |clo (q:FuncId) (id off:Nat)
 |agg (l:List PV)
inductive PB where
 |rows (ty:TypeId) (p:Bool) (T:Ty)
 |rowsP (ty:TypeId) (T:Ty)
 |cells (ty:TypeId) (l:List PV)
 |mp (K V:Ty)
 |gone
mutual
def PV.ty:PV->Ty
 |.d T=>T
 |.agg l=>PV.tyL l
 |.ptr _ _=>.un
 |.row _=>.un
 |.csl _ _ _=>.un
 |.clo _ _ _=>.un
 |.mp _=>.un
 |.nil=>.un
 |.emp=>.un
def PV.tyL:List PV->Ty
 |[]=>.un
 |p::r=>spr p.ty (PV.tyL r)
end
def PB.ty:PB->Ty
 |.rows _ _ T=>.sl T
 |.rowsP _ T=>.pr .bool (.sl T)
 |.cells _ l=>PV.tyL l
 |.mp K V=>.sl (.pr K V)
 |.gone=>.un
def PB.tyL:List PB->Ty
 |[]=>.un
 |p::r=>spr p.ty (PB.tyL r)
structure Tm where
 vs:List PV
 bs:List PB
def Tm.ty (t:Tm):Ty:=spr (PV.tyL t.vs) (PB.tyL t.bs)
mutual
def pK (g:Nat->Nat) (h:bi):(p:PV)->List TV->Option (p.ty.den×Nat×List TV)
 |.d T,l=>fg h 40 T l
 |.ptr i o,l=>match l with|.ptr i' o'::r=>if aC (g i) i'&&aC o o' then af ((),0,r) else ah|_=>ah
 |.row i,l=>match l with|.row i'::r=>if aC (g i) i' then af ((),0,r) else ah|_=>ah
 |.csl i s n,l=>match l with|.csl i' s' n'::r=>if aC (g i) i'&&aC s s'&&aC n n' then af ((),0,r) else ah|_=>ah
 |.clo q i o,l=>match l with|.clo q' [.ptr i' o']::r=>if aC q q'&&aC (g i) i'&&aC o o' then af ((),0,r) else ah|_=>ah
 |.mp i,l=>match l with|.mp i'::r=>if aC (g i) i' then af ((),0,r) else ah|_=>ah
 |.nil,l=>match l with|.nil::r=>af ((),0,r)|_=>ah
 |.emp,l=>match l with|.nil::r=>af ((),0,r)|.emp::r=>af ((),0,r)|_=>ah
 |.agg ps,l=>zL g h ps l
def zL (g:Nat->Nat) (h:bi):(ps:List PV)->List TV->Option ((PV.tyL ps).den×Nat×List TV)
 |[],l=>af ((),0,l)
 |p::r,l=>match pK g h p l with
  |some (x,m,l')=>(match zL g h r l' with|some (y,m',l'')=>af (U2 p.ty (PV.tyL r) x y,m|||m',l'')|none=>ah)
  |none=>ah
end
def xY (g:Nat->Nat) (h:bi):(p:PV)->TV->Option (p.ty.den×Nat)
 |.d T,v=>Eg h T v
 |.agg ps,v=>if v.isC then ah else (match v.cs with
  |some l=>(match zL g h ps l with|some (x,m,[])=>af (x,m)|_=>ah)
  |none=>ah)
 |.ptr i o,v=>match pK g h (.ptr i o) [v] with|some (x,m,_)=>af (x,m)|none=>ah
 |.row i,v=>match pK g h (.row i) [v] with|some (x,m,_)=>af (x,m)|none=>ah
 |.csl i s n,v=>match pK g h (.csl i s n) [v] with|some (x,m,_)=>af (x,m)|none=>ah
 |.clo q i o,v=>match pK g h (.clo q i o) [v] with|some (x,m,_)=>af (x,m)|none=>ah
 |.mp i,v=>match pK g h (.mp i) [v] with|some (x,m,_)=>af (x,m)|none=>ah
 |.nil,v=>match pK g h .nil [v] with|some (x,m,_)=>af (x,m)|none=>ah
 |.emp,v=>match pK g h .emp [v] with|some (x,m,_)=>af (x,m)|none=>ah
def yG (g:Nat->Nat) (h:bi):(ps:List PV)->List TV->Option ((PV.tyL ps).den×Nat)
 |[],[]=>af ((),0)
 |p::r,v::vs=>match xY g h p v with
  |some (x,m)=>(match yG g h r vs with|some (y,m')=>af (U2 p.ty (PV.tyL r) x y,m|||m')|none=>ah)
  |none=>ah
 |[],_::_=>ah
 |_::_,[]=>ah
def Fm (g:Nat->Nat) (h:bi) (i:Nat):(b:PB)->Option (b.ty.den×Nat)
 |.rows ty p T=>match h.get (g i) with
  |some (.rows ty' I S xs)=>if ty==ty'&&p==I then (match xk (S:=.sl S) (.sl T) xs with|some x=>af (x,0)|none=>ah) else ah
  |_=>ah
 |.rowsP ty T=>match h.get (g i) with
  |some (.rows ty' I S xs)=>if ty==ty' then (match xk (S:=.sl S) (.sl T) xs with|some x=>af ((I,x),0)|none=>ah) else ah
  |_=>ah
 |.cells ty ps=>match h.get (g i) with
  |some (.cells ty' l)=>if ty==ty' then (match zL g h ps l with|some (x,m,[])=>af (x,m)|_=>ah) else ah
  |_=>ah
 |.mp K V=>match h.get (g i) with
  |some (.mp K' V' es)=>(match xk (S:=.sl (.pr K' V')) (.sl (.pr K V)) es with|some x=>af (x,0)|none=>ah)
  |_=>ah
 |.gone=>af ((),0)
def Bk (g:Nat->Nat) (h:bi):Nat->(bs:List PB)->Option ((PB.tyL bs).den×Nat)
 |_,[]=>af ((),0)
 |i,b::r=>match Fm g h i b with
  |some (x,m)=>(match Bk g h (i+1) r with|some (y,m')=>af (U2 b.ty (PB.tyL r) x y,m|||m')|none=>ah)
  |none=>ah
mutual
def qi (g:Nat->Nat):(p:PV)->p.ty.den->Option (List TV)
 |.d T,x=>cellsOf 40 T x
 |.ptr i o,_=>af [.ptr (g i) o]
 |.row i,_=>af [.row (g i)]
 |.csl i s n,_=>af [.csl (g i) s n]
 |.mp i,_=>af [.mp (g i)]
 |.clo q i o,_=>af [.clo q [.ptr (g i) o]]
 |.nil,_=>af [.nil]
 |.emp,_=>af [.emp]
 |.agg ps,x=>rk g ps x
def rk (g:Nat->Nat):(ps:List PV)->(PV.tyL ps).den->Option (List TV)
 |[],_=>af []
 |p::r,x=>match qi g p (Pt p.ty (PV.tyL r) x) with
  |some a=>(match rk g r (LP p.ty (PV.tyL r) x) with|some b=>af (a++b)|none=>ah)
  |none=>ah
end
def tP (g:Nat->Nat):(p:PV)->p.ty.den->Option TV
 |.d T,x=>af (.f T x)
 |.ptr i o,_=>af (.ptr (g i) o)
 |.row i,_=>af (.row (g i))
 |.csl i s n,_=>af (.csl (g i) s n)
 |.mp i,_=>af (.mp (g i))
 |.clo q i o,_=>af (.clo q [.ptr (g i) o])
 |.nil,_=>af .nil
 |.emp,_=>af .emp
 |.agg ps,x=>match rk g ps x with|some l=>af (.agg l)|none=>ah
def qp (g:Nat->Nat):(ps:List PV)->(PV.tyL ps).den->Option (List TV)
 |[],_=>af []
 |p::r,x=>match tP g p (Pt p.ty (PV.tyL r) x) with
  |some a=>(match qp g r (LP p.ty (PV.tyL r) x) with|some b=>af (a::b)|none=>ah)
  |none=>ah
def C6 (g:Nat->Nat):(b:PB)->b.ty.den->Option (Option iw)
 |.rows ty p T,x=>af (af (.rows ty p T x))
 |.rowsP ty T,x=>af (af (.rows ty x.1 T x.2))
 |.cells ty ps,x=>match rk g ps x with|some l=>af (af (.cells ty l))|none=>ah
 |.mp K V,x=>af (af (.mp K V x))
 |.gone,_=>af ah
def vG:iw->iw
 |.rows _ p T xs=>.dead p T.size xs.length
 |.cells _ _=>.dead ai 0 0
 |.mp _ _ _=>.dead ai 0 0
 |.dead p sz n=>.dead p sz n
def kill (h:bi) (i:Nat):bi:=match h.get i with
 |some b=>h.set i (af (vG b))
 |none=>h
def oM (g:Nat->Nat):(bs:List PB)->(PB.tyL bs).den->Option (List (Option iw))
 |[],_=>af []
 |b::r,x=>match C6 g b (Pt b.ty (PB.tyL r) x) with
  |some c=>(match oM g r (LP b.ty (PB.tyL r) x) with|some l=>af (c::l)|none=>ah)
  |none=>ah
def AW (g:Nat->Nat):Nat->List (Option iw)->bi->bi
 |_,[],h=>h
 |i,af c::r,h=>AW g (i+1) r (h.set (g i) (af c))
 |i,ah::r,h=>AW g (i+1) r (kill h (g i))
def M9 (g:Nat->Nat) (bs:List PB) (x:(PB.tyL bs).den) (h:bi):Option bi:=match oM g bs x with
 |some l=>af (AW g 0 l h)
 |none=>ah
def tD {K V:Ty} (k:K.den):List (K.den×V.den)->Option V.den
 |[]=>ah
 |(k',v)::r=>if QJ K k k' then af v else tD k r
def Jb {K V:Ty} (k:K.den) (v:V.den):List (K.den×V.den)->List (K.den×V.den)
 |[]=>[(k,v)]
 |(k',I)::r=>if QJ K k k' then (k,v)::r else (k',I)::Jb k v r
def OV {K V:Ty} (k:K.den) (es:List (K.den×V.den)):Bool:=match tD k es with|some _=>ai|none=>aj
def Ge {K V:Ty} (k:K.den) (es:List (K.den×V.den)) (z:V.den):V.den:=match tD k es with|some v=>v|none=>z
def an7 (T:Ty):Nat->Ty
 |0=>.un
 |1=>T
 |n+2=>.pr T (an7 T (n+1))
def kwT:Ty:=.st (an7 .str 22)
def kwV:kwT.den:=([118,97,114],[118,111,108,97,116,105,108,101],[109,117,116,101,120],[114,119,108,111,99,107],[99,111,110,100],[102,117,116,117,114,101],[116,104,114,101,97,100],[105,102],[101,108,115,101],[119,104,105,108,101],[108,111,99,107],[114,101,97,100],[119,114,105,116,101],[116,114,97,110,115,97,99,116,105,111,110],[97,116,111,109,105,99],[119,97,105,116],[110,111,116,105,102,121],[110,111,116,105,102,121,97,108,108],[115,112,97,119,110],[106,111,105,110],[115,101,116],[103,101,116])
@[simp] theorem cV {R:Type} (t f:Option R):bcase ai t f=t:=Eq.trans rfl rfl
@[simp] theorem cO {R:Type} (t f:Option R):bcase aj t f=f:=Eq.trans rfl rfl
@[simp] theorem chk_t {R:Type} (k:ai=ai->Option R):chk ai k=k rfl:=Eq.trans rfl rfl
theorem b8 {R:Type} {b:Bool} (h:b=ai) (k:Option R):chk b (λ_=>k)=k:=by cases b with|true=>rfl|false=>cases h
@[simp] theorem cG {α R:Type} (x:α) (k:α->Option R):obind (af x) k=k x:=Eq.trans rfl rfl
@[simp] theorem jm {α R:Type} (x:α) (k:α->Option R):jn (af (.inr x)) k=k x:=Eq.trans rfl rfl
@[simp] theorem jn_l {α R:Type} (r:R) (k:α->Option R):jn (af (.inl r)) k=af r:=Eq.trans rfl rfl
theorem afv {σ R:Type} {f:σ->Option (σ⊕R)} {n:Nat} {x:σ} {r:R} (h:iterN f n x=af r) (hn:n<=18446744073709551616):fK f x=af r:=zF h hn
theorem sJ {σ R:Type} {f:σ->Option (σ⊕R)} (n:Nat) (hn:n<18446744073709551616) (st:Nat->σ) {r:R} (h0:∀i,i<n->f (st i)=af (.inl (st (i+1)))) (h1:f (st n)=af (.inr r)):fK f (st 0)=af r:=by
 have key:∀k i,i+k=n->iterN f (k+1) (st i)=af r:=by
  intro k;induction k with
  |zero=>intro i hi;have:i=n:=by omega
         subst this;simp only[iterN,h1]
  |succ k I=>intro i hi;rw[iterN,h0 i (by omega)];exact I (i+1) (by omega)
 exact afv (key n 0 (by omega)) (by omega)
@[simp] theorem acb {a b:Int}:c6 a b=ai↔a<=b:=by unfold c6;simp
@[simp] theorem aca {a b:Int}:fV a b=ai↔a<b:=by unfold fV;simp
theorem qJ {a b:Int} (h:a<=b):c6 a b=ai:=acb.2 h
theorem sL {a b:Int} (h:a<b):fV a b=ai:=aca.2 h
theorem Nk {a b:Int} (h:b<a):c6 a b=aj:=by unfold c6;simp;omega
theorem sM {a b:Int} (h:b<=a):fV a b=aj:=by unfold fV;simp;omega
theorem ane {j:Int} {n:Nat} (h0:0<=j) (h1:j<n):eX j n=ai:=by unfold eX;rw[qJ h0,sL h1];rfl
theorem cS {j n:Nat} (h1:j<n):eX (j:Int) n=ai:=ane (by omega) (by omega)
theorem tM {n b:Nat} (h0:n<=1099511627776) (h1:n*b<=1099511627776):a_ n b=ai:=by
 unfold a_;rw[bE h0,bE h1];rfl
theorem aap {n:Int} (h0: -9223372036854775808<=n) (h1:n<=9223372036854775807):bk .i64 n=n:=by
 rw[H9];unfold MZ;simp only[];rw[qJ h0,qJ h1];rfl
theorem mm {i n:Nat} (h:i<n) (hn:n<=1099511627776):bk .i64 ((i:Int)+1)=((i+1:Nat):Int):=by
 rw[aap (by omega) (by omega)];omega
theorem uI (a b:Nat):ir (aO a) (aO b)=((max a b:Nat):Int):=by
 unfold ir;by_cases h:a<b
 .rw[sL (by simp;omega),aD rfl];simp;omega
 .rw[sM (by simp;omega)];simp;omega
theorem sP {T:Ty} (xs:List T.den) (i:Nat):aJ xs (i:Int)=xs.getD i T.zero:=by unfold aJ;simp
theorem lU (xs:List η) (i:Nat):aJ (T:=.sl (.int .i64)) xs (i:Int)=xs.getD i []:=sP (T:=.sl (.int .i64)) xs i
theorem ak3 (xs:η) (i:Nat):aJ (T:=.int .i64) xs (i:Int)=xs.getD i 0:=sP (T:=.int .i64) xs i
theorem eE {α:Type} (xs:List α) (i:Nat) (x:α):cw xs (i:Int) x=xs.set i x:=by unfold cw;simp
structure cq where
 pre:Tm
 post:Tm
 m:pre.ty.den->Option post.ty.den
mutual
def aiv:PV->List TV->PT Nat->PT Nat×List TV
 |.d T,l,σ=>(σ,l.drop T.size)
 |.ptr i _,l,σ=>match l with|.ptr a _::r=>(σ.set i (af a),r)|l=>(σ,l.drop 1)
 |.row i,l,σ=>match l with|.row a::r=>(σ.set i (af a),r)|l=>(σ,l.drop 1)
 |.csl i _ _,l,σ=>match l with|.csl a _ _::r=>(σ.set i (af a),r)|l=>(σ,l.drop 1)
 |.mp i,l,σ=>match l with|.mp a::r=>(σ.set i (af a),r)|l=>(σ,l.drop 1)
 |.clo _ i _,l,σ=>match l with|.clo _ [.ptr a _]::r=>(σ.set i (af a),r)|l=>(σ,l.drop 1)
 |.nil,l,σ=>(σ,l.drop 1)
 |.emp,l,σ=>(σ,l.drop 1)
 |.agg ps,l,σ=>WA ps l σ
def WA:List PV->List TV->PT Nat->PT Nat×List TV
 |[],l,σ=>(σ,l)
 |p::r,l,σ=>match aiv p l σ with|(σ',l')=>WA r l' σ'
end
def ao2 (p:PV) (v:TV) (σ:PT Nat):PT Nat:=match p with
 |.d _=>σ
 |p=>match v.cs with|some l=>(aiv p l σ).1|none=>σ
def adl:List PV->List TV->PT Nat->PT Nat
 |p::r,v::vs,σ=>adl r vs (ao2 p v σ)
 |_,_,σ=>σ
def WC (h:bi):Nat->List PB->PT Nat->PT Nat
 |_,[],σ=>σ
 |i,b::r,σ=>WC h (i+1) r (match b with
  |.cells _ ps=>(match σ.get i with
   |some a=>(match h.get a with|some (.cells _ l)=>(WA ps l σ).1|_=>σ)
   |none=>σ)
  |_=>σ)
def ii (σ:PT Nat) (i:Nat):Nat:=match σ.get i with|some a=>a|none=>0
def ab5 (σ:PT Nat):Nat->Nat->Nat->Option Nat
 |0,_,acc=>af acc
 |n+1,i,acc=>match σ.get i with
  |some a=>if aN acc a then ah else ab5 σ n (i+1) (acc|||kT a)
  |none=>ah
def idn:Nat->PT Nat
 |0=>.leaf
 |n+1=>(idn n).set n (af n)
def XV (σ:PT Nat):Nat->Bool
 |0=>ai
 |n+1=>(match σ.get n with|some a=>aC a n|none=>aj)&&XV σ n
structure aja (t:Tm) where
 x:t.ty.den
 m:Nat
 σ:PT Nat
 sm:Nat
def EW (np:Nat) (t:Tm) (vs:List TV) (h:bi):Option (aja t):=
 R9 (WC h 0 t.bs (WC h 0 t.bs (adl t.vs vs (idn np)))) λσ=>
 match ab5 σ t.bs.length 0 0 with
 |some sm=>(match yG (ii σ) h t.vs vs with
  |some (x,m)=>(match Bk (ii σ) h 0 t.bs with
   |some (y,m')=>if D5 (m|||m') sm&&XV σ np then af ⟨U2 _ _ x y,m|||m',σ,sm⟩ else ah
   |none=>ah)
  |none=>ah)
 |none=>ah
def PT.updI {α:Type} (f:Nat->α->α):Nat->Nat->PT α->PT α
 |_,_,.leaf=>.leaf
 |a,b,.node v l r=>.node (match v with|some x=>af (f b x)|none=>ah) (PT.updI f (2*a) (a+b) l) (PT.updI f (2*a) (2*a+b) r)
def eJ (m:Nat) (h:bi):bi:=if aC m 0 then h else PT.updI (λi b=>if aN m i then vG b else b) 1 0 h
def U9:Operand->Bool
 |.const (.agg _)=>ai
 |_=>aj
def fR (e:iU):Operand->Option TV
 |.tmp t=>e.get t
 |.const v=>ak9 v
 |.func g=>af (.clo g [])
 |.global g=>match G g with|some _=>af (.fel kwT [kwV] 0 (Eq.refl ai) 0)|none=>ah
def F_ (e:iU):List Operand->Option (List TV)
 |[]=>af []
 |x::xs=>match fR e x with|some y=>(match F_ e xs with|some I=>af (y::I)|none=>ah)|none=>ah
def J0 (cells:List TV) (e:iU):List (Nat×Nat×Operand)->Option (List TV)
 |[]=>af cells
 |(off,sz,x)::r=>match fR e x with
  |some v=>(match v.cs with
   |some cs=>if cs.length==sz&&eO (off+sz) cells.length then J0 (splice cells off cs) e r else ah
   |none=>ah)
  |none=>ah
def UG (l:List TV) (off sz:Nat):Bool->Option TV
 |false=>if aC sz 1 then l[off]? else ah
 |true=>if eO (off+sz) l.length then af (.agg ((l.drop off).take sz)) else ah
def eH (h:bi) (id:Nat):Option (Bool×Nat×Nat):=match h.get id with
 |some (.rows _ p T xs)=>af (p,T.size,xs.length)
 |some (.dead p sz n)=>af (p,sz,n)
 |_=>ah
def lenOf (h:bi):TV->Option Nat
 |.f (.sl _) xs=>af (al xs)
 |.emp=>af 0
 |.nil=>af 0
 |.row id=>match eH h id with|some (_,_,n)=>af n|none=>ah
 |.csl _ _ n=>af n
 |_=>ah
mutual
def LX (h:bi):TV->Bool
 |.row id=>(eH h id).isSome
 |.rtl id _=>(eH h id).isSome
 |.agg l=>kV h l
 |.tup l=>kV h l
 |.clo _ l=>kV h l
 |.f _ _=>ai
 |.fel _ _ _ _ _=>ai
 |.pel _ _ _ _=>ai
 |.ptr _ _=>ai
 |.csl _ _ _=>ai
 |.emp=>ai
 |.nil=>ai
 |.mp _=>ai
 |.undef=>ai
 |.np=>ai
 |.anyb=>ai
def kV (h:bi):List TV->Bool
 |[]=>ai
 |x::r=>LX h x&&kV h r
end
mutual
def LZ (n:Nat):TV->Bool
 |.row id=>gm id n
 |.rtl id _=>gm id n
 |.pel id _ _ _=>gm id n
 |.ptr id _=>gm id n
 |.csl id _ _=>gm id n
 |.mp id=>gm id n
 |.agg l=>rO n l
 |.tup l=>rO n l
 |.clo _ l=>rO n l
 |.f _ _=>ai
 |.fel _ _ _ _ _=>ai
 |.emp=>ai
 |.nil=>ai
 |.undef=>ai
 |.np=>ai
 |.anyb=>ai
def rO (n:Nat):List TV->Bool
 |[]=>ai
 |x::r=>LZ n x&&rO n r
end
def Dj (t:Tm) (x:t.ty.den):Option (List TV×bi):=
 match qp (λi=>i) t.vs (Pt _ _ x) with
 |some vs=>(match M9 (λi=>i) t.bs (LP _ _ x) PT.leaf with
  |some h=>if kV h vs&&rO t.bs.length vs&&PT.all (λ_ b=>match b with|.cells _ l=>kV h l&&rO t.bs.length l|_=>ai) 1 0 h then af (vs,h) else ah
  |none=>ah)
 |none=>ah
abbrev KO (R:Type):=TV->Nat->Nat->bi->Nat->Option R
def Ra:List TV->TV
 |[x]=>x
 |l=>.tup l
def B5:List PB->Bool
 |[]=>ai
 |.gone::_=>aj
 |_::r=>B5 r
def Ix:List PB->Bool
 |[]=>ai
 |.rows _ _ _::r=>Ix r
 |_::_=>aj
def ur (h h2:bi) (g:Nat->Nat):Nat->Bool
 |0=>ai
 |n+1=>(match eH h (g n) with
  |some (p,s,k)=>(match eH h2 (g n) with|some (I,s',k')=>(p==I)&&aC s s'&&aC k k'|none=>aj)
  |none=>ai)&&ur h h2 g n
def Yd {R:Type} (con:FuncId->Option cq) (f:FuncId) (l:List TV) (h:bi) (nx:Nat) (K:KO R):Option R:=
 match con f with
 |some c=>(match EW 0 c.pre l h with
  |some ⟨x,m,σ,sm⟩=>(match Dj c.pre x with
   |some _=>obind (c.m x) λy=>(match Dj c.post y with
    |some _=>if eO c.pre.bs.length c.post.bs.length&&B5 c.pre.bs then
      let np:=c.pre.bs.length
      let I:=c.post.bs.length-np
      let g:=λi=>if gm i np then ii σ i else nx+(i-np)
      (match qp g c.post.vs (Pt _ _ y) with
      |some rs=>if !(aC m 0)&&aC c.post.bs.length 0&&(PV.tyL c.post.vs).flat then K (Ra rs) m 0 h nx else
       (match M9 g c.post.bs (LP _ _ y) (eJ m h) with
       |some h2=>chk (ur h h2 g np) λ_=>K (Ra rs) (sm|||m) (sm|||m|||(((1<<<I)-1)<<<nx)) h2 (nx+I)
       |none=>ah)
      |none=>ah) else if aC c.post.bs.length 0&&Ix c.pre.bs then
      let np:=c.pre.bs.length
      let g:=λi=>if gm i np then ii σ i else nx+(i-np)
      (match qp g c.post.vs (Pt _ _ y) with
      |some rs=>(match M9 g c.pre.bs (LP _ _ x) (eJ m h) with
       |some h2=>K (Ra rs) (sm|||m) m h2 nx
       |none=>ah)
      |none=>ah) else ah
    |none=>ah)
   |none=>ah)
  |none=>ah)
 |none=>ah
def akg {R:Type} (op:BinOp) (x y:TV) (q:TV->Option R):Option R:=
 match x,y with
 |.f (.int k) a,.f (.int k') b=>if k==k' then
   (match op with
   |.add=>q (.f (.int k) (bk k (a+b)))
   |.sub=>q (.f (.int k) (bk k (a-b)))
   |.mul=>q (.f (.int k) (bk k (a*b)))
   |.rem=>chk (!decide ((b:Int)=0)) λ_=>q (.f (.int k) (Ar a b))
   |.quo=>chk (!decide ((b:Int)=0)) λ_=>q (.f (.int k) (bk k (Int.tdiv a b)))
   |.eql=>q (.f .bool (decide ((a:Int)=b)))
   |.neq=>q (.f .bool (!decide ((a:Int)=b)))
   |.lss=>q (.f .bool (fV a b))
   |.leq=>q (.f .bool (c6 a b))
   |.gtr=>q (.f .bool (fV b a))
   |.geq=>q (.f .bool (c6 b a))
   |_=>ah)
  else ah
 |.f .str a,.f .str b=>match op with
   |.eql=>q (.f .bool (decide ((a:ζ)=b)))
   |.neq=>q (.f .bool (!decide ((a:ζ)=b)))
   |_=>ah
 |_,_=>ah
def YO:Bool->Ty->Bool
 |false,.int _=>ai
 |true,.str=>ai
 |_,_=>aj
abbrev itK:Ty:=.st (.pr .str (.int .i64))
def isIt:Ty->Bool
 |.st (.pr .str (.int .i64))=>ai
 |_=>aj
def U0 (K:Ty):Bool:= !isIt K
def QI:List ((ζ×Int)×Unit)->ζ
 |[]=>[]
 |e::_=>e.1.1
def O1:List ((ζ×Int)×Unit)->Nat
 |[]=>0
 |e::_=>aT e.1.2
def itE:(K V:Ty)->List (K.den×V.den)->Option (ζ×Nat)
 |.st (.pr .str (.int .i64)),.un,es=>af (QI es,O1 es)
 |_,_,_=>ah
def mpE:(K V:Ty)->List (K.den×V.den)->Bool
 |.un,.un,[]=>ai
 |_,_,_=>aj
def zd (T:Ty):List TV->Option (List T.den)
 |[]=>af []
 |.f S v::r=>match xk (S:=S) T v with
  |some x=>(match zd T r with|some l=>af (x::l)|none=>ah)
  |none=>ah
 |_::_=>ah
def ado:List TV->Option ((T:Ty)×List T.den)
 |.f T v::r=>match zd T (.f T v::r) with|some l=>af ⟨T,l⟩|none=>ah
 |_=>ah
def ang (n sz:Nat) (v:TV):Bool->Option ((T:Ty)×List T.den)
 |true=>ah
 |false=>if aC sz 1&& !v.isC then (match v.cs with|some l=>if aC l.length n then ado l else ah|none=>ah) else ah
def arrB (n sz off:Nat):Option iw->Option ((T:Ty)×List T.den)
 |some (.cells _ l)=>if aC sz 1&&aC off 0&&aC l.length n then ado l else ah
 |_=>ah
def aio:Ty->Nat
 |.pr .un t=>aio t+1
 |_=>0
def D':Option Ty->Option Nat
 |some (.pr .un t)=>af (aio t)
 |_=>ah
def ais {R:Type} (ty:TypeId) (sz bytes:Nat) (b y:TV) (h:bi) (nx:Nat) (K:KO R):Option R:=match y with
 |.csl id2 sz2 m=>(match h.get id2 with
  |some (.cells _ l2)=>if aC sz2 sz&&aC l2.length (m*sz)&& !(aC m 0) then (match b with
   |.csl id sz1 n=>(match h.get id with
    |some (.cells ty1 l)=>if aC sz1 sz&&ty1==ty&&aC l.length (n*sz)&& !(aC id id2) then
      chk (a_ (n+m) bytes) λ_=>K (.csl nx sz (n+m)) (kT id|||kT id2) (kT id|||kT nx) ((h.set id (af (.dead ai 0 0))).set nx (af (.cells ty (l++l2)))) (nx+1) else ah
    |_=>ah)
   |.nil=>chk (a_ m bytes) λ_=>K (.csl nx sz m) (kT id2) (0|||kT nx) ((eJ 0 h).set nx (af (.cells ty l2))) (nx+1)
   |_=>ah) else ah
  |_=>ah)
 |_=>ah
def pkT (ok:Bool) (v b:TV):TV:=match ok with|true=>.tup [v,b]|false=>v
def dW {R:Type} (con:FuncId->Option cq) (b7:TypeId->Option Ty) (o:SI) (e:iU) (h:bi) (nx:Nat) (K:KO R):Option R:=
 match o with
 |.call f args=>match F_ e args with|some l=>Yd con f l h nx K|none=>ah
 |.callv x args=>match fR e x,F_ e args with
  |some (.clo f cap),af l=>Yd con f (l++cap) h nx K
  |_,_=>ah
 |.op s=>match s with
  |.mksl ty sz bytes z l c=>match D' (b7 ty) with
   |some n=>(match KK z,fR e l,fR e c with
    |some J,af (.f (.int _) a),af (.f (.int _) b)=>chk (c6 0 a&&c6 a b&&a_ (aT b) bytes&&decide ((a:Int)=aO n)) λ_=>K (.csl nx sz n) 0 (0|||kT nx) ((eJ 0 h).set nx (af (.cells ty (aG n J).flatten))) (nx+1)
    |_,_,_=>ah)
   |none=>match b7 ty,fR e l,fR e c with
   |some T,af (.f (.int _) a),af (.f (.int _) b)=>if aC sz T.size&&TE z (tw T) then
     chk (c6 0 a&&c6 a b&&a_ (aT b) bytes) λ_=>K (.row nx) 0 (kT nx) (h.set nx (af (.rows ty aj T (aG (aT a) T.zero)))) (nx+1) else ah
   |_,_,_=>ah
  |.bsl ty sz len z parts=>match D' (b7 ty) with
   |some _=>(match KK z with
    |some J=>(match J0 ((aG len J).flatten) e parts with
     |some cs=>if aC len 0 then ah else K (.csl nx sz len) 0 (0|||kT nx) ((eJ 0 h).set nx (af (.cells ty cs))) (nx+1)
     |none=>ah)
    |none=>ah)
   |none=>match b7 ty,KK z with
   |some T,af J=>if aC sz T.size then (match J0 ((aG len J).flatten) e parts with
    |some cs=>(match zl h T len cs with
     |some (xs,m)=>K (.row nx) m (m|||kT nx) ((eJ m h).set nx (af (.rows ty (aC len 0) T xs))) (nx+1)
     |none=>ah)
    |none=>ah) else ah
   |_,_=>ah
  |.app ty sz bytes s x=>match D' (b7 ty) with
   |some _=>(match fR e s,fR e x with
    |some b,af y=>ais ty sz bytes b y h nx K
    |_,_=>ah)
   |none=>match b7 ty,fR e s,fR e x with
   |some T,af b,af y=>if aC sz T.size then (match Eg h (.sl T) y with
    |some (I,m)=>(match b with
     |.row id=>(match h.get id with
      |some (.rows ty' p S xs)=>(match xk (S:=.sl S) (.sl T) xs with
       |some xs=>if ty'==ty&& !(aN m id) then
         chk (a_ (al xs+al I) bytes) λ_=>K (.row nx) (kT id|||m) (kT id|||kT nx) ((h.set id (af (.dead p sz (al xs)))).set nx (af (.rows ty p T (xs++I)))) (nx+1)
        else ah
       |none=>ah)
      |_=>ah)
     |.emp=>chk (a_ (al I) bytes) λ_=>K (.row nx) m (kT nx) (h.set nx (af (.rows ty ai T I))) (nx+1)
     |.nil=>chk (a_ (al I) bytes) λ_=>K (.row nx) m (kT nx) (h.set nx (af (.rows ty ai T I))) (nx+1)
     |_=>ah)
    |none=>ah) else ah
   |_,_,_=>ah
  |.copy sz d x=>match fR e d,fR e x with
   |some (.row id),af y=>(match h.get id with
    |some (.rows ty p T xs)=>if aC sz T.size then (match Eg h (.sl T) y with
     |some (I,m)=>if !(aN m id)&& !p then
       K (.f (.int .i64) (aO (iX (al I) (al xs)))) (kT id|||m) (kT id) (h.set id (af (.rows ty p T (Uw xs I)))) nx else ah
     |none=>ah) else ah
    |_=>ah)
   |_,_=>ah
  |.clr sz z x=>match fR e x with
   |some (.rtl id j)=>(match h.get id with
    |some (.rows ty p T xs)=>if (aC sz T.size&&TE z (tw T))&&mL z then
      chk (c6 0 j&&fV j (al xs)) λ_=>K (.tup []) (kT id) (0|||kT id) ((eJ 0 h).set id (af (.rows ty p T (dF (aT j) xs++aG (al xs-aT j) T.zero)))) nx
     else ah
    |_=>ah)
   |_=>ah
  |.mv x=>match fR e x with|some v=>K v 0 0 h nx|none=>ah
  |.pick c a b=>match fR e c with
   |some (.f .bool t)=>bcase t (match fR e a with|some v=>K v 0 0 h nx|none=>ah) (match fR e b with|some v=>K v 0 0 h nx|none=>ah)
   |_=>ah
  |.alloc ty z=>match KK z with
   |some l=>K (.ptr nx 0) 0 (kT nx) (h.set nx (af (.cells ty l))) (nx+1)
   |none=>ah
  |.box ty x=>match fR e x with
   |some v=>(match v.cs with|some l=>K (.ptr nx 0) 0 (kT nx) (h.set nx (af (.cells ty l))) (nx+1)|none=>ah)
   |none=>ah
  |.build z parts=>match KK z with
   |some l=>(match J0 l e parts with|some cs=>K (.agg cs) 0 0 h nx|none=>ah)
   |none=>ah
  |.load sz ag x=>match fR e x with
   |some (.ptr id off)=>(match h.get id with
    |some (.cells _ l)=>(match UG l off sz ag with|some v=>K v (kT id) 0 h nx|none=>ah)
    |_=>ah)
   |some (.pel id sz' j off)=>(match h.get id with
    |some (.rows _ _ T xs)=>if aC sz' T.size then chk (eX j xs.length) λ_=>(match ox 40 T (aJ xs j) off sz ag with|some v=>K v (kT id) 0 h nx|none=>ah) else ah
    |some (.cells _ l)=>(match ag with
     |true=>ah
     |false=>if aC sz 1&&aC sz' 1&&aC off 0 then (match ado l with
      |some ⟨T,xs⟩=>chk (eX j l.length) λ_=>K (.f T (aJ xs j)) (kT id) 0 h nx
      |none=>ah) else ah)
    |_=>ah)
   |some (.fel T xs j _ off)=>(match ox 40 T (aJ xs j) off sz ag with|some v=>K v 0 0 h nx|none=>ah)
   |_=>ah
  |.store sz x v=>match fR e x,fR e v with
   |some (.ptr id off),af y=>(match h.get id with
    |some (.cells ty l)=>(match y.cs with
     |some cs=>if cs.length==sz&&eO (off+sz) l.length then K .undef (kT id) (kT id) (h.set id (af (.cells ty (splice l off cs)))) nx else ah
     |none=>ah)
    |_=>ah)
   |some (.pel id sz' j off),af y=>(match h.get id with
    |some (.rows ty p T xs)=>if aC sz' T.size then chk (eX j xs.length) λ_=>(match gU h y 40 T (aJ xs j) off sz with
     |some (z,m)=>if aN m id then ah else K .undef (m|||kT id) (m|||kT id) ((eJ m h).set id (af (.rows ty p T (cw xs j z)))) nx
     |none=>ah) else ah
    |some (.cells ty l)=>if aC sz 1&&(aC sz' 1&&aC off 0) then chk (eX j l.length) λ_=>(match y.cs with
     |some cs=>if aC cs.length 1 then K .undef (kT id) (kT id) (h.set id (af (.cells ty (splice l j.toNat cs)))) nx else ah
     |none=>ah) else ah
    |_=>ah)
   |_,_=>ah
  |.nilc x=>match fR e x with
   |some (.ptr id off)=>K (.ptr id off) 0 0 h nx
   |some (.pel id sz j off)=>K (.pel id sz j off) 0 0 h nx
   |some (.fel T xs j hj off)=>K (.fel T xs j hj off) 0 0 h nx
   |some (.clo g cap)=>K (.clo g cap) 0 0 h nx
   |_=>ah
  |.bin op x y=>match fR e x,fR e y with
   |some u,af v=>akg op u v λr=>K r 0 0 h nx
   |_,_=>ah
  |.eqs neg ds x y=>match rm ds,fR e x,fR e y with
   |some T,af u,af v=>if u.isC||v.isC||U9 x||U9 y then ah else (match u.cs,v.cs with
    |some lu,af lv=>(match fg PT.leaf 40 T lu,fg PT.leaf 40 T lv with
     |some (a,_,[]),af (b,_,[])=>K (.f .bool (QJ T a b !=neg)) 0 0 h nx
     |_,_=>ah)
    |_,_=>ah)
   |_,_,_=>ah
  |.isnil neg x=>match fR e x with
   |some .nil=>K (.f .bool (!neg)) 0 0 h nx
   |some .emp=>K .anyb 0 0 h nx
   |some (.f (.sl _) xs)=>bcase (aC (al xs) 0) (K .anyb 0 0 h nx) (K (.f .bool neg) 0 0 h nx)
   |some (.row id)=>(match h.get id with
    |some (.rows _ aj _ _)=>K (.f .bool neg) 0 0 h nx
    |_=>ah)
   |_=>ah
  |.eqb neg x y=>match fR e x,fR e y with
   |some (.f .bool a),af (.f .bool b)=>K (.f .bool ((a==b) !=neg)) 0 0 h nx
   |_,_=>ah
  |.not x=>match fR e x with|some (.f .bool b)=>K (.f .bool (!b)) 0 0 h nx|_=>ah
  |.conv k x=>match fR e x with|some (.f (.int _) n)=>K (.f (.int k) (bk k n)) 0 0 h nx|_=>ah
  |.slc sz x lo hi mx=>match fR e x with
   |some v=>(match lo,hi,mx with
    |none,af (.const (.int _ 0)),af (.const (.int _ 0))=>if (lenOf h v).isSome then K .emp 0 0 h nx else ah
    |none,af b,ah=>(match v,fR e b with
     |.f (.sl T) xs,af (.f (.int _) j)=>if aC sz T.size then chk (c6 0 j&&c6 j (al xs)) λ_=>K (.f (.sl T) (dF (aT j) xs)) 0 0 h nx else ah
     |.row id,af (.f (.int _) j)=>(match h.get id with
      |some (.rows ty p T xs)=>if aC sz T.size then
        chk (c6 0 j&&fV j (al xs)) λ_=>K (.row nx) (kT id) (kT id|||kT nx) ((h.set id (af (.dead p sz (al xs)))).set nx (af (.rows ty aj T (dF (aT j) xs)))) (nx+1)
       else ah
      |_=>ah)
     |_,_=>ah)
    |some b,ah,ah=>(match v,fR e b with
     |.f (.sl T) xs,af (.f (.int _) j)=>if aC sz T.size then chk (c6 0 j&&c6 j (al xs)) λ_=>K (.f (.sl T) (List.drop (aT j) xs)) 0 0 h nx else ah
     |.row id,af (.f (.int _) j)=>(match h.get id with
      |some (.rows _ _ T xs)=>if aC sz T.size then chk (c6 0 j&&fV j (al xs)) λ_=>K (.rtl id j) 0 0 h nx else ah
      |_=>ah)
     |_,_=>ah)
    |_,_,_=>ah)
   |none=>ah
  |.fad off x=>match fR e x with
   |some (.ptr id o)=>K (.ptr id (o+off)) 0 0 h nx
   |some (.pel id sz j o)=>K (.pel id sz j (o+off)) 0 0 h nx
   |some (.fel T xs j hj o)=>K (.fel T xs j hj (o+off)) 0 0 h nx
   |_=>ah
  |.fld off sz ag x=>match fR e x with
   |some (.agg l)=>(match UG l off sz ag with|some v=>K v 0 0 h nx|none=>ah)
   |some (.f T v)=>if T.one then ah else (match ox 40 T v off sz ag with|some v=>K v 0 0 h nx|none=>ah)
   |_=>ah
  |.iad sz x i=>match fR e x,fR e i with
   |some (.row id),af (.f (.int _) j)=>(match h.get id with
    |some (.rows _ _ T xs)=>if aC sz T.size then chk (eX j xs.length) λ_=>K (.pel id sz j 0) 0 0 h nx else ah
    |_=>ah)
   |some (.f (.sl T) xs),af (.f (.int _) j)=>if aC sz T.size then chk (eX j (al xs)) λhj=>K (.fel T xs j hj 0) 0 0 h nx else ah
   |some (.csl id sz' n),af (.f (.int _) j)=>if aC sz' sz then chk (c6 0 j&&fV j n) λ_=>K (.ptr id (aT j*sz)) 0 0 h nx else ah
   |_,_=>ah
  |.iada n sz x i=>match fR e x,fR e i with
   |some (.ptr id off),af (.f (.int _) j)=>(match arrB n sz off (h.get id) with
    |some _=>chk (c6 0 j&&fV j n) λ_=>K (.pel id sz j off) 0 0 h nx
    |none=>chk (c6 0 j&&fV j n) λ_=>K (.ptr id (off+aT j*sz)) 0 0 h nx)
   |_,_=>ah
  |.idx n sz ag x i=>match fR e x,fR e i with
   |some v,af (.f (.int _) j)=>(match ang n sz v ag with
    |some ⟨T,xs⟩=>chk (c6 0 j&&fV j n) λ_=>K (.f T (aJ xs j)) 0 0 h nx
    |none=>(match v with
     |.agg l=>chk (c6 0 j&&fV j n) λ_=>(match UG l (aT j*sz) sz ag with|some v=>K v 0 0 h nx|none=>ah)
     |.f T v=>if T.one then ah else chk (c6 0 j&&fV j n) λ_=>(match ox 40 T v (aT j*sz) sz ag with|some v=>K v 0 0 h nx|none=>ah)
     |_=>ah))
   |_,_=>ah
  |.ext x i=>match fR e x with|some (.tup l)=>(match l[i]? with|some v=>K v 0 0 h nx|none=>ah)|_=>ah
  |.len x=>match fR e x with
   |some v=>(match lenOf h v with|some n=>K (.f (.int .i64) (aO n)) 0 0 h nx|none=>ah)
   |none=>ah
  |.lens x=>match fR e x with
   |some (.f .str s)=>K (.f (.int .i64) (aO (al s))) 0 0 h nx
   |_=>ah
  |.max x y=>match fR e x,fR e y with
   |some (.f (.int k) a),af (.f (.int k') b)=>if k==k' then K (.f (.int k) (ir a b)) 0 0 h nx else ah
   |_,_=>ah
  |.min x y=>match fR e x,fR e y with
   |some (.f (.int k) a),af (.f (.int k') b)=>if k==k' then K (.f (.int k) (Hy a b)) 0 0 h nx else ah
   |_,_=>ah
  |.sidx x i=>match fR e x,fR e i with
   |some (.f .str s),af (.f (.int _) j)=>chk (eX j (al s)) λ_=>K (.f (.int .u8) (AL s j)) 0 0 h nx
   |_,_=>ah
  |.rng x=>match fR e x with
   |some (.f .str s)=>K (.ptr nx 0) 0 (0|||kT nx) ((eJ 0 h).set nx (af (.mp itK .un [((s,0),())]))) (nx+1)
   |_=>ah
  |.nxt x=>match fR e x with
   |some (.ptr id 0)=>(match h.get id with
    |some (.mp K' V es)=>(match itE K' V es with
     |some (s,p)=>bcase (gm p (al s)) (chk (fV (AL s (aO p)) 128) λ_=>K (.tup [.f .bool ai,.f (.int .i64) (aO p),.f (.int .i32) (AL s (aO p))]) (kT id) (0|||kT id) ((eJ 0 h).set id (af (.mp itK .un [((s,aO (p+1)),())]))) nx)
       (K (.tup [.f .bool aj]) (kT id) (0|||kT id) ((eJ 0 h).set id (af (.mp itK .un [((s,aO p),())]))) nx)
     |none=>ah)
    |_=>ah)
   |_=>ah
  |.mkm=>K (.mp nx) 0 (0|||kT nx) ((eJ 0 h).set nx (af (.mp .un .un []))) (nx+1)
  |.lku str ok z x k=>match fR e x,fR e k with
   |some (.mp id),af (.f KT M)=>(match h.get id with
    |some (.mp K' V es)=>if YO str KT&&U0 K' then (match mpE K' V es with
     |true=>(match cst z with|some v=>K (pkT ok v (.f .bool aj)) (kT id) 0 h nx|none=>ah)
     |false=>(match xk (S:=KT) K' M,cst z with
      |some kv',af (.f Z Y)=>(match xk (S:=Z) V Y with
       |some zv'=>K (pkT ok (.f V (Ge kv' es zv')) (.f .bool (OV kv' es))) (kT id) 0 h nx
       |none=>ah)
      |_,_=>ah)) else ah
    |_=>ah)
   |_,_=>ah
  |.mup str x k v=>match fR e x,fR e k,fR e v with
   |some (.mp id),af (.f KT M),af (.f VT U)=>(match h.get id with
    |some (.mp K' V es)=>if (YO str KT&&VT.one)&&U0 K' then (match mpE K' V es with
     |true=>K .undef (kT id) (0|||kT id) ((eJ 0 h).set id (af (.mp KT VT [(M,U)]))) nx
     |false=>(match xk (S:=KT) K' M,xk (S:=VT) V U with
      |some kv',af vv'=>K .undef (kT id) (0|||kT id) ((eJ 0 h).set id (af (.mp K' V (Jb kv' vv' es)))) nx
      |_,_=>ah)) else ah
    |_=>ah)
   |_,_,_=>ah
  |.lenm x=>match fR e x with
   |some (.mp id)=>(match h.get id with
    |some (.mp K' _ es)=>if U0 K' then K (.f (.int .i64) (aO es.length)) (kT id) 0 h nx else ah
    |_=>ah)
   |_=>ah
  |.mkf f caps=>match F_ e caps with|some l=>K (.clo f l) 0 0 h nx|none=>ah
  |_=>ah
def aas {R:Type} (e:iU) (g:Option (Nat×Bool)) (K:Bool->iU->Option R):Option R:=match g with
 |none=>K ai e
 |some (t,want)=>match e.get t with
  |some (.f .bool b)=>(match want with
   |true=>bcase b (K ai (e.set t (af (.f .bool ai)))) (K aj (e.set t (af (.f .bool aj))))
   |false=>bcase b (K aj (e.set t (af (.f .bool ai)))) (K ai (e.set t (af (.f .bool aj)))))
  |some .undef=>K aj e
  |_=>ah
def EJ (e:iU) (d:Option Nat) (v:TV):iU:=match d with
 |none=>e
 |some d=>e.set d (af v)
structure TS where
 e:iU
 h:bi
 nx:Nat
def LU {R:Type} (con:FuncId->Option cq) (b7:TypeId->Option Ty):List sW->TS->List FPm->(TS->List FPm->Option R)->Option R
 |[],s,fs,K=>K s fs.reverse
 |o::r,s,fs,K=>aas s.e o.guard λrun e=>match run with
  |true=>dW con b7 o.op e s.h s.nx λv rd wr h nx=>if LX h v then LU con b7 r ⟨EJ e o.dst v,h,nx⟩ (⟨rd,wr⟩::fs) K else ah
  |false=>LU con b7 r ⟨EJ e o.dst .undef,s.h,s.nx⟩ (⟨0,0⟩::fs) K
inductive Adj where
 |nil (k:Nat) (ty:TypeId) (T:Ty)
 |cel (k:Nat) (off:Nat) (ty:TypeId) (T:Ty)
 |mpt (k:Nat) (K V:Ty)
 |pk (k:Nat) (off:Nat) (T:Ty)
 |ren (k:Nat) (off:Nat)
mutual
def LO (id sz n:Nat):TV->TV
 |.csl i s m=>if aC i id&&aC s sz&&aC m n then .row id else .csl i s m
 |.agg l=>.agg (CQ id sz n l)
 |.tup l=>.tup (CQ id sz n l)
 |.clo g l=>.clo g (CQ id sz n l)
 |.f T v=>.f T v
 |.fel T xs j h off=>.fel T xs j h off
 |.pel a b c d=>.pel a b c d
 |.ptr a b=>.ptr a b
 |.row a=>.row a
 |.rtl a j=>.rtl a j
 |.emp=>.emp
 |.nil=>.nil
 |.mp a=>.mp a
 |.undef=>.undef
 |.np=>.np
 |.anyb=>.anyb
def CQ (id sz n:Nat):List TV->List TV
 |[]=>[]
 |x::r=>LO id sz n x::CQ id sz n r
end
def Yz (id sz n:Nat):iw->iw
 |.cells ty l=>.cells ty (CQ id sz n l)
 |.rows ty p T xs=>.rows ty p T xs
 |.dead p s m=>.dead p s m
 |.mp K V es=>.mp K V es
def ao0 (s:TS) (k off:Nat):Option (Nat×Nat×Nat):=match s.e.get k with
 |some (.csl id sz n)=>af (id,sz,n)
 |some (.agg l)=>(match l[off]? with|some (.csl id sz n)=>af (id,sz,n)|_=>ah)
 |some (.ptr a o)=>(match s.h.get a with
  |some (.cells _ l)=>(match l[o+off]? with|some (.csl id sz n)=>af (id,sz,n)|_=>ah)
  |_=>ah)
 |_=>ah
def pkS (s:TS) (T:Ty) (id sz n:Nat):Option TS:=match s.h.get id with
 |some (.cells ty l)=>if aC sz T.size then (match zl s.h T n l with
  |some (xs,m)=>if aN m id then ah else af ⟨PT.updI (λ_ v=>LO id sz n v) 1 0 s.e,(PT.updI (λ_ b=>Yz id sz n b) 1 0 (eJ m s.h)).set id (af (.rows ty aj T xs)),s.nx⟩
  |none=>ah) else ah
 |_=>ah
def afw:TV->Bool
 |.nil=>ai
 |.emp=>ai
 |_=>aj
def an6:Option TV->Option (Nat×Nat)
 |some (.ptr id o)=>af (id,o)
 |some (.csl id _ _)=>af (id,0)
 |_=>ah
def Qn (s:TS):Adj->Option TS
 |.nil k ty T=>match s.e.get k with
  |some v=>if afw v then af ⟨s.e.set k (af (.row s.nx)),s.h.set s.nx (af (.rows ty ai T [])),s.nx+1⟩ else af s
  |none=>ah
 |.cel k off ty T=>match an6 (s.e.get k) with
  |some (id,o)=>(match s.h.get id with
   |some (.cells cty l)=>(match l[o+off]? with
    |some v=>if afw v then af ⟨s.e,(s.h.set s.nx (af (.rows ty ai T []))).set id (af (.cells cty (splice l (o+off) [.row s.nx]))),s.nx+1⟩ else af s
    |none=>ah)
   |_=>ah)
  |_=>ah
 |.mpt k K V=>match s.e.get k with
  |some (.mp id)=>(match s.h.get id with
   |some (.mp K' V' es)=>(match mpE K' V' es&&U0 K with
    |true=>af ⟨s.e,s.h.set id (af (.mp K V [])),s.nx⟩
    |false=>af s)
   |_=>ah)
  |_=>ah
 |.pk k off T=>match ao0 s k off with
  |some (id,sz,n)=>pkS s T id sz n
  |none=>ah
 |.ren k off=>match s.e.get k with
  |some (.ptr b o)=>(match s.h.get b with
   |some (.cells cty l)=>(match l[o+off]? with
    |some (.row id)=>(match s.h.get id with
     |some (.rows ty p T xs)=>af ⟨s.e,((s.h.set id (af (.dead p T.size xs.length))).set s.nx (af (.rows ty p T xs))).set b (af (.cells cty (splice l (o+off) [.row s.nx]))),s.nx+1⟩
     |_=>ah)
    |_=>ah)
   |_=>ah)
  |some (.row id)=>(match s.h.get id with
   |some (.rows ty p T xs)=>af ⟨s.e.set k (af (.row s.nx)),(s.h.set id (af (.dead p T.size xs.length))).set s.nx (af (.rows ty p T xs)),s.nx+1⟩
   |_=>ah)
  |_=>ah
def ZO (s:TS):List Adj->Option TS
 |[]=>af s
 |a::r=>match Qn s a with|some s'=>ZO s' r|none=>ah
structure Ann where
 keep:ι
 ks:ι
 t:Tm
 pre:List Adj
abbrev Ann.D (A:Ann):Type:=A.t.ty.den
mutual
def uJ:TV->Bool
 |.f _ _=>ai
 |.fel _ _ _ _ _=>ai
 |.emp=>ai
 |.nil=>ai
 |.undef=>ai
 |.np=>ai
 |.anyb=>ai
 |.agg l=>qK l
 |.tup l=>qK l
 |.pel _ _ _ _=>aj
 |.ptr _ _=>aj
 |.csl _ _ _=>aj
 |.row _=>aj
 |.rtl _ _=>aj
 |.mp _=>aj
 |.clo _ _=>aj
def qK:List TV->Bool
 |[]=>ai
 |x::r=>uJ x&&qK r
end
def Dh (am:Nat) (e:iU):ι->iU
 |[]=>PT.leaf
 |k::r=>match e.get k with|some v=>if uJ v&& !(aN am k) then (Dh am e r).set k (af v) else Dh am e r|none=>Dh am e r
def ol (e:iU):ι->Option (List TV)
 |[]=>af []
 |k::r=>match e.get k with|some v=>(match ol e r with|some l=>af (v::l)|none=>ah)|none=>ah
def YB (e:iU):ι->List TV->iU
 |k::r,v::l=>(YB e r l).set k (af v)
 |_,_=>e
def Ij (am:Nat) (e0 e:iU):ι->Bool
 |[]=>ai
 |k::r=>(match e0.get k with
  |some v=> !(uJ v)||aN am k||(match e.get k with|some _=>ai|none=>aj)
  |none=>ai)&&Ij am e0 e r
def Mp (np:Nat) (A:Ann) (am:Nat) (I s:TS):Option A.D:=if eO np A.t.bs.length&&Ij am I.e s.e A.keep then (match ZO s A.pre with
 |some s=>(match ol s.e A.ks with
  |some vs=>(match EW np A.t vs s.h with
   |some ⟨x,_,_,_⟩=>af x
   |none=>ah)
  |none=>ah)
 |none=>ah) else ah
def Hq (A:Ann) (am:Nat) (s:TS) (x:A.D):Option TS:=match Dj A.t x with
 |some (vs,h)=>if aC vs.length A.ks.length then af ⟨YB (Dh am s.e A.keep) A.ks vs,h,A.t.bs.length⟩ else ah
 |none=>ah
inductive TC where
 |skip
 |reg (ops:List sW) (prs:List (Nat×Nat))
 |seq (a b:TC)
 |jseq (A:Ann) (a b:TC)
 |cond (c:Nat) (a b:TC)
 |block (id:Nat) (b:TC)
 |jblock (A:Ann) (id:Nat) (b:TC)
 |loop (A:Ann) (b:TC)
 |exit (id:Nat)
 |ret
 |defer (f:FuncId) (caps:List Operand) (t:Nat)
 |adj (l:List Adj) (c:TC)
 |split (k off lo n:Nat) (c:TC)
 |unl (n:Nat) (b:TC)
 |bad
def Qj:List sW->Nat->Nat
 |[],acc=>acc
 |o::r,acc=>Qj r (match o.dst with|some d=>acc|||kT d|none=>acc)
def L1:ι->Nat->Nat
 |[],acc=>acc
 |k::r,acc=>L1 r (acc|||kT k)
def oI:List Adj->Nat->Nat
 |[],acc=>acc
 |.nil k _ _::r,acc=>oI r (acc|||kT k)
 |.cel _ _ _ _::r,acc=>oI r acc
 |.mpt _ _ _::r,acc=>oI r acc
 |.pk _ _ _::r,acc=>oI r acc
 |.ren k _::r,acc=>oI r (acc|||kT k)
def TC.asg:TC->Nat->Nat
 |.reg ops _,acc=>Qj ops acc
 |.seq a b,acc=>b.asg (a.asg acc)
 |.jseq A a b,acc=>b.asg (a.asg (L1 A.ks acc))
 |.cond _ a b,acc=>b.asg (a.asg acc)
 |.block _ b,acc=>b.asg acc
 |.jblock A _ b,acc=>b.asg (L1 A.ks acc)
 |.loop A b,acc=>b.asg (L1 A.ks acc)
 |.defer _ _ t,acc=>acc|||kT t
 |.adj l c,acc=>c.asg (oI l acc)
 |.split _ _ _ _ c,acc=>c.asg acc
 |.unl _ b,acc=>b.asg acc
 |.skip,acc=>acc
 |.exit _,acc=>acc
 |.ret,acc=>acc
 |.bad,acc=>acc
inductive aek where
 |j (A:Ann)
 |a (l:List Adj)
 |s (k off lo n:Nat)
 |u (n:Nat)
def ID (H:PT aek) (n:Nat) (c:TC):TC:=match H.get n with|some (.a l)=>.adj l c|some (.s k off lo m)=>.split k off lo m c|_=>c
def D7 (H:PT aek):SC->Nat->TC×Nat
 |.skip,n=>(ID H n .skip,n+1)
 |.reg o p,n=>(ID H n (.reg o p),n+1)
 |.seq a b,n=>match D7 H a (n+1) with
  |(a',k)=>(match D7 H b k with|(b',k')=>((match H.get n with|some (.j A)=>.jseq A a' b'|_=>.seq a' b'),k'))
 |.cond c a b,n=>match D7 H a (n+1) with
  |(a',k)=>(match D7 H b k with|(b',k')=>(ID H n (.cond c a' b'),k'))
 |.block id b,n=>match D7 H b (n+1) with|(b',k)=>((match H.get n with|some (.j A)=>.jblock A id b'|_=>.block id b'),k)
 |.loop b,n=>match D7 H b (n+1) with|(b',k)=>((match H.get n with|some (.j A)=>.loop A b'|some (.u m)=>.unl m b'|_=>.bad),k)
 |.exit id,n=>(ID H n (.exit id),n+1)
 |.ret,n=>(ID H n .ret,n+1)
 |.defer f c t,n=>(.defer f c t,n+1)
 |.bad,n=>(.bad,n+1)
def ac6 (s:TS) (k off:Nat):Option (IntKind×Int):=match s.e.get k with
 |some (.f (.int kd) v)=>af (kd,v)
 |some (.ptr a o)=>(match s.h.get a with
  |some (.cells _ l)=>(match l[o+off]? with|some (.f (.int kd) v)=>af (kd,v)|_=>ah)
  |_=>ah)
 |_=>ah
def UK (s:TS) (k off:Nat) (kd:IntKind) (v:Int):Option TS:=match s.e.get k with
 |some (.f (.int _) _)=>af ⟨s.e.set k (af (.f (.int kd) v)),s.h,s.nx⟩
 |some (.ptr a o)=>(match s.h.get a with
  |some (.cells ty l)=>af ⟨s.e,s.h.set a (af (.cells ty (splice l (o+off) [.f (.int kd) v]))),s.nx⟩
  |_=>ah)
 |_=>ah
def spl {R:Type} (v:Int) (f:Nat->Option R):Nat->Nat->Option R
 |_,0=>ah
 |i,m+1=>bcase (decide ((v:Int)=aO i)) (f i) (spl v f (i+1) m)
def af4 {R:Type} (f:TS->(Ex->TS->Option R)->Option R):Nat->TS->(Ex->TS->Option R)->Option R
 |0,_,_=>ah
 |m+1,s,K=>f s λex s'=>match ex with
  |.normal=>af4 f m s' K
  |ex=>K ex s'
def pn {R:Type} (np:Nat) (con:FuncId->Option cq) (b7:TypeId->Option Ty) (inert:FuncId->Bool):TC->TS->(Ex->TS->Option R)->Option R
 |.skip,s,K=>K .normal s
 |.reg ops prs,s,K=>LU con b7 ops s [] λs' fs=>if F9 fs prs then K .normal s' else ah
 |.seq a b,s,K=>pn np con b7 inert a s λex s'=>match ex with|.normal=>pn np con b7 inert b s' K|ex=>K ex s'
 |.jseq A a b,s,K=>jn (pn np con b7 inert a s λex s'=>match ex with
   |.normal=>obind (Mp np A (a.asg 0) s s') λx=>af (.inr x)
   |ex=>obind (K ex s') λr=>af (.inl r)) λx=>(match Hq A (a.asg 0) s x with|some s'=>pn np con b7 inert b s' K|none=>ah)
 |.cond c a b,s,K=>match s.e.get c with
  |some (.f .bool t)=>bcase t (pn np con b7 inert a s K) (pn np con b7 inert b s K)
  |some .anyb=>FL (pn np con b7 inert a s K) (pn np con b7 inert b s K)
  |_=>ah
 |.block id b,s,K=>pn np con b7 inert b s λex s'=>match ex with
  |.exit i=>if aC i id then K .normal s' else K (.exit i) s'
  |ex=>K ex s'
 |.jblock A id b,s,K=>jn (pn np con b7 inert b s λex s'=>match ex with
   |.normal=>obind (Mp np A (b.asg 0) s s') λx=>af (.inr x)
   |.exit i=>if aC i id then obind (Mp np A (b.asg 0) s s') λx=>af (.inr x) else obind (K (.exit i) s') λr=>af (.inl r)
   |.ret=>obind (K .ret s') λr=>af (.inl r)) λx=>(match Hq A (b.asg 0) s x with|some s'=>K .normal s'|none=>ah)
 |.loop A b,s,K=>obind (Mp np A (b.asg 0) s s) λx=>iter (λx=>match Hq A (b.asg 0) s x with
   |some s'=>pn np con b7 inert b s' λex s'=>(match ex with
    |.normal=>obind (Mp np A (b.asg 0) s s') λy=>af (.inl y)
    |ex=>obind (K ex s') λr=>af (.inr r))
   |none=>ah) x
 |.exit id,s,K=>K (.exit id) s
 |.ret,s,K=>K .ret s
 |.defer f caps t,s,K=>match F_ s.e caps with
  |some l=>if inert f then K .normal ⟨s.e.set t (af (.clo f l)),s.h,s.nx⟩ else ah
  |none=>ah
 |.adj l c,s,K=>match ZO s l with|some s'=>pn np con b7 inert c s' K|none=>ah
 |.split k off lo n c,s,K=>match ac6 s k off with
  |some (kd,v)=>spl v (λi=>match UK s k off kd (aO i) with|some s'=>pn np con b7 inert c s' K|none=>ah) lo n
  |none=>ah
 |.unl n b,s,K=>af4 (λs K=>pn np con b7 inert b s K) n s K
 |.bad,_,_=>ah
def Lj:Nat->List TV->iU
 |_,[]=>PT.leaf
 |k,x::r=>(Lj (k+1) r).set k (af x)
def rvT (s:TS):RV->Option TV
 |.tmp t=>s.e.get t
 |.cell a sz ag=>match s.e.get a with
  |some (.ptr id off)=>(match s.h.get id with|some (.cells _ l)=>UG l off sz ag|_=>ah)
  |_=>ah
def UM (s:TS):List RV->Option (List TV)
 |[]=>af []
 |x::r=>match rvT s x with|some v=>(match UM s r with|some l=>af (v::l)|none=>ah)|none=>ah
structure FT where
 pre:Tm
 post:Tm
 hints:PT aek
def ab1 (con:FuncId->Option cq) (b7:TypeId->Option Ty) (inert:FuncId->Bool) (F:Option SF) (D:FT) (x:D.pre.ty.den):Option D.post.ty.den:=
 match F with
 |some I=>(match Dj D.pre x with
  |some (args,h)=>if eO args.length I.nt&&eO D.pre.bs.length D.post.bs.length then
    pn D.pre.bs.length con b7 inert (D7 D.hints I.code 0).1 ⟨Lj 0 args,h,D.pre.bs.length⟩ λex s=>(match ex with
    |.exit _=>ah
    |_=>(match UM s I.res with
     |some l=>(match EW D.pre.bs.length D.post l s.h with
      |some ⟨y,_,_,_⟩=>(match Dj D.post y with|some _=>af y|none=>ah)
      |none=>ah)
     |none=>ah)) else ah
  |none=>ah)
 |none=>ah
abbrev aM:Ty:=(.int .i64)
abbrev kE:Ty:=(.st (.pr .str (.pr aM (.pr aM (.pr .bool aM)))))
abbrev rY:Ty:=(.st (.pr .str .bool))
abbrev lZ:Ty:=(.st (.pr .str aM))
abbrev o7:Ty:=(.st (.pr aM (.pr aM aM)))
abbrev l7:Ty:=(.st (.pr (.sl kE) (.pr (.sl rY) (.pr (.sl lZ) (.pr (.sl .str) (.pr (.sl .str) (.sl o7)))))))
abbrev jY:Ty:=(.sl (.sl aM))
abbrev e_:Ty:=(.st (.pr aM (.pr (.sl aM) (.pr jY aM))))
abbrev rf:Ty:=(.st (.pr aM (.pr aM (.pr aM (.pr aM (.pr aM aM))))))
abbrev dZ:Ty:=(.st (.pr aM (.sl aM)))
abbrev ql:Ty:=(.sl .bool)
abbrev ib:Ty:=(.st (.pr aM (.pr aM .bool)))
abbrev H3:Ty:=(.st (.pr (.sl dZ) (.pr aM (.pr ql (.sl ib)))))
abbrev gA:Ty:=(.st (.pr aM (.pr aM (.pr aM (.pr aM (.pr aM (.pr (.sl aM) (.sl aM))))))))
abbrev Hm:Ty:=(.st (.pr aM (.pr aM (.pr .str (.pr aM (.pr aM .str))))))
abbrev tm:Ty:=(.st (.pr .str (.pr aM (.pr (.sl .str) (.sl .sm)))))
abbrev Oc:Ty:=(.st (.pr (.sl Hm) (.sl tm)))
abbrev xq:Ty:=(.st (.pr aM (.sl rf)))
abbrev uZ:Ty:=(.st (.pr l7 (.sl xq)))
abbrev ww:Ty:=(.st (.pr H3 (.pr (.sl aM) (.pr (.sl aM) (.sl e_)))))
abbrev iV:Ty:=(.st (.pr H3 (.pr (.sl aM) (.pr (.sl aM) (.sl aM)))))
abbrev Em:Ty:=(.sl (.int .u8))
abbrev ze:Ty:=(.st (.pr Em aM))
abbrev iN:Ty:=(.st (.pr aM aM))
abbrev ou:Ty:=(.st (.pr l7 (.sl gA)))
abbrev TW:=(ζ×Int×Int×Bool×Int)
abbrev gP:=(List TW)
abbrev gz:=(List (ζ×Bool))
abbrev fA:=(ζ×Int)
abbrev cj:=(List ζ)
abbrev dj:=(gP×gz×(List fA)×cj×cj×List π)
abbrev rX:=(gP×gz×(List fA)×cj×cj×(List π)×cj×Int×Int)
abbrev gH:=(List (Int×η))
abbrev dz:=(Int×Int×Bool)
abbrev pm:=(gH×Int×θ×List dz)
abbrev um:=(Int×η×(List η)×Int)
abbrev jX:=(ω)
abbrev gj:=(Int×Int×Int×Int×Int×η×η)
abbrev adu:=(Int×Int×ζ×Int×Int×ζ)
abbrev sx:=(List adu)
abbrev sw:=(ζ×Int×cj×List Sx)
abbrev zf:=(Int×Int×Bool×Bool×Bool×Bool)
abbrev Ak:=(dj×List (Int×List jX))
abbrev wn:=(υ)
abbrev eL:=(pm×η×η×η)
abbrev fD:=(η×Int)
abbrev xo:=(pm×η×η×List um)
abbrev HW:=(Int×Int×ζ×ζ×Int×Int×ζ)
abbrev rh:=(sx×(List sw)×Int)
abbrev TX:=(Bool×List ζ)
abbrev Ya23:=(Int×Int×um×um×Int×η×(List η)×Int)
abbrev Ya24:=(um×Int×Int×um×Int×η×(List η)×Int)
abbrev Ya25:=(um×um×Int×Int×Int×η×(List η)×Int)
abbrev adw:=((List Sx)×zf×fD×Bool×List ζ)
abbrev Ya27:=(Int×Int×um×Int×η×(List η)×Int)
abbrev Ya28:=(um×Int×Int×Int×η×(List η)×Int)
abbrev Ya29:=(Int×Int×Int×η×(List η)×Int)
abbrev ZQ:=(Int×zf×fD×Bool×List ζ)
abbrev adv:=(Sx×zf×fD×Bool×List ζ)
abbrev ah8:=(ν×rh×(Bool×List Sx)×cj×List ζ)
abbrev MQ:=(Sx×rX×List jX)
abbrev Ej:=(xo×gj×Bool)
abbrev adt:=((Sx×Int×Int×Int)×rX×List jX)
abbrev ah7:=(ν×zf×fD×Bool×List ζ)
abbrev ah6:=(fA×zf×fD×Bool×List ζ)
abbrev ZP:=(zf×fD×TX×List Sx)
abbrev ah5:=(Xp×zf×fD×Bool×List ζ)
abbrev Ya42:=(um×um×um×Int×Int)
abbrev ads:=((List Sx)×rX×List jX)
abbrev aY {α:Type} (l:List α):Int:=aO (al l)
abbrev cF (n:Int):Int:=bk .i64 (n+1)
abbrev aF {R α:Type} (x:α):Option (R⊕α):=af (bP x)
abbrev cK {R α:Type} (x:R):Option (R⊕α):=af (lD x)
abbrev bF {R:Type} (T:Ty) (l:List T.den) (j:Int) (k:T.den->Option R):Option R:=chk (eX j (al l)) λ_=>lt (aJ (T:=T) l j) k
abbrev kl {R:Type} (T:Ty) (l:List T.den) (j:Int) (k:T.den->Option R):Option R:=chk (eX j (al l)) λ_=>chk (eX j (al l)) λ_=>lt (aJ (T:=T) l j) k
abbrev tO {R α:Type} (j:Int) (l:List α) (k:Option R):Option R:=chk (eX j (al l)) λ_=>k
abbrev bB {R:Type} (b:Bool) (k:Option R):Option R:=chk b λ_=>k
abbrev bd {R:Type} (a b:Int) (t f:Option R):Option R:=bcase (decide (a=b)) t f
abbrev iR {R:Type} (a b:Int) (t f:Option R):Option R:=bcase (!decide (a=b)) t f
abbrev bz {R:Type} (a b:Int) (t f:Option R):Option R:=bcase (fV a b) t f
abbrev iT {R:Type} (a b:Int) (t f:Option R):Option R:=bcase (c6 a b) t f
def ck {R:Type} (b:Bool) (k:Option R):Option R:=chk b λ_=>chk b λ_=>k
def eh (s:Sx):Sx:=nY (Sx.op s,Sx.line s,Sx.name s,Sx.arg s,Sx.index s,d_ (Xp.op (Sx.expr s),Xp.n (Sx.expr s),Xp.name (Sx.expr s),Xp.l (Sx.expr s)),Sx.body s,Sx.els s)
def kA (x:Unit):Option cj:=
 (af ([[118,97,114],[118,111,108,97,116,105,108,101],[109,117,116,101,120],[114,119,108,111,99,107],[99,111,110,100],[102,117,116,117,114,101],[116,104,114,101,97,100],[105,102],[101,108,115,101],[119,104,105,108,101],[108,111,99,107],[114,101,97,100],[119,114,105,116,101],[116,114,97,110,115,97,99,116,105,111,110],[97,116,111,109,105,99],[119,97,105,116],[110,111,116,105,102,121],[110,111,116,105,102,121,97,108,108],[115,112,97,119,110],[106,111,105,110],[115,101,116],[103,101,116]]))
def jL (x:ζ):Option (Bool):=
 (obind (kA ()) λJ=>(iter (σ:=Int) (λI=>(bz I (aY J) (bF (.str) J I λM=>(bcase (decide ((M:ζ)=x)) (aF ai) (cK (cF I)))) (aF aj))) 0))
def lB (x:Int):Option (Bool):=
 (jn (α:=Bool) (iT 97 x (iT x 122 (aF ai) (iT 65 x (aF (c6 x 90)) (aF aj))) (iT 65 x (aF (c6 x 90)) (aF aj))) λI=>(af I))
def rI (x:Int):Option (Bool):=
 (jn (α:=Bool) (iT 48 x (aF (c6 x 57)) (aF aj)) λI=>(af I))
def pE (x:Int):Option (Bool):=
 (jn (α:=Bool) (obind (lB x) λJ=>(bcase J (aF ai) (obind (rI x) λI=>(bcase I (aF ai) (aF (decide ((x:Int)=95))))))) λM=>(af M))
def fw (x:ζ):Option (Bool):=
 (jn (α:=Bool) (bz (aY x) 1 (aF ai) (bz 12 (aY x) (aF ai) (tO 0 x (obind (lB (AL x 0)) λU=>(bcase (!U) (aF ai) (obind (jL x) λM=>(aF M))))))) λY=>(bcase Y (af aj) (iter (σ:=Int) (λI=>(bz I (aY x) (tO I x (obind (pE (AL x I)) λJ=>(bcase (!J) (aF aj) (cK (cF I))))) (aF ai))) 0)))
def f_ (x:Bool):Option (Int):=
 (bcase x (af 1) (af 0))
def uG (x:ν):Option (Int×Bool):=
 (bd x.1 4 (af ((bk .i64 (0-x.2)),ai)) (bd x.1 5 (obind (f_ (decide ((x.2:Int)=0))) λI=>(af (I,ai))) (af (0,aj))))
def sF (x:π):Option (Int×Bool):=
 (bd x.1 6 (af ((bk .i64 (x.2.1+x.2.2)),ai)) (bd x.1 7 (af ((bk .i64 (x.2.1-x.2.2)),ai)) (bd x.1 8 (af ((bk .i64 (x.2.1*x.2.2)),ai)) (bd x.1 9 (bd x.2.2 0 (af (0,ai)) (bB (!decide ((x.2.2:Int)=0)) (af ((bk .i64 (Int.tdiv x.2.1 x.2.2)),ai)))) (bd x.1 10 (bd x.2.2 0 (af (0,ai)) (bB (!decide ((x.2.2:Int)=0)) (af ((Ar x.2.1 x.2.2),ai)))) (bd x.1 11 (obind (f_ (decide ((x.2.1:Int)=x.2.2))) λy1=>(af (y1,ai))) (bd x.1 12 (obind (f_ (!decide ((x.2.1:Int)=x.2.2))) λy2=>(af (y2,ai))) (bd x.1 13 (obind (f_ (fV x.2.1 x.2.2)) λy3=>(af (y3,ai))) (bd x.1 14 (obind (f_ (c6 x.2.1 x.2.2)) λy4=>(af (y4,ai))) (bd x.1 15 (obind (f_ (fV x.2.2 x.2.1)) λy5=>(af (y5,ai))) (bd x.1 16 (obind (f_ (c6 x.2.2 x.2.1)) λZ=>(af (Z,ai))) (bd x.1 17 (jn (α:=Int×Bool) (iR x.2.1 0 (obind (f_ (!decide ((x.2.2:Int)=0))) λY=>(aF (Y,ai))) (obind (f_ aj) λU=>(aF (U,ai)))) λx7=>(af x7)) (bd x.1 18 (jn (α:=Int×Bool) (iR x.2.1 0 (obind (f_ ai) λJ=>(aF (J,ai))) (obind (f_ (!decide ((x.2.2:Int)=0))) λI=>(aF (I,ai)))) λM=>(af M)) (af (0,aj)))))))))))))))
def rG (x:ν):Option (Int):=
 (bz x.2 1 (af 0) (bB (!decide ((x.2:Int)=0)) (jn (α:=Int) (bz (Ar x.1 x.2) 0 (aF (bk .i64 ((Ar x.1 x.2)+x.2))) (aF (Ar x.1 x.2))) λI=>(af I))))
def mz (x:Int):Option (Int):=
 (jn (α:=Bool) (bd x 1 (aF ai) (aF (decide ((x:Int)=2)))) λM=>(bcase M (af 0) (jn (α:=Bool) (iT 3 x (aF (c6 x 5)) (aF aj)) λJ=>(bcase J (af 1) (jn (α:=Bool) (iT 6 x (aF (c6 x 18)) (aF aj)) λI=>(bcase I (af 2) (af (-1))))))))
def mf (rr02_ShapedExpr:Xp->Option (Bool)) (x:Xp):Option (Bool):=
 (jn (α:=Bool×Xp) (bd (Xp.op x) 2 (aF (ai,d_ ((Xp.op x),(Xp.n x),(Xp.name x),(Xp.l x)))) (aF ((decide (((Xp.op x):Int)=3)),d_ ((Xp.op x),(Xp.n x),(Xp.name x),(Xp.l x))))) λI=>(jn (α:=Bool×Xp) (obind (mz (Xp.op I.2)) λy3=>(iR y3 (aO (al (Xp.l I.2))) (aF (ai,d_ ((Xp.op I.2),(Xp.n I.2),(Xp.name I.2),(Xp.l I.2)))) (bcase ((I.1==(!decide (((Xp.name I.2):ζ)=([])))) !=ai) (aF (ai,d_ ((Xp.op I.2),(Xp.n I.2),(Xp.name I.2),(Xp.l I.2)))) (bcase I.1 (obind (fw (Xp.name I.2)) λZ=>(bcase (!Z) (aF (ai,d_ ((Xp.op I.2),(Xp.n I.2),(Xp.name I.2),(Xp.l I.2)))) (bz (Xp.n I.2) 0 (aF (ai,d_ ((Xp.op I.2),(Xp.n I.2),(Xp.name I.2),(Xp.l I.2)))) (iR (Xp.op I.2) 1 (aF ((!decide (((Xp.n I.2):Int)=0)),d_ ((Xp.op I.2),(Xp.n I.2),(Xp.name I.2),(Xp.l I.2)))) (aF (aj,d_ ((Xp.op I.2),(Xp.n I.2),(Xp.name I.2),(Xp.l I.2)))))))) (bz (Xp.n I.2) 0 (aF (ai,d_ ((Xp.op I.2),(Xp.n I.2),(Xp.name I.2),(Xp.l I.2)))) (iR (Xp.op I.2) 1 (aF ((!decide (((Xp.n I.2):Int)=0)),d_ ((Xp.op I.2),(Xp.n I.2),(Xp.name I.2),(Xp.l I.2)))) (aF (aj,d_ ((Xp.op I.2),(Xp.n I.2),(Xp.name I.2),(Xp.l I.2)))))))))) λM=>(bcase M.1 (af aj) (iter (σ:=Int×Xp) (λJ=>(bz J.1 (aO (al (Xp.l J.2))) (bF (.ex) (Xp.l J.2) J.1 λU=>(obind (rr02_ShapedExpr U) λY=>(bcase (!Y) (aF aj) (cK ((cF J.1),d_ ((Xp.op J.2),(Xp.n J.2),(Xp.name J.2),(Xp.l J.2))))))) (aF ai))) (0,d_ ((Xp.op M.2),(Xp.n M.2),(Xp.name M.2),(Xp.l M.2)))))))
def h_:Nat->Xp->Option (Bool)
 |0,_=>ah
 |n+1,x=>mf (h_ n) x
theorem sQ (n:Nat) (x:Xp):h_ (n+1) x=mf (h_ n) x:=rfl
def jh (x:Xp):Option (Bool):=h_ fuel x
def pD (x:Xp):Option (Bool):=
 (jn (α:=Bool) (bd (Xp.op x) 0 (bd (Xp.n x) 0 (bcase (decide (((Xp.name x):ζ)=([]))) (aF (decide (((aO (al (Xp.l x))):Int)=0))) (aF aj)) (aF aj)) (aF aj)) λI=>(af I))
def kg (rr02_ShapedStmt:Sx->Option (Bool)) (rr02_ShapedStmts:(List Sx)->Option (Bool)) (x:Sx):Option (Bool):=
 (jn (α:=Bool×Sx) (bz (Sx.op x) 1 (aF (ai,eh x)) (aF ((fV 15 (Sx.op x)),eh x))) λx1=>(bcase x1.1 (af aj) (jn (α:=Bool×Sx) (bd (Sx.op x1.2) 2 (aF (ai,eh x1.2)) (bd (Sx.op x1.2) 3 (aF (ai,eh x1.2)) (bd (Sx.op x1.2) 7 (aF (ai,eh x1.2)) (aF ((decide (((Sx.op x1.2):Int)=8)),eh x1.2))))) λY=>(jn (α:=Bool×Sx) (bcase Y.1 (bcase (!decide (((Sx.name Y.2):ζ)=([]))) (aF (ai,eh Y.2)) (bcase (!Y.1) (obind (fw (Sx.name Y.2)) λy4=>(aF ((!y4),eh Y.2))) (aF (aj,eh Y.2)))) (bcase (!Y.1) (obind (fw (Sx.name Y.2)) λy5=>(aF ((!y5),eh Y.2))) (aF (aj,eh Y.2)))) λU=>(bcase U.1 (af aj) (jn (α:=Bool×Sx) (bd (Sx.op U.2) 15 (obind (fw (Sx.arg U.2)) λy7=>(bcase (!y7) (aF (ai,eh U.2)) (iR (Sx.op U.2) 15 (aF ((!decide (((Sx.arg U.2):ζ)=([]))),eh U.2)) (aF (aj,eh U.2))))) (iR (Sx.op U.2) 15 (aF ((!decide (((Sx.arg U.2):ζ)=([]))),eh U.2)) (aF (aj,eh U.2)))) λM=>(bcase M.1 (af aj) (jn (α:=Bool×Sx) (bz 1 (aO (al (Sx.index M.2))) (aF (ai,eh M.2)) (iR (Sx.op M.2) 1 (bz 0 (aO (al (Sx.index M.2))) (aF (ai,eh M.2)) (bd (aO (al (Sx.index M.2))) 1 (bF (.ex) (Sx.index M.2) 0 λz9=>(obind (jh z9) λy10=>(aF ((!y10),eh M.2)))) (aF (aj,eh M.2)))) (bd (aO (al (Sx.index M.2))) 1 (bF (.ex) (Sx.index M.2) 0 λz11=>(obind (jh z11) λy12=>(aF ((!y12),eh M.2)))) (aF (aj,eh M.2))))) λx8=>(bcase x8.1 (af aj) (jn (α:=Bool×Sx) (bd (Sx.op x8.2) 1 (aF (ai,eh x8.2)) (bd (Sx.op x8.2) 2 (aF (ai,eh x8.2)) (bd (Sx.op x8.2) 3 (aF (ai,eh x8.2)) (aF ((decide (((Sx.op x8.2):Int)=14)),eh x8.2))))) λI=>(jn (α:=Bool×Sx) (bcase I.1 (obind (jh (d_ ((Xp.op (Sx.expr I.2)),(Xp.n (Sx.expr I.2)),(Xp.name (Sx.expr I.2)),(Xp.l (Sx.expr I.2))))) λy15=>(bcase (!y15) (aF (ai,eh I.2)) (bcase (!I.1) (obind (pD (d_ ((Xp.op (Sx.expr I.2)),(Xp.n (Sx.expr I.2)),(Xp.name (Sx.expr I.2)),(Xp.l (Sx.expr I.2))))) λy16=>(aF ((!y16),eh I.2))) (aF (aj,eh I.2))))) (bcase (!I.1) (obind (pD (d_ ((Xp.op (Sx.expr I.2)),(Xp.n (Sx.expr I.2)),(Xp.name (Sx.expr I.2)),(Xp.l (Sx.expr I.2))))) λy17=>(aF ((!y17),eh I.2))) (aF (aj,eh I.2)))) λZ=>(bcase Z.1 (af aj) (jn (α:=Bool×Sx) (iT 2 (Sx.op Z.2) (aF ((c6 (Sx.op Z.2) 8),eh Z.2)) (aF (aj,eh Z.2))) λJ=>(jn (α:=Bool×Sx) (bcase (!J.1) (bz 0 (aO (al (Sx.body J.2))) (aF (ai,eh J.2)) (iR (Sx.op J.2) 2 (aF ((fV 0 (aO (al (Sx.els J.2)))),eh J.2)) (aF (aj,eh J.2)))) (iR (Sx.op J.2) 2 (aF ((fV 0 (aO (al (Sx.els J.2)))),eh J.2)) (aF (aj,eh J.2)))) λx19=>(bcase x19.1 (af aj) (jn (α:=Bool) (obind (rr02_ShapedStmts (Sx.body x19.2)) λy21=>(bcase y21 (obind (rr02_ShapedStmts (Sx.els x19.2)) λy22=>(aF y22)) (aF aj))) λx20=>(af x20)))))))))))))))))
def jD (rr02_ShapedStmt:Sx->Option (Bool)) (rr02_ShapedStmts:(List Sx)->Option (Bool)) (x:List Sx):Option (Bool):=
 (iter (σ:=Int) (λI=>(bz I (aY x) (tO I x (obind (rr02_ShapedStmt (aJ (T:=.sm) x I)) λJ=>(bcase (!J) (aF aj) (cK (cF I))))) (aF ai))) 0)
mutual
def eD:Nat->Sx->Option (Bool)
 |0,_=>ah
 |n+1,x=>kg (eD n) (dI n) x
def dI:Nat->(List Sx)->Option (Bool)
 |0,_=>ah
 |n+1,x=>jD (eD n) (dI n) x
end
theorem zN (n:Nat) (x:Sx):eD (n+1) x=kg (eD n) (dI n) x:=rfl
theorem y_ (n:Nat) (x:List Sx):dI (n+1) x=jD (eD n) (dI n) x:=rfl
def nW (x:List Sx):Option (Bool):=dI fuel x
def ka (x:Int×Int×ζ×Int×Int×ζ):Option (Bool):=
 (jn (α:=Bool×Int×Int×ζ×Int×Int×ζ) (bz x.1 1 (aF (ai,x)) (bz 6 x.1 (aF (ai,x)) (obind (fw x.p2) λU=>(bcase (!U) (aF (ai,x)) (bz x.p3 0 (aF (ai,x)) (iR x.1 1 (aF ((!decide ((x.p3:Int)=0)),x)) (aF (aj,x)))))))) λI=>(bcase I.1 (af aj) (jn (α:=Bool×Int×Int×ζ×Int×Int×ζ) (bd I.2.1 5 (obind (fw I.q6) λM=>(bcase (!M) (aF (ai,I.2)) (iR I.2.1 5 (aF ((!decide ((I.q6:ζ)=([]))),I.2)) (aF (aj,I.2))))) (iR I.2.1 5 (aF ((!decide ((I.q6:ζ)=([]))),I.2)) (aF (aj,I.2)))) λJ=>(bcase J.1 (af aj) (jn (α:=Bool) (bz (-9223372036854775808) J.p5 (bd J.p5 0 (aF ai) (bd J.2.1 1 (aF ai) (aF (decide ((J.2.1:Int)=2))))) (aF aj)) λY=>(af Y))))))
def pZ (x:sx×List sw):Option (Bool):=
 (iter (σ:=Int×sx×List sw) (λM=>(bz M.1 (aY M.2.1) (bF Hm M.2.1 M.1 λz2=>(obind (ka z2) λy3=>(bcase (!y3) (aF aj) (cK ((cF M.1),M.2))))) (obind (iter (σ:=Int×sx×List sw) (λJ=>(bz J.1 (aY J.2.2) (bF tm J.2.2 J.1 λz5=>(iter (σ:=Int×(sx×List sw)×ζ×Int×cj×List Sx) (λI=>(bz I.1 (aY I.p4) (bF (.str) I.p4 I.1 λz7=>(obind (fw z7) λy8=>(bcase (!y8) (aF (bP aj)) (cK ((cF I.1),I.2))))) (obind (jn (α:=Bool×sx×List sw) (obind (fw I.p2) λY=>(bcase (!Y) (aF (ai,I.2.1)) (obind (nW I.q5) λU=>(aF ((!U),I.2.1))))) λZ=>(bcase Z.1 (aF aj) (cK ((cF J.1),Z.2)))) λr=>af (bP r)))) (0,J.2,z5))) (aF (fV 0 (aY J.2.2))))) (0,M.2)) λr=>af (bP r)))) (0,x))
def jd (x:cj×ζ):Option (Int):=
 (iter (σ:=Int) (λI=>(bz I (aY x.1) (bF (.str) x.1 I λJ=>(bcase (decide ((J:ζ)=x.2)) (aF I) (cK (cF I)))) (aF (-1)))) 0)
def hZ (x:sx×ζ):Option (Int):=
 (iter (σ:=Int) (λI=>(bz I (aY x.1) (bF Hm x.1 I λJ=>(bcase (decide ((J.2.2.1:ζ)=x.2)) (aF I) (cK (cF I)))) (aF (-1)))) 0)
def gR (x:(List sw)×ζ):Option (Int):=
 (iter (σ:=Int) (λI=>(bz I (aY x.1) (bF tm x.1 I λJ=>(bcase (decide ((J.1:ζ)=x.2)) (aF I) (cK (cF I)))) (aF (-1)))) 0)
def pY (x:(sx×List sw)×Int×ζ):Option (Int):=
 (jn (α:=Bool×sx×List sw) (iT 0 x.2.1 (bz x.2.1 (aY x.1.2) (bF tm x.1.2 x.2.1 λz2=>(obind (jd (z2.2.2.1,x.2.2)) λy3=>(aF ((c6 0 y3),x.1)))) (aF (aj,x.1))) (aF (aj,x.1))) λI=>(bcase I.1 (af 8) (obind (hZ (I.2.1,x.2.2)) λM=>(bz M 0 (obind (gR (I.2.2,x.2.2)) λy5=>(iT 0 y5 (af 7) (af 0))) (tO M I.2.1 (lt ((aJ (T:=Hm) I.2.1 M).1) λJ=>(bd J 1 (bF Hm I.2.1 M λZ=>(iR Z.2.2.2.1 0 (af 2) (af 1))) (bd J 2 (af 1) (jn (α:=Bool×sx×List sw) (bd J 3 (aF ((decide ((J:Int)=3)),I.2)) (bd J 4 (aF ((decide ((J:Int)=4)),I.2)) (bd J 5 (aF ((decide ((J:Int)=5)),I.2)) (aF ((decide ((J:Int)=6)),I.2))))) λU=>(bcase U.1 (bF Hm U.2.1 M λY=>(af Y.1)) (af 9)))))))))))
def gF (x:(sx×List sw)×Int×ζ×Int×Int):Option (Int):=
 (obind (pY (x.1,x.2.1,x.p2)) λI=>(bd I 0 (af 5) (jn (α:=Bool) (iR I x.p3 (aF (!decide ((I:Int)=x.q4))) (aF aj)) λJ=>(bcase J (af 6) (af 0)))))
def uO (rr04_Nodes:Xp->Option ν) (x:Xp):Option ν:=
 (iter (σ:=(π)×Xp) (λI=>(bz I.1.2.2 (aO (al (Xp.l I.2))) (bF (.ex) (Xp.l I.2) I.1.2.2 λM=>(obind (rr04_Nodes M) λJ=>(cK (((bk .i64 (I.1.1+J.1)),(ir I.1.2.1 J.2),(cF I.1.2.2)),d_ ((Xp.op I.2),(Xp.n I.2),(Xp.name I.2),(Xp.l I.2)))))) (aF (I.1.1,(cF I.1.2.1))))) ((1,0,0),d_ ((Xp.op x),(Xp.n x),(Xp.name x),(Xp.l x))))
def nA:Nat->Xp->Option ν
 |0,_=>ah
 |n+1,x=>uO (nA n) x
theorem yI (n:Nat) (x:Xp):nA (n+1) x=uO (nA n) x:=rfl
def B_ (x:Xp):Option ν:=nA fuel x
def uN (rr04_names:((sx×List sw)×Int×Xp)->Option (Int)) (x:(sx×List sw)×Int×Xp):Option (Int):=
 (jn (α:=Int×(sx×List sw)×Xp) (bd (Xp.op x.2.2) 2 (obind (gF (x.1,x.2.1,(Xp.name x.2.2),8,1)) λy2=>(aF (y2,x.1,d_ ((Xp.op x.2.2),(Xp.n x.2.2),(Xp.name x.2.2),(Xp.l x.2.2))))) (bd (Xp.op x.2.2) 3 (obind (gF (x.1,x.2.1,(Xp.name x.2.2),2,2)) λZ=>(aF (Z,x.1,d_ ((Xp.op x.2.2),(Xp.n x.2.2),(Xp.name x.2.2),(Xp.l x.2.2))))) (aF (0,x.1,d_ ((Xp.op x.2.2),(Xp.n x.2.2),(Xp.name x.2.2),(Xp.l x.2.2)))))) λM=>(iter (σ:=(ν)×(sx×List sw)×Xp) (λI=>(jn (α:=Bool×(sx×List sw)×Xp) (bz I.1.2 (aO (al (Xp.l I.2.2))) (aF ((decide ((I.1.1:Int)=0)),I.2.1,d_ ((Xp.op I.2.2),(Xp.n I.2.2),(Xp.name I.2.2),(Xp.l I.2.2)))) (aF (aj,I.2.1,d_ ((Xp.op I.2.2),(Xp.n I.2.2),(Xp.name I.2.2),(Xp.l I.2.2))))) λJ=>(bcase J.1 (bF (.ex) (Xp.l J.2.2) I.1.2 λU=>(obind (rr04_names (J.2.1,x.2.1,U)) λY=>(cK ((Y,(cF I.1.2)),J.2.1,d_ ((Xp.op J.2.2),(Xp.n J.2.2),(Xp.name J.2.2),(Xp.l J.2.2)))))) (aF I.1.1)))) ((M.1,0),M.2.1,d_ ((Xp.op M.2.2),(Xp.n M.2.2),(Xp.name M.2.2),(Xp.l M.2.2)))))
def nz:Nat->((sx×List sw)×Int×Xp)->Option (Int)
 |0,_=>ah
 |n+1,x=>uN (nz n) x
theorem yH (n:Nat) (x:(sx×List sw)×Int×Xp):nz (n+1) x=uN (nz n) x:=rfl
def B9 (x:(sx×List sw)×Int×Xp):Option (Int):=nz fuel x
def my (x:(sx×List sw)×Int×Xp):Option (Int):=
 (obind (jh (d_ ((Xp.op x.2.2),(Xp.n x.2.2),(Xp.name x.2.2),(Xp.l x.2.2)))) λU=>(bcase (!U) (af 3) (obind (B_ (d_ ((Xp.op x.2.2),(Xp.n x.2.2),(Xp.name x.2.2),(Xp.l x.2.2)))) λJ=>(jn (α:=Bool×(sx×List sw)×Xp) (bz 24 J.1 (aF (ai,x.1,d_ ((Xp.op x.2.2),(Xp.n x.2.2),(Xp.name x.2.2),(Xp.l x.2.2)))) (aF ((fV 6 J.2),x.1,d_ ((Xp.op x.2.2),(Xp.n x.2.2),(Xp.name x.2.2),(Xp.l x.2.2))))) λI=>(bcase I.1 (af 2) (obind (B9 (I.2.1,x.2.1,d_ ((Xp.op I.2.2),(Xp.n I.2.2),(Xp.name I.2.2),(Xp.l I.2.2)))) λM=>(af M)))))))
def c8 (x:Bool):Option (Int):=
 (bcase x (af 7) (af 0))
def jb (x:ν):Option (Int):=
 (iR x.1 0 (af x.1) (af x.2))
def dV (x:(Int×Int×ζ)×rh×(Bool×List Sx)×cj×List ζ):Option (Bool×rh×(Bool×List Sx)×cj×List ζ):=
 (iter (σ:=Int×rh×(Bool×List Sx)×cj×List ζ) (λI=>(bz I.1 (aY I.p2.2) (kl (.sm) I.p2.2 I.1 λJ=>(jn (α:=Bool×rh×(Bool×List Sx)×cj×List ζ) (bd (Sx.op J) x.1.1 (bcase (decide ((x.1.2.2:ζ)=([]))) (aF (ai,I.2)) (aF ((decide (((Sx.name J):ζ)=x.1.2.2)),I.2))) (bd (Sx.op J) x.1.2.1 (bcase (decide ((x.1.2.2:ζ)=([]))) (aF (ai,I.2)) (aF ((decide (((Sx.name J):ζ)=x.1.2.2)),I.2))) (aF (aj,I.2)))) λM=>(bcase M.1 (aF (ai,M.2)) (cK ((cF I.1),M.2))))) (aF (aj,I.2)))) (0,x.2))
def mw (x:Sx×rh×(Bool×List Sx)×cj×List ζ):Option (Int×rh×(Bool×List Sx)×cj×List ζ):=
 (obind (dV ((7,7,[]),x.2)) λy1=>(bB (aC (al x.q4) (al y1.q4)&&(aC (al x.p3) (al y1.p3)&&(((x.p2.1==y1.p2.1)&&ai)&&aC (al x.p2.2) (al y1.p2.2)&&ai))) (obind (dV ((8,8,[]),y1.2)) λy2=>(bB (aC (al y1.q4) (al y2.q4)&&(aC (al y1.p3) (al y2.p3)&&(((y1.p2.1==y2.p2.1)&&ai)&&aC (al y1.p2.2) (al y2.p2.2)&&ai))) (obind (dV ((3,3,[]),y2.2)) λy3=>(bB (aC (al y2.q4) (al y3.q4)&&(aC (al y2.p3) (al y3.p3)&&(((y2.p2.1==y3.p2.1)&&ai)&&aC (al y2.p2.2) (al y3.p2.2)&&ai))) (bd (Sx.op x.1) 1 (bd (aO (al (Sx.index x.1))) 0 (obind (gF ((x.2.1.1,x.2.1.2.1),x.2.1.2.2,(Sx.name x.1),8,1)) λy4=>(obind (my ((x.2.1.1,x.2.1.2.1),x.2.1.2.2,d_ ((Xp.op (Sx.expr x.1)),(Xp.n (Sx.expr x.1)),(Xp.name (Sx.expr x.1)),(Xp.l (Sx.expr x.1))))) λy5=>(obind (jb (y4,y5)) λy6=>(af (y6,y3.2))))) (obind (gF ((x.2.1.1,x.2.1.2.1),x.2.1.2.2,(Sx.name x.1),2,2)) λy7=>(bF (.ex) (Sx.index x.1) 0 λz8=>(obind (my ((x.2.1.1,x.2.1.2.1),x.2.1.2.2,z8)) λy9=>(obind (my ((x.2.1.1,x.2.1.2.1),x.2.1.2.2,d_ ((Xp.op (Sx.expr x.1)),(Xp.n (Sx.expr x.1)),(Xp.name (Sx.expr x.1)),(Xp.l (Sx.expr x.1))))) λy10=>(obind (jb (y9,y10)) λy11=>(obind (jb (y7,y11)) λy12=>(af (y12,y3.2))))))))) (jn (α:=Bool×rh×(Bool×List Sx)×Sx×(sx×List sw)×cj×List ζ) (bd (Sx.op x.1) 2 (aF ((decide (((Sx.op x.1):Int)=2)),y3.2.1,y3.p2,eh x.1,(x.2.1.1,x.2.1.2.1),y3.q3)) (aF ((decide (((Sx.op x.1):Int)=3)),y3.2.1,y3.p2,eh x.1,(x.2.1.1,x.2.1.2.1),y3.q3))) λM=>(bcase M.1 (obind (my (M.p4,x.2.1.2.2,d_ ((Xp.op (Sx.expr M.p3)),(Xp.n (Sx.expr M.p3)),(Xp.name (Sx.expr M.p3)),(Xp.l (Sx.expr M.p3))))) λy14=>(af (y14,M.2.1,M.p2,M.q5))) (bd (Sx.op x.1) 4 (jn (α:=Int×rh×(Bool×List Sx)×cj×List ζ) (obind (gF (M.p4,x.2.1.2.2,(Sx.name M.p3),3,3)) λy16=>(bcase y1.1 (obind (c8 ai) λy17=>(obind (jb (y16,y17)) λy18=>(aF (y18,M.2.1,M.p2,M.q5)))) (obind (dV ((4,4,(Sx.name M.p3)),M.2.1,M.p2,M.q5)) λy19=>(bB (aC (al M.q6) (al y19.q4)&&(aC (al M.p5) (al y19.p3)&&(((M.p2.1==y19.p2.1)&&ai)&&aC (al M.p2.2) (al y19.p2.2)&&ai))) (obind (c8 y19.1) λy20=>(obind (jb (y16,y20)) λy21=>(aF (y21,y19.2)))))))) λx15=>(af x15)) (jn (α:=Bool×rh×(Bool×List Sx)×Sx×(sx×List sw)×cj×List ζ) (bd (Sx.op x.1) 5 (aF ((decide (((Sx.op x.1):Int)=5)),M.2.1,M.p2,eh M.p3,M.q4)) (aF ((decide (((Sx.op x.1):Int)=6)),M.2.1,M.p2,eh M.p3,M.q4))) λJ=>(bcase J.1 (jn (α:=Int×rh×(Bool×List Sx)×cj×List ζ) (obind (gF (J.p4,x.2.1.2.2,(Sx.name J.p3),4,4)) λy24=>(bcase y1.1 (obind (c8 ai) λy25=>(obind (jb (y24,y25)) λy26=>(aF (y26,J.2.1,J.p2,J.q5)))) (obind (dV ((5,6,(Sx.name J.p3)),J.2.1,J.p2,J.q5)) λy27=>(bB (aC (al J.q6) (al y27.q4)&&(aC (al J.p5) (al y27.p3)&&(((J.p2.1==y27.p2.1)&&ai)&&aC (al J.p2.2) (al y27.p2.2)&&ai))) (obind (c8 y27.1) λy28=>(obind (jb (y24,y28)) λy29=>(aF (y29,y27.2)))))))) λx23=>(af x23)) (bd (Sx.op x.1) 7 (obind (c8 y1.1) λy30=>(af (y30,J.2.1,J.p2,J.q5))) (bd (Sx.op x.1) 8 (jn (α:=Int×rh×(Bool×List Sx)×cj×List ζ) (bcase y1.1 (obind (c8 ai) λy32=>(aF (y32,J.2.1,J.p2,J.q5))) (obind (c8 y2.1) λy33=>(aF (y33,J.2.1,J.p2,J.q5)))) λx31=>(af x31)) (jn (α:=Bool×rh×(Bool×List Sx)×Sx×(sx×List sw)×cj×List ζ) (bd (Sx.op x.1) 9 (aF ((decide (((Sx.op x.1):Int)=9)),J.2.1,J.p2,eh J.p3,J.q4)) (bd (Sx.op x.1) 10 (aF ((decide (((Sx.op x.1):Int)=10)),J.2.1,J.p2,eh J.p3,J.q4)) (aF ((decide (((Sx.op x.1):Int)=11)),J.2.1,J.p2,eh J.p3,J.q4)))) λI=>(bcase I.1 (obind (gF (I.p4,x.2.1.2.2,(Sx.name I.p3),5,5)) λy35=>(iR y35 0 (af (y35,I.2.1,I.p2,I.q5)) (obind (hZ (I.p4.1,(Sx.name I.p3))) λy36=>(bF Hm I.p4.1 y36 λz37=>(obind (dV ((4,4,z37.2.2.2.2.2),I.2.1,I.p2,I.q5)) λy38=>(bB (aC (al I.q6) (al y38.q4)&&(aC (al I.p5) (al y38.p3)&&(((I.p2.1==y38.p2.1)&&ai)&&aC (al I.p2.2) (al y38.p2.2)&&ai))) (jn (α:=Int×rh×(Bool×List Sx)×cj×List ζ) (bcase y1.1 (obind (c8 ai) λy40=>(aF (y40,y38.2))) (bcase (!y38.1) (obind (c8 ai) λy41=>(aF (y41,y38.2))) (bd (Sx.op I.p3) 9 (obind (c8 y2.1) λy42=>(aF (y42,y38.2))) (obind (c8 aj) λy43=>(aF (y43,y38.2)))))) λx39=>(af x39)))))))) (bd (Sx.op x.1) 12 (obind (gF (I.p4,x.2.1.2.2,(Sx.name I.p3),7,7)) λy44=>(iR y44 0 (af (y44,I.2.1,I.p2,I.q5)) (obind (gR (I.p4.2,(Sx.name I.p3))) λy45=>(jn (α:=Bool×rh×(Bool×List Sx)×Sx×cj×List ζ) (bcase y1.1 (aF (ai,I.2.1,I.p2,eh I.p3,I.q5)) (bcase y2.1 (aF (ai,I.2.1,I.p2,eh I.p3,I.q5)) (bcase y3.1 (aF (ai,I.2.1,I.p2,eh I.p3,I.q5)) (bd y45 x.2.1.2.2 (aF (ai,I.2.1,I.p2,eh I.p3,I.q5)) (aF ((decide ((y45:Int)=0)),I.2.1,I.p2,eh I.p3,I.q5)))))) λU=>(bcase U.1 (af (7,U.2.1,U.p2,U.q4)) (obind (jd (U.p4,(Sx.name U.p3))) λy47=>(iT 0 y47 (af (8,U.2.1,U.p2,U.q4)) (bB (a_ (al U.p4+al ([(Sx.name U.p3)])) 16) (af (0,U.2.1,U.p2,(U.p4++([(Sx.name U.p3)])),U.q5)))))))))) (bd (Sx.op x.1) 13 (jn (α:=Int×rh×(Bool×List Sx)×cj×List ζ) (obind (gF (I.p4,x.2.1.2.2,(Sx.name I.p3),7,7)) λy49=>(bcase y1.1 (obind (c8 ai) λy50=>(obind (jb (y49,y50)) λy51=>(aF (y51,I.2.1,I.p2,I.q5)))) (bcase y2.1 (obind (c8 ai) λy52=>(obind (jb (y49,y52)) λy53=>(aF (y53,I.2.1,I.p2,I.q5)))) (obind (gR (I.p4.2,(Sx.name I.p3))) λy54=>(obind (c8 (decide ((y54:Int)=x.2.1.2.2))) λy55=>(obind (jb (y49,y55)) λy56=>(aF (y56,I.2.1,I.p2,I.q5)))))))) λx48=>(af x48)) (bd (Sx.op x.1) 14 (jn (α:=Int×rh×(Bool×List Sx)×Sx×(sx×List sw)×cj×List ζ) (obind (gF (I.p4,x.2.1.2.2,(Sx.name I.p3),6,6)) λy58=>(bcase y1.1 (obind (c8 ai) λy59=>(obind (jb (y58,y59)) λy60=>(aF (y60,I.2.1,I.p2,eh I.p3,I.q4)))) (obind (c8 y3.1) λy61=>(obind (jb (y58,y61)) λy62=>(aF (y62,I.2.1,I.p2,eh I.p3,I.q4)))))) λZ=>(jn (α:=Int×rh×(Bool×List Sx)×Sx×(sx×List sw)×cj×List ζ) (jn (α:=Bool×rh×(Bool×List Sx)×Sx×(sx×List sw)×cj×List ζ) (bd Z.1 0 (obind (jd (Z.q6,(Sx.name Z.p3))) λy65=>(aF ((c6 0 y65),Z.2.1,Z.p2,eh Z.p3,Z.q4))) (aF (aj,Z.2.1,Z.p2,eh Z.p3,Z.q4))) λx64=>(bcase x64.1 (aF (8,x64.2.1,x64.p2,eh x64.p3,x64.q4)) (aF (Z.1,x64.2.1,x64.p2,eh x64.p3,x64.q4)))) λY=>(bB (a_ (al Y.q6+al ([(Sx.name Y.p3)])) 16) (obind (my (Y.p4,x.2.1.2.2,d_ ((Xp.op (Sx.expr Y.p3)),(Xp.n (Sx.expr Y.p3)),(Xp.name (Sx.expr Y.p3)),(Xp.l (Sx.expr Y.p3))))) λy66=>(obind (jb (Y.1,y66)) λy67=>(af (y67,Y.2.1,Y.p2,Y.p5,(Y.q6++([(Sx.name Y.p3)]))))))))) (obind (gF (I.p4,x.2.1.2.2,(Sx.name I.p3),8,8)) λy68=>(obind (gF (I.p4,x.2.1.2.2,(Sx.arg I.p3),6,6)) λy69=>(obind (c8 y1.1) λy70=>(obind (jb (y69,y70)) λy71=>(obind (jb (y68,y71)) λy72=>(af (y72,I.2.1,I.p2,I.q5))))))))))))))))))))))))))
def mB (rr04_walk_all:((List Sx)×rh×(Bool×List Sx)×cj×List ζ)->Option ah8) (x:(List Sx)×rh×(Bool×List Sx)×cj×List ζ):Option ah8:=
 (iter (σ:=Int×rh×(Bool×List Sx)×cj×List ζ) (λU=>(bz U.1 (aY x.1) (bF (.sm) x.1 U.1 λZ=>(obind (mw (eh Z,U.2)) λY=>(bB (aC (al U.q4) (al U.q4)&&(aC (al U.p3) (al U.p3)&&(((U.p2.1==Y.p2.1)&&ai)&&aC (al U.p2.2) (al Y.p2.2)&&ai))) (jn (α:=Int×rh×Sx×(Bool×List Sx)×cj×List ζ) (bz 6 (bk .i64 ((aY Y.p2.2)+1)) (aF (2,Y.2.1,eh Z,Y.2.2)) (aF (Y.1,Y.2.1,eh Z,Y.2.2))) λI=>(iR I.1 0 (aF ((I.1,(Sx.line I.p2)),I.2.1,I.q3)) (bB (a_ (al I.p3.2+al ([nY (0,0,[],[],([]:List Xp),d_ (0,0,[],([]:List Xp)),([]:List Sx),([]:List Sx))])) 176) (ck (eX (aY I.p3.2) (al (I.p3.2++([nY (0,0,[],[],([]:List Xp),d_ (0,0,[],([]:List Xp)),([]:List Sx),([]:List Sx))])))) (obind (rr04_walk_all ((Sx.body I.p2),I.2.1,(I.p3.1,(cw (I.p3.2++([nY (0,0,[],[],([]:List Xp),d_ (0,0,[],([]:List Xp)),([]:List Sx),([]:List Sx))])) (aY I.p3.2) (eh I.p2))),I.q4)) λM=>(bB (aC (al I.q5) (al I.q5)&&(aC (al I.p4) (al I.p4)&&(((I.p3.1==I.p3.1)&&ai)&&aC (al (cw (I.p3.2++([nY (0,0,[],[],([]:List Xp),d_ (0,0,[],([]:List Xp)),([]:List Sx),([]:List Sx))])) (aY I.p3.2) (eh I.p2))) (al (cw (I.p3.2++([nY (0,0,[],[],([]:List Xp),d_ (0,0,[],([]:List Xp)),([]:List Sx),([]:List Sx))])) (aY I.p3.2) (eh I.p2)))&&ai))) (jn (α:=(ν)×rh×(Bool×List Sx)×cj×List ζ) (bd M.1.1 0 (obind (rr04_walk_all ((Sx.els I.p2),M.2)) λy7=>(bB (aC (al M.q4) (al M.q4)&&(aC (al M.p3) (al M.p3)&&(((M.p2.1==M.p2.1)&&ai)&&aC (al M.p2.2) (al M.p2.2)&&ai))) (aF y7))) (aF M)) λJ=>(bB (c6 0 (bk .i64 ((aY J.p2.2)-1))&&fV (bk .i64 ((aY J.p2.2)-1)) (al J.p2.2)) (iR J.1.1 0 (aF (J.1,J.2.1,(aj,(dF (aT (bk .i64 ((aY J.p2.2)-1))) J.p2.2)),J.q3)) (cK ((cF U.1),J.2.1,(aj,(dF (aT (bk .i64 ((aY J.p2.2)-1))) J.p2.2)),J.q3)))))))))))))) (aF ((0,0),U.2)))) (0,x.2))
def iG:Nat->((List Sx)×rh×(Bool×List Sx)×cj×List ζ)->Option ah8
 |0,_=>ah
 |n+1,x=>mB (iG n) x
theorem Ck (n:Nat) (x:(List Sx)×rh×(Bool×List Sx)×cj×List ζ):iG (n+1) x=mB (iG n) x:=rfl
def v8 (x:(List Sx)×rh×(Bool×List Sx)×cj×List ζ):Option ah8:=iG fuel x
def uP (rr04_Count:(List Sx)->Option (Int)) (x:List Sx):Option (Int):=
 (iter (σ:=ν) (λI=>(bz I.2 (aY x) (tO I.2 x (lt (Sx.body (aJ (T:=.sm) x I.2)) λM=>(obind (rr04_Count M) λY=>(tO I.2 x (lt (Sx.els (aJ (T:=.sm) x I.2)) λJ=>(obind (rr04_Count J) λU=>(cK ((bk .i64 ((bk .i64 (I.1+Y))+U)),(cF I.2))))))))) (aF I.1))) ((aY x),0))
def nB:Nat->(List Sx)->Option (Int)
 |0,_=>ah
 |n+1,x=>uP (nB n) x
theorem yJ (n:Nat) (x:List Sx):nB (n+1) x=uP (nB n) x:=rfl
def B' (x:List Sx):Option (Int):=nB fuel x
def rH (x:List adu):Option ν:=
 (iter (σ:=υ) (λI=>(bz I.q4 (aY x) (jn (α:=Int×Int×Int×Int) (bF Hm x I.q4 λJ=>(bB (c6 0 I.q4&&c6 I.q4 (al x)) (obind (hZ ((dF (aT I.q4) x),J.p2)) λy4=>(iT 0 y4 (cK (bP (4,J.2.1))) (bz 4 J.p3 (cK (bP (2,J.2.1))) (jn (α:=(Int×Int×Int×Int)×Int×Int×ζ×Int×Int×ζ) (jn (α:=Bool×Int×Int×ζ×Int×Int×ζ) (bd J.1 1 (aF ((decide ((J.1:Int)=1)),J)) (aF ((decide ((J.1:Int)=2)),J))) λY=>(bcase Y.1 (aF (((bk .i64 (I.1+(ir Y.p4 1))),I.2.1,I.p2,I.p3),Y.2)) (jn (α:=Bool×Int×Int×ζ×Int×Int×ζ) (bd J.1 3 (aF ((decide ((J.1:Int)=3)),Y.2)) (aF ((decide ((J.1:Int)=4)),Y.2))) λZ=>(bcase Z.1 (aF ((I.1,(cF I.2.1),I.p2,I.p3),Z.2)) (bd J.1 5 (aF ((I.1,I.2.1,(cF I.p2),I.p3),Z.2)) (aF ((I.1,I.2.1,I.p2,(cF I.p3)),Z.2))))))) λM=>(jn (α:=Bool×Int×Int×ζ×Int×Int×ζ) (bz 12 M.1.1 (aF (ai,M.2)) (bz 4 M.1.2.1 (aF (ai,M.2)) (bz 2 M.1.p2 (aF (ai,M.2)) (aF ((fV 2 M.1.q3),M.2))))) λU=>(bcase U.1 (cK (bP (2,U.p2))) (bd U.2.1 5 (bB (c6 0 I.q4&&c6 I.q4 (al x)) (obind (hZ ((dF (aT I.q4) x),U.q6)) λy9=>(bz y9 0 (cK (bP (5,U.p2))) (bF Hm x y9 λz10=>(iR z10.1 3 (cK (bP (6,U.p2))) (aF M.1)))))) (aF M.1)))))))))) λx2=>(cK (x2.1,x2.2.1,x2.p2,x2.q3,(cF I.q4)))) (aF (0,0)))) (0,0,0,0,0))
def nV (x:sx×List sw):Option ν:=
 (iter (σ:=Int×sx×List sw) (λJ=>(bz J.1 (aY J.2.2) (bF tm J.2.2 J.1 λY=>(jn (α:=Bool×(sx×List sw)×ζ×Int×cj×List Sx) (obind (hZ (J.2.1,Y.1)) λy4=>(iT 0 y4 (aF (ai,J.2,Y)) (bB (c6 0 J.1&&c6 J.1 (al J.2.2)) (obind (gR ((dF (aT J.1) J.2.2),Y.1)) λy5=>(aF ((c6 0 y5),J.2,Y)))))) λx3=>(bcase x3.1 (aF (4,x3.p3)) (cK ((cF J.1),x3.2.1))))) (obind (iter (σ:=Int×sx×List sw) (λU=>(bz U.1 (aY U.2.2) (bF tm U.2.2 U.1 λz7=>(bz 4 (aY z7.p2) (aF (2,z7.2.1)) (iter (σ:=Int×(sx×List sw)×ζ×Int×cj×List Sx) (λI=>(bz I.1 (aY I.p4) (bF (.str) I.p4 I.1 λZ=>(jn (α:=Bool×(sx×List sw)×ζ×Int×cj×List Sx) (obind (hZ (I.2.1.1,Z)) λy11=>(iT 0 y11 (aF (ai,I.2)) (obind (gR (I.2.1.2,Z)) λy12=>(iT 0 y12 (aF (ai,I.2)) (bB (c6 0 I.1&&c6 I.1 (al I.p4)) (obind (jd ((dF (aT I.1) I.p4),Z)) λy13=>(aF ((c6 0 y13),I.2)))))))) λM=>(bcase M.1 (aF (bP (4,M.p3))) (cK ((cF I.1),M.2))))) (aF (lD ((cF U.1),I.2.1))))) (0,U.2,z7)))) (aF (0,0)))) (0,J.2)) λr=>af (bP r)))) (0,x))
def fy (x:sx×List sw):Option ν:=
 (obind (pZ x) λy1=>(bcase (!y1) (af (3,0)) (obind (rH x.1) λY=>(iR Y.1 0 (af Y) (bz 4 (aY x.2) (af (2,0)) (obind (nV x) λU=>(iR U.1 0 (af U) (iter (σ:=(ν)×sx×List sw) (λJ=>(bz J.1.2 (aY J.2.2) (bF tm J.2.2 J.1.2 λz5=>(obind (B' z5.2.2.2) λy6=>(cK (((bk .i64 (J.1.1+y6)),(cF J.1.2)),J.2)))) (obind (bz 60 J.1.1 (af (2,0)) (iter (σ:=Int×(sx×List sw)×rh×(Bool×List Sx)×cj×List ζ) (λI=>(bz I.1 (aY I.2.1.2) (bF tm I.2.1.2 I.1 λZ=>(obind (v8 (Z.2.2.2,(I.p2.1,I.p2.2.1,I.1),I.q3)) λM=>(bB (aC (al I.q5) (al I.q5)&&(aC (al I.p4) (al I.p4)&&(((I.p3.1==I.p3.1)&&ai)&&aC (al I.p3.2) (al I.p3.2)&&ai))) (iR M.1.1 0 (aF M.1) (cK ((cF I.1),I.2.1,M.2)))))) (aF (0,0)))) (0,J.2,(J.2.1,J.2.2,0),(ai,([]:List Sx)),([]:List ζ),([]:List ζ)))) λr=>af (bP r)))) ((0,0),x)))))))))
def xV (rr06_sites:((Int×Int×List Sx)×List π)->Option (Int×List π)) (x:(Int×Int×List Sx)×List π):Option (Int×List π):=
 (iter (σ:=(ν)×List π) (λI=>(bz I.1.2 (aY x.1.2.2) (tO I.1.2 x.1.2.2 (lt (Sx.line (aJ (T:=.sm) x.1.2.2 I.1.2)) λJ=>(bB (a_ (al I.2+al ([(x.1.1,I.1.1,J)])) 24) (tO I.1.2 x.1.2.2 (lt (Sx.body (aJ (T:=.sm) x.1.2.2 I.1.2)) λZ=>(obind (rr06_sites ((x.1.1,(cF I.1.1),Z),(I.2++([(x.1.1,I.1.1,J)])))) λM=>(bB (aC (al (I.2++([(x.1.1,I.1.1,J)]))) (al (I.2++([(x.1.1,I.1.1,J)])))&&ai) (tO I.1.2 x.1.2.2 (lt (Sx.els (aJ (T:=.sm) x.1.2.2 I.1.2)) λY=>(obind (rr06_sites ((x.1.1,M.1,Y),M.2)) λU=>(bB (aC (al M.2) (al M.2)&&ai) (cK ((U.1,(cF I.1.2)),U.2))))))))))))) (aF (I.1.1,I.2)))) ((x.1.2.1,0),x.2))
def pM:Nat->((Int×Int×List Sx)×List π)->Option (Int×List π)
 |0,_=>ah
 |n+1,x=>xV (pM n) x
theorem HI (n:Nat) (x:(Int×Int×List Sx)×List π):pM (n+1) x=xV (pM n) x:=rfl
def Ja (x:(Int×Int×List Sx)×List π):Option (Int×List π):=pM fuel x
def ko (x:gz×ζ):Option (Int):=
 (iter (σ:=Int) (λI=>(bz I (aY x.1) (bF rY x.1 I λJ=>(bcase (decide ((J.1:ζ)=x.2)) (aF I) (cK (cF I)))) (aF (-1)))) 0)
def lA (x:dj×ζ):Option (Int):=
 (iter (σ:=Int×gP×gz×(List fA)×cj×cj×List π) (λI=>(bz I.1 (aY I.2.1) (bF kE I.2.1 I.1 λJ=>(bcase (decide ((J.1:ζ)=x.2)) (aF I.1) (cK ((cF I.1),I.2)))) (aF (-1)))) (0,x.1))
def uF (x:sx×List sw):Option dj:=
 (obind (fy x) λy1=>(iR y1.1 0 (af (([]:List TW),([]:List (ζ×Bool)),([]:List fA),([]:List ζ),([]:List ζ),([]:List π))) (iter (σ:=Int×(sx×List sw)×gP×gz×(List fA)×List ζ) (λU=>(bz U.1 (aY U.2.1.1) (bF Hm U.2.1.1 U.1 λY=>(jn (α:=(sx×List sw)×gP×gz×(List fA)×List ζ) (jn (α:=Bool×(sx×List sw)×adu×gP×gz×(List fA)×List ζ) (bd Y.1 1 (aF ((decide ((Y.1:Int)=1)),U.2.1,Y,U.2.2)) (aF ((decide ((Y.1:Int)=2)),U.2.1,Y,U.2.2))) λx5=>(bcase x5.1 (iter (σ:=Int×(sx×List sw)×adu×gP×gz×(List fA)×List ζ) (λJ=>(bz J.1 (ir J.p2.p3 1) (bB (a_ (al J.p3+al ([(J.p2.p2,J.1,J.p2.p3,(decide ((J.p2.1:Int)=2)),J.p2.p4)])) 48) (cK ((cF J.1),J.2.1,J.p2,(J.p3++([(J.p2.p2,J.1,J.p2.p3,(decide ((J.p2.1:Int)=2)),J.p2.p4)])),J.q4))) (aF (bP (J.2.1,J.q3))))) (0,x5.2)) (jn (α:=Bool×(sx×List sw)×adu×gP×gz×(List fA)×List ζ) (bd Y.1 3 (aF ((decide ((Y.1:Int)=3)),x5.2)) (aF ((decide ((Y.1:Int)=4)),x5.2))) λI=>(bcase I.1 (bB (a_ (al I.p4+al ([(I.p2.p2,(decide ((I.p2.1:Int)=4)))])) 24) (aF (I.2.1,I.p3,(I.p4++([(I.p2.p2,(decide ((I.p2.1:Int)=4)))])),I.q5))) (bd Y.1 5 (obind (ko (I.p4,I.p2.q5)) λy8=>(bB (a_ (al I.p5+al ([(I.p2.p2,y8)])) 24) (aF (I.2.1,I.p3,I.p4,(I.p5++([(I.p2.p2,y8)])),I.q6)))) (bB (a_ (al I.q6+al ([I.p2.p2])) 16) (aF (I.2.1,I.p3,I.p4,I.p5,(I.q6++([I.p2.p2])))))))))) λx4=>(cK ((cF U.1),x4)))) (obind (iter (σ:=Int×(sx×List sw)×gP×gz×(List fA)×cj×cj×List π) (λM=>(bz M.1 (aY M.2.1.2) (bF tm M.2.1.2 M.1 λZ=>(bB (a_ (al M.p6+al ([Z.1])) 16) (bF tm M.2.1.2 M.1 λz11=>(obind (Ja ((M.1,0,z11.2.2.2),M.q7)) λy12=>(bB (aC (al M.q7) (al M.q7)&&ai) (cK ((cF M.1),M.2.1,M.p2,M.p3,M.p4,M.p5,(M.p6++([Z.1])),y12.2))))))) (aF M.2.2))) (0,U.2.1,U.p2,U.p3,U.p4,U.q5,([]:List ζ),([]:List π))) λr=>af (bP r)))) (0,x,([]:List TW),([]:List (ζ×Bool)),([]:List fA),([]:List ζ)))))
def pA (x:gP×gz×(List fA)×cj×cj×List π):Option (cj×Bool):=
 (iter (σ:=Int×dj×List ζ) (λJ=>(bz J.1 (aY J.2.1.1) (jn (α:=Int×dj×List ζ) (bF kE J.2.1.1 J.1 λU=>(bB (a_ (al J.2.2+al ([U.1])) 16) (bd U.p2 0 (iR U.2.1 0 (cK (bP (([]:List ζ),aj))) (aF ((cF J.1),J.2.1,(J.2.2++([U.1]))))) (jn (α:=Bool×dj×cj×ζ×Int×Int×Bool×Int) (bz U.p2 1 (aF (ai,J.2.1,(J.2.2++([U.1])),U)) (bz 4 U.p2 (aF (ai,J.2.1,(J.2.2++([U.1])),U)) (aF ((fV (bk .i64 ((aY J.2.1.1)-J.1)) U.p2),J.2.1,(J.2.2++([U.1])),U)))) λx4=>(bcase x4.1 (cK (bP (([]:List ζ),aj))) (iter (σ:=Int×dj×cj×ζ×Int×Int×Bool×Int) (λM=>(bz M.1 M.p5 (bF kE M.2.1.1 (bk .i64 (J.1+M.1)) λZ=>(jn (α:=Bool×dj×cj×ζ×Int×Int×Bool×Int) (iR Z.2.1 M.1 (aF (ai,M.2)) (bcase (!decide ((Z.1:ζ)=M.p3)) (aF (ai,M.2)) (iR Z.p2 M.p5 (aF (ai,M.2)) (iR Z.q4 M.q7 (aF (ai,M.2)) (aF (Z.p3,M.2)))))) λx7=>(bcase x7.1 (aF (lD (bP (([]:List ζ),aj)))) (cK ((cF M.1),x7.2))))) (aF (bP ((bk .i64 (J.1+M.p5)),M.2.1,M.p2))))) (0,x4.2))))))) λx2=>(cK x2)) (obind (iter (σ:=Int×dj×List ζ) (λY=>(bz Y.1 (aY Y.2.1.2.1) (bF rY Y.2.1.2.1 Y.1 λz9=>(bB (a_ (al Y.2.2+al ([z9.1])) 16) (cK ((cF Y.1),Y.2.1,(Y.2.2++([z9.1])))))) (obind (iter (σ:=Int×dj×List ζ) (λI=>(bz I.1 (aY I.2.1.p2) (bF lZ I.2.1.p2 I.1 λz11=>(bB (a_ (al I.2.2+al ([z11.1])) 16) (cK ((cF I.1),I.2.1,(I.2.2++([z11.1])))))) (obind (bB (a_ (al I.2.2+al I.2.1.p3) 16) (bB (a_ (al (I.2.2++I.2.1.p3)+al I.2.1.p4) 16) (af (((I.2.2++I.2.1.p3)++I.2.1.p4),ai)))) λr=>af (bP r)))) (0,Y.2)) λr=>af (bP r)))) (0,J.2)) λr=>af (bP r)))) (0,x,([]:List ζ)))
def hY (x:gP×gz×(List fA)×cj×cj×List π):Option (Bool):=
 (jn (α:=Bool×gP×gz×(List fA)×cj×cj×List π) (bz 12 (aY x.1) (aF (ai,x)) (bz 4 (aY x.2.1) (aF (ai,x)) (bz 2 (aY x.p2) (aF (ai,x)) (bz 2 (aY x.p3) (aF (ai,x)) (bz (aY x.p4) 1 (aF (ai,x)) (bz 4 (aY x.p4) (aF (ai,x)) (aF ((fV 60 (aY x.q5)),x)))))))) λx1=>(bcase x1.1 (af aj) (obind (pA x1.2) λy2=>(bcase (!y2.2) (af aj) (iter (σ:=Int×gP×gz×(List fA)×cj×cj×List π) (λY=>(bz Y.1 (aY y2.1) (jn (α:=Bool×gP×gz×(List fA)×cj×cj×List π) (bF (.str) y2.1 Y.1 λz5=>(obind (fw z5) λy6=>(bcase (!y6) (aF (ai,Y.2)) (bB (c6 0 Y.1&&c6 Y.1 (al y2.1)) (bF (.str) y2.1 Y.1 λz7=>(obind (jd ((dF (aT Y.1) y2.1),z7)) λy8=>(aF ((c6 0 y8),Y.2)))))))) λx4=>(bcase x4.1 (aF aj) (cK ((cF Y.1),x4.2)))) (obind (iter (σ:=Int×gP×gz×(List fA)×cj×cj×List π) (λM=>(bz M.1 (aY M.p3) (bF lZ M.p3 M.1 λz10=>(jn (α:=Bool×gP×gz×(List fA)×cj×cj×List π) (bz z10.2 0 (aF (ai,M.2)) (iT (aY M.p2) z10.2 (aF (ai,M.2)) (bF rY M.p2 z10.2 λz12=>(aF (z12.2,M.2))))) λx11=>(bcase x11.1 (aF aj) (cK ((cF M.1),x11.2))))) (obind (iter (σ:=Int×gP×gz×(List fA)×cj×cj×List π) (λI=>(bz I.1 (aY I.q6) (jn (α:=gP×gz×(List fA)×cj×cj×List π) (bF o7 I.q6 I.1 λZ=>(jn (α:=Bool×dj×Int×Int×Int) (bz Z.1 0 (aF (ai,I.2,Z)) (aF ((c6 (aY I.p5) Z.1),I.2,Z))) λU=>(bcase U.1 (cK (bP aj)) (jn (α:=Bool×dj×Int×Int×Int) (bd I.1 0 (aF (ai,U.2)) (bF o7 U.2.1.q5 (bk .i64 (I.1-1)) λz18=>(aF ((!decide ((z18.1:Int)=U.p2)),U.2)))) λJ=>(bcase J.1 (jn (α:=Bool×gP×gz×(List fA)×cj×cj×List π) (iR J.p3 0 (aF (ai,J.2.1)) (bz 0 I.1 (bF o7 J.2.1.q5 (bk .i64 (I.1-1)) λz20=>(aF ((fV J.p2 z20.1),J.2.1))) (aF (aj,J.2.1)))) λx19=>(bcase x19.1 (cK (bP aj)) (aF x19.2))) (bF o7 J.2.1.q5 (bk .i64 (I.1-1)) λz21=>(iR J.p3 (cF z21.2.1) (cK (bP aj)) (aF J.2.1)))))))) λx14=>(cK ((cF I.1),x14))) (aF ai))) (0,M.2)) λr=>af (bP r)))) (0,Y.2)) λr=>af (bP r)))) (0,x1.2))))))
def jK (x:ω):Option η:=
 (jn (α:=Bool×Int×Int×Int×Int×Int×Int) (bd x.1 1 (aF ((decide ((x.1:Int)=1)),x)) (bd x.1 6 (aF ((decide ((x.1:Int)=6)),x)) (bd x.1 10 (aF ((decide ((x.1:Int)=10)),x)) (aF ((decide ((x.1:Int)=27)),x))))) λM=>(bcase M.1 (af ([M.p2])) (jn (α:=Bool×Int×Int×Int×Int×Int×Int) (bd x.1 2 (aF ((decide ((x.1:Int)=2)),M.2)) (aF ((decide ((x.1:Int)=3)),M.2))) λI=>(bcase I.1 (af ([I.p2,I.p3])) (bd x.1 4 (af ([I.p2,I.p3,I.p4])) (bd x.1 7 (af ([I.p2,I.p4])) (jn (α:=Bool×Int×Int×Int×Int×Int×Int) (bd x.1 8 (aF ((decide ((x.1:Int)=8)),I.2)) (aF ((decide ((x.1:Int)=26)),I.2))) λJ=>(bcase J.1 (af ([J.p3])) (bd x.1 9 (af ([J.p3,J.p4])) (af ([]:η)))))))))))
def pW (x:Int):Option (Bool):=
 (jn (α:=Bool) (iT 1 x (aF (c6 x 5)) (aF aj)) λI=>(af I))
def pB (x:(List jX)×Int):Option (Bool):=
 (iter (σ:=ν) (λI=>(iT I.2 (aY x.1) (jn (α:=Int) (jn (α:=Bool) (bz I.1 0 (aF ai) (aF (c6 (aY x.1) I.1))) λZ=>(bcase Z (cK (bP aj)) (bF rf x.1 I.1 λU=>(obind (pW U.1) λY=>(bcase (!Y) (cK (bP ai)) (bF rf x.1 I.1 λM=>(bd M.1 5 (bF rf x.1 I.1 λJ=>(aF J.2.1)) (aF (cF I.1))))))))) λx2=>(cK (x2,(cF I.2)))) (aF aj))) (x.2,0))
def jw (x:ν):Option (Bool):=
 (jn (α:=Bool) (iT 0 x.1 (aF (fV x.1 x.2)) (aF aj)) λI=>(af I))
def nk (x:dj×Int×Int):Option (Bool):=
 (jn (α:=Bool) (obind (jw (x.2.1,(aY x.1.1))) λU=>(bcase U (bF kE x.1.1 x.2.1 λM=>(bd M.2.1 0 (bF kE x.1.1 x.2.1 λJ=>(iR J.2.2.1 0 (bF kE x.1.1 x.2.1 λI=>(aF (decide ((I.2.2.1:Int)=x.2.2)))) (aF aj))) (aF aj))) (aF aj))) λY=>(af Y))
def lK (x:dj×Int×Int×Int×Int×Int×Int):Option (Bool):=
 (bd x.2.1 6 (jn (α:=Bool) (obind (jw (x.p3,(aY x.1.1))) λy2=>(bcase y2 (bF kE x.1.1 x.p3 λz3=>(aF (decide ((z3.2.2.1:Int)=0)))) (aF aj))) λx1=>(af x1)) (bd x.2.1 8 (jn (α:=Bool) (obind (jw (x.p2,(aY x.1.1))) λy5=>(bcase y5 (bF kE x.1.1 x.p2 λz6=>(aF (decide ((z6.2.2.1:Int)=0)))) (aF aj))) λx4=>(af x4)) (bd x.2.1 7 (obind (nk (x.1,x.p3,x.p5)) λy7=>(af y7)) (bd x.2.1 9 (obind (nk (x.1,x.p2,x.p5)) λy8=>(af y8)) (jn (α:=Bool×dj×Int×Int×Int×Int×Int×Int) (bd x.2.1 11 (aF ((decide ((x.2.1:Int)=11)),x)) (aF ((decide ((x.2.1:Int)=12)),x))) λU=>(bcase U.1 (jn (α:=Bool) (obind (jw (U.p3,(aY U.2.1.2.1))) λy11=>(bcase y11 (bF rY U.2.1.2.1 U.p3 λZ=>(aF (!Z.2))) (aF aj))) λx10=>(af x10)) (jn (α:=Bool×dj×Int×Int×Int×Int×Int×Int) (bd x.2.1 13 (aF ((decide ((x.2.1:Int)=13)),U.2)) (bd x.2.1 14 (aF ((decide ((x.2.1:Int)=14)),U.2)) (bd x.2.1 15 (aF ((decide ((x.2.1:Int)=15)),U.2)) (aF ((decide ((x.2.1:Int)=16)),U.2))))) λJ=>(bcase J.1 (jn (α:=Bool) (obind (jw (J.p3,(aY J.2.1.2.1))) λy15=>(bcase y15 (bF rY J.2.1.2.1 J.p3 λY=>(aF Y.2)) (aF aj))) λx14=>(af x14)) (jn (α:=Bool×dj×Int×Int×Int×Int×Int×Int) (bd x.2.1 21 (aF ((decide ((x.2.1:Int)=21)),J.2)) (bd x.2.1 22 (aF ((decide ((x.2.1:Int)=22)),J.2)) (aF ((decide ((x.2.1:Int)=23)),J.2)))) λM=>(bcase M.1 (obind (jw (M.p3,(aY M.2.1.p2))) λy18=>(af y18)) (jn (α:=Bool×dj×Int×Int×Int×Int×Int×Int) (bd x.2.1 24 (aF ((decide ((x.2.1:Int)=24)),M.2)) (aF ((decide ((x.2.1:Int)=25)),M.2))) λI=>(bcase I.1 (obind (jw (I.p3,(aY I.2.1.p4))) λy20=>(af y20)) (bd x.2.1 26 (obind (jw (I.p3,(aY I.2.1.p3))) λy21=>(af y21)) (bd x.2.1 27 (obind (jw (I.p4,(aY I.2.1.p3))) λy22=>(af y22)) (bd x.2.1 3 (jn (α:=Bool) (bd I.p6 4 (aF ai) (aF (decide ((I.p6:Int)=5)))) λx23=>(af x23)) (bd x.2.1 4 (jn (α:=Bool) (iT 6 I.p6 (aF (c6 I.p6 18)) (aF aj)) λx24=>(af x24)) (af ai)))))))))))))))))
def io (x:dj×Int×Int×List jX):Option (Bool):=
 (jn (α:=Bool×dj×Int×List jX) (bz x.p2 0 (aF (ai,x.1,x.2.2)) (bz 32 x.p2 (aF (ai,x.1,x.2.2)) (aF ((decide (((aY x.q3):Int)=0)),x.1,x.2.2)))) λx1=>(bcase x1.1 (af aj) (iter (σ:=Int×dj×Int×List jX) (λJ=>(bz J.1 (aY x.q3) (bF rf J.q3 J.1 λY=>(jn (α:=Bool×dj×(Int×List jX)×Int×Int×Int×Int×Int×Int) (bz Y.1 1 (aF (ai,J.2.1,J.2.2,Y)) (bz 28 Y.1 (aF (ai,J.2.1,J.2.2,Y)) (bcase (((decide ((Y.1:Int)=28))==(decide ((J.1:Int)=(bk .i64 ((aY x.q3)-1))))) !=ai) (aF (ai,J.2.1,J.2.2,Y)) (obind (lK (J.2.1,Y)) λy5=>(bcase (!y5) (aF (ai,J.2.1,J.2.2,Y)) (obind (pB (J.q3,J.1)) λy6=>(aF ((!y6),J.2.1,J.2.2,Y)))))))) λI=>(bcase I.1 (aF aj) (jn (α:=Bool×dj×(Int×List jX)×Int×Int×Int×Int×Int×Int) (bd I.p3 28 (iR I.q8 (-1) (aF (ai,I.2)) (iR I.p3 28 (obind (jw (I.q8,(aY I.2.1.q5))) λy8=>(bcase (!y8) (aF (ai,I.2)) (bF o7 I.2.1.q5 I.q8 λz9=>(aF ((!decide ((z9.1:Int)=x.2.1)),I.2))))) (aF (aj,I.2)))) (iR I.p3 28 (obind (jw (I.q8,(aY I.2.1.q5))) λy10=>(bcase (!y10) (aF (ai,I.2)) (bF o7 I.2.1.q5 I.q8 λz11=>(aF ((!decide ((z11.1:Int)=x.2.1)),I.2))))) (aF (aj,I.2)))) λU=>(bcase U.1 (aF aj) (jn (α:=Bool×dj×(Int×List jX)×Int×Int×Int×Int×Int×Int) (bd U.p3 5 (obind (jw (U.p4,(aY x.q3))) λy13=>(bcase (!y13) (aF (ai,U.2)) (bd U.p3 10 (obind (jw (U.p5,(aY x.q3))) λy14=>(aF ((!y14),U.2))) (aF (aj,U.2))))) (bd U.p3 10 (obind (jw (U.p5,(aY x.q3))) λy15=>(aF ((!y15),U.2))) (aF (aj,U.2)))) λZ=>(bcase Z.1 (aF aj) (obind (jK Z.q3) λy16=>(iter (σ:=Int×dj×Int×List jX) (λM=>(bz M.1 (aY y16) (bF aM y16 M.1 λz18=>(obind (jw (z18,M.p2)) λy19=>(bcase (!y19) (aF (bP aj)) (cK ((cF M.1),M.2))))) (aF (lD ((cF J.1),M.2))))) (0,Z.2.1,Z.p2)))))))))) (aF ai))) (0,x1.2))))
def jJ (x:dj×List (Int×List jX)):Option (Bool):=
 (jn (α:=Bool×dj×List (Int×List jX)) (obind (hY x.1) λY=>(bcase (!Y) (aF (ai,x)) (aF ((!decide (((aY x.2):Int)=(aY x.1.p4))),x)))) λJ=>(bcase J.1 (af aj) (iter (σ:=Int×dj×List (Int×List jX)) (λI=>(bz I.1 (aY I.2.2) (bF xq I.2.2 I.1 λM=>(obind (io (I.2.1,I.1,M)) λU=>(bcase (!U) (aF aj) (cK ((cF I.1),I.2))))) (aF ai))) (0,J.2))))
def cH (x:jX×rX×List jX):Option (rX×List jX):=
 (bB (a_ (al x.2.2+al ([(x.1.1,x.1.2.1,x.1.p2,x.1.p3,x.1.p4,x.2.1.p7)])) 48) (af (x.2.1,(x.2.2++([(x.1.1,x.1.2.1,x.1.p2,x.1.p3,x.1.p4,x.2.1.p7)])))))
def qM (rr06_gen_value:((Xp×Int)×rX×List jX)->Option (rX×List jX)) (x:(Xp×Int)×rX×List jX):Option (rX×List jX):=
 (jn (α:=rX×List jX) (bd (Xp.op x.1.1) 1 (obind (cH ((1,x.1.2,0,0,(Xp.n x.1.1),0),x.2)) λy2=>(bB (aC (al x.2.2) (al x.2.2)&&ai) (aF y2))) (bd (Xp.op x.1.1) 2 (obind (jd (x.2.1.p6,(Xp.name x.1.1))) λy3=>(iT 0 y3 (obind (cH ((2,x.1.2,y3,0,0,0),x.2)) λy4=>(bB (aC (al x.2.2) (al x.2.2)&&ai) (aF y4))) (obind (lA ((x.2.1.1,x.2.1.2.1,x.2.1.p2,x.2.1.p3,x.2.1.p4,x.2.1.p5),(Xp.name x.1.1))) λy5=>(obind (cH ((6,x.1.2,y5,0,0,0),x.2)) λy6=>(bB (aC (al x.2.2) (al x.2.2)&&ai) (aF y6)))))) (bd (Xp.op x.1.1) 3 (bF (.ex) (Xp.l x.1.1) 0 λz7=>(obind (rr06_gen_value ((z7,x.1.2),x.2)) λI=>(bB (aC (al x.2.2) (al x.2.2)&&ai) (obind (lA ((I.1.1,I.1.2.1,I.1.p2,I.1.p3,I.1.p4,I.1.p5),(Xp.name x.1.1))) λy9=>(bF kE I.1.1 y9 λz10=>(obind (cH ((7,x.1.2,y9,x.1.2,z10.2.2.1,0),I)) λy11=>(bB (aC (al I.2) (al I.2)&&ai) (aF y11)))))))) (bd (aO (al (Xp.l x.1.1))) 1 (bF (.ex) (Xp.l x.1.1) 0 λz12=>(obind (rr06_gen_value ((z12,x.1.2),x.2)) λU=>(bB (aC (al x.2.2) (al x.2.2)&&ai) (obind (cH ((3,x.1.2,x.1.2,0,(Xp.op x.1.1),0),U)) λy14=>(bB (aC (al U.2) (al U.2)&&ai) (aF y14)))))) (bF (.ex) (Xp.l x.1.1) 0 λZ=>(obind (rr06_gen_value ((Z,x.1.2),x.2)) λM=>(bB (aC (al x.2.2) (al x.2.2)&&ai) (bF (.ex) (Xp.l x.1.1) 1 λY=>(obind (rr06_gen_value ((Y,(cF x.1.2)),M)) λJ=>(bB (aC (al M.2) (al M.2)&&ai) (obind (cH ((4,x.1.2,x.1.2,(cF x.1.2),(Xp.op x.1.1),0),J)) λy19=>(bB (aC (al J.2) (al J.2)&&ai) (aF y19))))))))))))) λx1=>(af x1))
def iL:Nat->((Xp×Int)×rX×List jX)->Option (rX×List jX)
 |0,_=>ah
 |n+1,x=>qM (iL n) x
theorem Ba (n:Nat) (x:(Xp×Int)×rX×List jX):iL (n+1) x=qM (iL n) x:=rfl
def iJ (x:(Xp×Int)×rX×List jX):Option (rX×List jX):=iL fuel x
def mb (x:Sx×rX×List jX):Option (rX×List jX):=
 (bz 0 (aO (al (Sx.index x.1))) (bF (.ex) (Sx.index x.1) 0 λz1=>(obind (iJ ((z1,(aY x.2.1.p6)),x.2)) λM=>(bB (aC (al x.2.2) (al x.2.2)&&ai) (obind (iJ ((d_ ((Xp.op (Sx.expr x.1)),(Xp.n (Sx.expr x.1)),(Xp.name (Sx.expr x.1)),(Xp.l (Sx.expr x.1))),(bk .i64 ((aY x.2.1.p6)+1))),M)) λJ=>(bB (aC (al M.2) (al M.2)&&ai) (obind (lA ((J.1.1,J.1.2.1,J.1.p2,J.1.p3,J.1.p4,J.1.p5),(Sx.name x.1))) λy4=>(bF kE J.1.1 y4 λz5=>(obind (cH ((9,y4,(bk .i64 ((aY x.2.1.p6)+1)),(aY x.2.1.p6),z5.2.2.1,0),J)) λy6=>(bB (aC (al J.2) (al J.2)&&ai) (af y6)))))))))) (obind (iJ ((d_ ((Xp.op (Sx.expr x.1)),(Xp.n (Sx.expr x.1)),(Xp.name (Sx.expr x.1)),(Xp.l (Sx.expr x.1))),(aY x.2.1.p6)),x.2)) λI=>(bB (aC (al x.2.2) (al x.2.2)&&ai) (obind (jd (I.1.p6,(Sx.name x.1))) λZ=>(iT 0 Z (obind (cH ((2,Z,(aY x.2.1.p6),0,0,0),I)) λy9=>(bB (aC (al I.2) (al I.2)&&ai) (af y9))) (obind (lA ((I.1.1,I.1.2.1,I.1.p2,I.1.p3,I.1.p4,I.1.p5),(Sx.name x.1))) λY=>(obind (cH ((8,Y,(aY x.2.1.p6),0,0,0),I)) λU=>(bB (aC (al I.2) (al I.2)&&ai) (af U)))))))))
def jA (x:ζ×rX×List jX):Option (Int×rX×List jX):=
 (iter (σ:=Int×rX×List jX) (λI=>(bz I.1 (aY I.2.1.p2) (bF lZ I.2.1.p2 I.1 λJ=>(bcase (decide ((J.1:ζ)=x.1)) (aF I) (cK ((cF I.1),I.2)))) (aF ((-1),I.2)))) (0,x.2))
def qN (rr06_gen_stmts:ads->Option (rX×List jX)) (rr06_gen_stmt:MQ->Option (rX×List jX)) (rr06_gen_branches:MQ->Option (rX×List jX)) (rr06_gen_around:adt->Option (rX×List jX)) (x:(List Sx)×rX×List jX):Option (rX×List jX):=
 (iter (σ:=Int×rX×List jX) (λI=>(bz I.1 (aY x.1) (bF (.sm) x.1 I.1 λJ=>(obind (rr06_gen_stmt (J,I.2)) λM=>(bB (aC (al I.2.2) (al I.2.2)&&ai) (cK ((cF I.1),M))))) (aF I.2))) (0,x.2))
def sh (rr06_gen_stmts:ads->Option (rX×List jX)) (rr06_gen_stmt:MQ->Option (rX×List jX)) (rr06_gen_branches:MQ->Option (rX×List jX)) (rr06_gen_around:adt->Option (rX×List jX)) (x:Sx×rX×List jX):Option (rX×List jX):=
 (jn (α:=rX×List jX) (bd (Sx.op x.1) 1 (obind (mb (eh x.1,(x.2.1.1,x.2.1.2.1,x.2.1.p2,x.2.1.p3,x.2.1.p4,x.2.1.p5,x.2.1.p6,x.2.1.q8,(cF x.2.1.q8)),x.2.2)) λy2=>(bB (aC (al x.2.2) (al x.2.2)&&ai) (aF y2))) (jn (α:=Bool×rX×Sx×List jX) (bd (Sx.op x.1) 2 (aF ((decide (((Sx.op x.1):Int)=2)),(x.2.1.1,x.2.1.2.1,x.2.1.p2,x.2.1.p3,x.2.1.p4,x.2.1.p5,x.2.1.p6,x.2.1.q8,(cF x.2.1.q8)),eh x.1,x.2.2)) (aF ((decide (((Sx.op x.1):Int)=3)),(x.2.1.1,x.2.1.2.1,x.2.1.p2,x.2.1.p3,x.2.1.p4,x.2.1.p5,x.2.1.p6,x.2.1.q8,(cF x.2.1.q8)),eh x.1,x.2.2))) λI=>(bcase I.1 (obind (rr06_gen_branches (eh I.p2,I.2.1,I.q3)) λy4=>(bB (aC (al I.q3) (al I.q3)&&ai) (aF y4))) (bd (Sx.op x.1) 4 (obind (ko (I.2.1.2.1,(Sx.name I.p2))) λy5=>(obind (rr06_gen_around ((eh I.p2,11,12,y5),I.2.1,I.q3)) λy6=>(bB (aC (al I.q3) (al I.q3)&&ai) (aF y6)))) (bd (Sx.op x.1) 5 (obind (ko (I.2.1.2.1,(Sx.name I.p2))) λy7=>(obind (rr06_gen_around ((eh I.p2,13,14,y7),I.2.1,I.q3)) λy8=>(bB (aC (al I.q3) (al I.q3)&&ai) (aF y8)))) (bd (Sx.op x.1) 6 (obind (ko (I.2.1.2.1,(Sx.name I.p2))) λy9=>(obind (rr06_gen_around ((eh I.p2,15,16,y9),I.2.1,I.q3)) λy10=>(bB (aC (al I.q3) (al I.q3)&&ai) (aF y10)))) (bd (Sx.op x.1) 7 (obind (rr06_gen_around ((eh I.p2,17,18,0),I.2.1,I.q3)) λy11=>(bB (aC (al I.q3) (al I.q3)&&ai) (aF y11))) (bd (Sx.op x.1) 8 (obind (rr06_gen_around ((eh I.p2,19,20,0),I.2.1,I.q3)) λy12=>(bB (aC (al I.q3) (al I.q3)&&ai) (aF y12))) (bd (Sx.op x.1) 9 (obind (jA ((Sx.name I.p2),I.2.1,I.q3)) λU=>(bB (aC (al I.q3) (al U.2.2)&&ai) (obind (cH ((21,U.1,0,0,0,0),U.2)) λy14=>(bB (aC (al U.2.2) (al U.2.2)&&ai) (aF y14))))) (bd (Sx.op x.1) 10 (obind (jA ((Sx.name I.p2),I.2.1,I.q3)) λM=>(bB (aC (al I.q3) (al M.2.2)&&ai) (obind (cH ((22,M.1,0,0,0,0),M.2)) λy16=>(bB (aC (al M.2.2) (al M.2.2)&&ai) (aF y16))))) (bd (Sx.op x.1) 11 (obind (jA ((Sx.name I.p2),I.2.1,I.q3)) λJ=>(bB (aC (al I.q3) (al J.2.2)&&ai) (obind (cH ((23,J.1,0,0,0,0),J.2)) λy18=>(bB (aC (al J.2.2) (al J.2.2)&&ai) (aF y18))))) (bd (Sx.op x.1) 12 (obind (jd (I.2.1.p4,(Sx.name I.p2))) λy19=>(obind (cH ((24,y19,0,0,0,0),I.2.1,I.q3)) λy20=>(bB (aC (al I.q3) (al I.q3)&&ai) (aF y20)))) (bd (Sx.op x.1) 13 (obind (jd (I.2.1.p4,(Sx.name I.p2))) λy21=>(obind (cH ((25,y21,0,0,0,0),I.2.1,I.q3)) λy22=>(bB (aC (al I.q3) (al I.q3)&&ai) (aF y22)))) (bd (Sx.op x.1) 14 (obind (iJ ((d_ ((Xp.op (Sx.expr I.p2)),(Xp.n (Sx.expr I.p2)),(Xp.name (Sx.expr I.p2)),(Xp.l (Sx.expr I.p2))),(aY x.2.1.p6)),I.2.1,I.q3)) λY=>(bB (aC (al I.q3) (al I.q3)&&ai) (obind (jd (Y.1.p3,(Sx.name I.p2))) λy24=>(obind (cH ((26,y24,(aY x.2.1.p6),0,0,0),Y)) λy25=>(bB (aC (al Y.2) (al Y.2)&&ai) (aF y25)))))) (bd (Sx.op x.1) 15 (obind (jd (I.2.1.p6,(Sx.name I.p2))) λy26=>(obind (jd (I.2.1.p3,(Sx.arg I.p2))) λy27=>(obind (cH ((27,y26,y27,0,0,0),I.2.1,I.q3)) λZ=>(bB (aC (al I.q3) (al I.q3)&&ai) (aF Z))))) (aF (I.2.1,I.q3))))))))))))))))) λx1=>(af x1))
def mG (rr06_gen_stmts:ads->Option (rX×List jX)) (rr06_gen_stmt:MQ->Option (rX×List jX)) (rr06_gen_branches:MQ->Option (rX×List jX)) (rr06_gen_around:adt->Option (rX×List jX)) (x:Sx×rX×List jX):Option (rX×List jX):=
 (obind (iJ ((d_ ((Xp.op (Sx.expr x.1)),(Xp.n (Sx.expr x.1)),(Xp.name (Sx.expr x.1)),(Xp.l (Sx.expr x.1))),(aY x.2.1.p6)),x.2)) λJ=>(bB (aC (al x.2.2) (al x.2.2)&&ai) (obind (cH ((10,(aY J.1.p6),0,0,0,0),J)) λZ=>(bB (aC (al J.2) (al J.2)&&ai) (obind (rr06_gen_stmts ((Sx.body x.1),Z)) λI=>(bB (aC (al Z.2) (al Z.2)&&ai) (bd (Sx.op x.1) 3 (obind (cH ((5,(aY x.2.2),0,0,0,0),(I.1.1,I.1.2.1,I.1.p2,I.1.p3,I.1.p4,I.1.p5,I.1.p6,x.2.1.p7,I.1.q8),I.2)) λU=>(bB (aC (al I.2) (al I.2)&&ai) (ck (eX (aY J.2) (al U.2)) (af (U.1,(cw U.2 (aY J.2) ((aJ (T:=rf) U.2 (aY J.2)).1,((aJ (T:=rf) U.2 (aY J.2)).2).1,(aY U.2),(((aJ (T:=rf) U.2 (aY J.2)).2).2).2))))))) (bd (aO (al (Sx.els x.1))) 0 (ck (eX (aY J.2) (al I.2)) (af ((I.1.1,I.1.2.1,I.1.p2,I.1.p3,I.1.p4,I.1.p5,I.1.p6,x.2.1.p7,I.1.q8),(cw I.2 (aY J.2) ((aJ (T:=rf) I.2 (aY J.2)).1,((aJ (T:=rf) I.2 (aY J.2)).2).1,(aY I.2),(((aJ (T:=rf) I.2 (aY J.2)).2).2).2))))) (obind (cH ((5,0,0,0,0,0),(I.1.1,I.1.2.1,I.1.p2,I.1.p3,I.1.p4,I.1.p5,I.1.p6,x.2.1.p7,I.1.q8),I.2)) λM=>(bB (aC (al I.2) (al I.2)&&ai) (ck (eX (aY J.2) (al M.2)) (obind (rr06_gen_stmts ((Sx.els x.1),M.1,(cw M.2 (aY J.2) ((aJ (T:=rf) M.2 (aY J.2)).1,((aJ (T:=rf) M.2 (aY J.2)).2).1,(aY M.2),(((aJ (T:=rf) M.2 (aY J.2)).2).2).2)))) λY=>(bB (aC (al (cw M.2 (aY J.2) ((aJ (T:=rf) M.2 (aY J.2)).1,((aJ (T:=rf) M.2 (aY J.2)).2).1,(aY M.2),(((aJ (T:=rf) M.2 (aY J.2)).2).2).2))) (al (cw M.2 (aY J.2) ((aJ (T:=rf) M.2 (aY J.2)).1,((aJ (T:=rf) M.2 (aY J.2)).2).1,(aY M.2),(((aJ (T:=rf) M.2 (aY J.2)).2).2).2)))&&ai) (ck (eX (aY I.2) (al Y.2)) (af (Y.1,(cw Y.2 (aY I.2) ((aJ (T:=rf) Y.2 (aY I.2)).1,(aY Y.2),((aJ (T:=rf) Y.2 (aY I.2)).2).2))))))))))))))))))
def ph (rr06_gen_stmts:ads->Option (rX×List jX)) (rr06_gen_stmt:MQ->Option (rX×List jX)) (rr06_gen_branches:MQ->Option (rX×List jX)) (rr06_gen_around:adt->Option (rX×List jX)) (x:(Sx×Int×Int×Int)×rX×List jX):Option (rX×List jX):=
 (obind (cH ((x.1.2.1,x.1.q3,0,0,0,0),x.2)) λJ=>(bB (aC (al x.2.2) (al x.2.2)&&ai) (obind (rr06_gen_stmts ((Sx.body x.1.1),J)) λI=>(bB (aC (al J.2) (al J.2)&&ai) (obind (cH ((x.1.p2,x.1.q3,0,0,0,0),(I.1.1,I.1.2.1,I.1.p2,I.1.p3,I.1.p4,I.1.p5,I.1.p6,x.2.1.p7,I.1.q8),I.2)) λM=>(bB (aC (al I.2) (al I.2)&&ai) (af M)))))))
mutual
def dO:Nat->ads->Option (rX×List jX)
 |0,_=>ah
 |n+1,x=>qN (dO n) (eT n) (db n) (dK n) x
def eT:Nat->MQ->Option (rX×List jX)
 |0,_=>ah
 |n+1,x=>sh (dO n) (eT n) (db n) (dK n) x
def db:Nat->MQ->Option (rX×List jX)
 |0,_=>ah
 |n+1,x=>mG (dO n) (eT n) (db n) (dK n) x
def dK:Nat->adt->Option (rX×List jX)
 |0,_=>ah
 |n+1,x=>ph (dO n) (eT n) (db n) (dK n) x
end
def uE (x:(List Sx)×rX×List jX):Option (rX×List jX):=dO fuel x
def qF (x:sx×List sw):Option (Ak×Int×Int):=
 (obind (fy x) λy1=>(iR y1.1 0 (af (((([]:List TW),([]:List (ζ×Bool)),([]:List fA),([]:List ζ),([]:List ζ),([]:List π)),([]:List (Int×List jX))),y1)) (obind (uF x) λy2=>(iter (σ:=(ν)×(sx×List sw)×dj×List (Int×List jX)) (λJ=>(bz J.1.2 (aY J.2.1.2) (bF tm J.2.1.2 J.1.2 λz4=>(bF tm J.2.1.2 J.1.2 λz5=>(obind (uE (z5.2.2.2,(J.p2.1,J.p2.2.1,J.p2.p2,J.p2.p3,J.p2.p4,J.p2.q5,z4.2.2.1,0,J.1.1),([]:List jX))) λU=>(bB (aC (al ([]:List jX)) (al ([]:List jX))&&ai) (obind (cH ((28,0,0,0,0,0),(U.1.1,U.1.2.1,U.1.p2,U.1.p3,U.1.p4,U.1.p5,U.1.p6,(-1),U.1.q8),U.2)) λy7=>(bB (aC (al U.2) (al U.2)&&ai) (iter (σ:=Int×(sx×List sw)×dj×rX×Int×(List (Int×List jX))×List jX) (λM=>(bz M.1 (aY M.q6) (kl rf M.q6 M.1 λz9=>(obind (jK z9) λY=>(iter (σ:=Int×(sx×List sw)×dj×rX×Int×(List (Int×List jX))×List jX) (λI=>(bz I.1 (aY Y) (bF aM Y I.1 λZ=>(cK ((cF I.1),I.2.1,I.p2,I.p3,(ir I.p4 (cF Z)),I.q5))) (aF (lD ((cF M.1),I.2))))) (0,M.2)))) (obind (bB (a_ (al M.p5+al ([(M.p4,M.q6)])) 32) (cK ((U.1.q8,(cF J.1.2)),M.2.1,M.p2,(M.p5++([(M.p4,M.q6)]))))) λr=>af (bP r)))) (0,J.2.1,J.p2,y7.1,(aY y7.1.p6),J.q3,y7.2)))))))) (aF (J.2.2,0,0)))) ((0,0),x,y2,([]:List (Int×List jX)))))))
def qE (x:η×Int):Option (Bool):=
 (iter (σ:=Int) (λI=>(bz I (aY x.1) (bF aM x.1 I λJ=>(bd J x.2 (aF ai) (cK (cF I)))) (aF aj))) 0)
def wN (x:η×Int):Option η:=
 (iter (σ:=Int) (λI=>(jn (α:=Bool) (bz I (aY x.1) (bF aM x.1 I λM=>(aF (fV M x.2))) (aF aj)) λY=>(bcase Y (cK (cF I)) (obind (jn (α:=Bool) (bz I (aY x.1) (bF aM x.1 I λJ=>(aF (decide ((J:Int)=x.2)))) (aF aj)) λU=>(bcase U (af x.1) (bB (c6 0 I&&c6 I (al x.1)) (bB (a_ (al ([]:η)+al (dF (aT I) x.1)) 8) (bB (a_ (al (([]:η)++(dF (aT I) x.1))+al ([x.2])) 8) (bB (c6 0 I&&c6 I (al x.1)) (bB (a_ (al ((([]:η)++(dF (aT I) x.1))++([x.2]))+al (List.drop (aT I) x.1)) 8) (af (((([]:η)++(dF (aT I) x.1))++([x.2]))++(List.drop (aT I) x.1)))))))))) λr=>af (bP r))))) 0)
def rF (x:η×η):Option η:=
 (iter (σ:=η×Int) (λJ=>(bz J.2 (aY x.1) (bF aM x.1 J.2 λU=>(obind (wN (J.1,U)) λZ=>(cK (Z,(cF J.2))))) (obind (iter (σ:=η×Int) (λI=>(bz I.2 (aY x.2) (bF aM x.2 I.2 λM=>(obind (wN (I.1,M)) λY=>(cK (Y,(cF I.2))))) (aF I.1))) (J.1,0)) λr=>af (bP r)))) (([]:η),0))
def mr (x:Int):Option (Int):=
 (jn (α:=Bool) (bz x 1 (aF ai) (aF (fV 100 x))) λI=>(bcase I (af 0) (af x)))
def ct (x:Int×η×(List η)×Int):Option (ν×η×List η):=
 (bB (a_ (al ([]:η)+al x.2.1) 8) (iter (σ:=Int×um×(ν)×(ν)×η×List η) (λI=>(bz I.1 (aY I.2.1.p2) (bF (.sl aM) I.2.1.p2 I.1 λJ=>(bB (a_ (al ([]:η)+al J) 8) (bB (a_ (al I.q5+al ([(([]:η)++J)])) 24) (cK ((cF I.1),I.2.1,I.p2,I.p3,I.p4,(I.q5++([(([]:η)++J)]))))))) (aF I.q3))) (0,x,(0,0),(x.1,x.q3),(([]:η)++x.2.1),([]:List η))))
def wM (x:(jX×Int×Int)×η×List η):Option ((ν×Bool)×η×List η):=
 (obind (jK x.1.1) λy1=>(iter (σ:=Int×η×(List η)×jX×(ν)×Int×Int) (λI=>(bz I.1 (aY y1) (jn (α:=Bool×η×(List η)×jX×(ν)×Int×Int) (bF aM y1 I.1 λz4=>(bz z4 0 (aF (ai,I.2)) (bF aM y1 I.1 λz5=>(aF ((c6 (aY I.2.1) z5),I.2))))) λx3=>(bcase x3.1 ah (cK ((cF I.1),x3.2)))) (obind (jn (α:=(Int×Bool×η)×η×(List η)×jX×(ν)×Int×Int) (bd I.p3.1 5 (cK (((I.p3.2.1,I.p4.2),ai),I.2.1,I.p2)) (bd I.p3.1 1 (aF ((I.p3.p4,ai,([]:η)),I.2)) (bd I.p3.1 2 (kl aM I.2.1 I.p3.p2 λz7=>(kl (.sl aM) I.p2 I.p3.p2 λz8=>(aF ((z7,ai,z8),I.2)))) (bd I.p3.1 3 (obind (mr I.p3.p4) λy9=>(kl aM I.2.1 I.p3.p2 λz10=>(obind (uG (y9,z10)) λU=>(kl (.sl aM) I.p2 I.p3.p2 λz12=>(aF ((U.1,U.2,z12),I.2)))))) (obind (mr I.p3.p4) λy13=>(kl aM I.2.1 I.p3.p2 λz14=>(kl aM I.2.1 I.p3.p3 λz15=>(obind (sF (y13,z14,z15)) λM=>(kl (.sl aM) I.p2 I.p3.p2 λZ=>(kl (.sl aM) I.p2 I.p3.p3 λY=>(obind (rF (Z,Y)) λy19=>(aF ((M.1,M.2,y19),I.2))))))))))))) λJ=>(bB (a_ (al ([]:η)+al J.1.2.2) 8) (ck (eX J.p3.2.1 (al J.2.1)) (ck (eX J.p3.2.1 (al J.p2)) (af ((((cF J.p4.1),J.p4.2),J.1.2.1),(cw J.2.1 J.p3.2.1 J.1.1),(cw J.p2 J.p3.2.1 (([]:η)++J.1.2.2)))))))) λr=>af (bP r)))) (0,x.2.1,x.2.2,x.1.1,x.1.2,0,0)))
def nj (x:(Int×List jX)×Int×η×(List η)×Int):Option (um×Bool):=
 (jn (α:=Bool×(Int×List jX)×um×Int×Int) (iR (aY x.p2) x.1.1 (aF (ai,x.1,x.2,0,0)) (aF ((!decide (((aY x.p3):Int)=x.1.1)),x.1,x.2,0,0))) λU=>(bcase U.1 (af ((0,([]:η),([]:List η),0),aj)) (obind (ct U.p2) λZ=>(iter (σ:=Int×(Int×List jX)×(ν)×(ν)×η×List η) (λJ=>(iT J.1 (aY J.2.1.2) (jn (α:=Bool×(Int×List jX)×(ν)×(ν)×η×List η) (bz J.p2.1 0 (aF (ai,J.2)) (aF ((c6 (aY J.2.1.2) J.p2.1),J.2))) λI=>(bcase I.1 (aF ((0,([]:η),([]:List η),0),aj)) (bF rf I.2.1.2 I.p2.1 λY=>(obind (pW Y.1) λy6=>(bcase (!y6) (aF ((I.p2.1,I.p4,I.q5,I.p2.2),ai)) (bd J.1 (aY I.2.1.2) (aF ((0,([]:η),([]:List η),0),aj)) (obind (wM ((Y,I.p2),I.q4)) λM=>(bB (aC (al I.q5) (al M.2.2)&&(aC (al I.p4) (al M.2.1)&&ai)) (bcase (!M.1.2) (aF ((0,([]:η),([]:List η),0),aj)) (cK ((cF J.1),I.2.1,M.1.1,I.p3,M.2))))))))))) (aF ((0,([]:η),([]:List η),0),aj)))) (0,U.2.1,Z.1,U.q3,Z.2)))))
def rD (x:gP×gz×(List fA)×cj×cj×List π):Option pm:=
 (iter (σ:=Int×dj×Int×Int×List (Int×η)) (λM=>(bz M.1 (aY M.2.1.2.1) (bB (a_ (al M.q4+al ([((-1),([]:η))])) 32) (cK ((cF M.1),M.2.1,M.p2,M.p3,(M.q4++([((-1),([]:η))]))))) (obind (iter (σ:=Int×dj×Int×Int×gH×θ) (λJ=>(bz J.1 (aY J.2.1.p3) (bB (a_ (al J.q5+al ([aj])) 1) (cK ((cF J.1),J.2.1,J.p2,J.p3,J.p4,(J.q5++([aj]))))) (obind (iter (σ:=Int×dj×Int×Int×gH×θ×List dz) (λI=>(bz I.1 (aY I.2.1.p4) (jn (α:=dj×Int×Int×dz×gH×θ×List dz) (bd I.1 0 (aF (I.2.1,I.p2,I.p3,(1,0,aj),I.q4)) (aF (I.2.1,I.p2,I.p3,(0,0,aj),I.q4))) λU=>(bB (a_ (al U.q6+al ([U.p3])) 24) (cK ((cF I.1),U.1,U.2.1,U.p2,U.p4,U.p5,(U.q6++([U.p3])))))) (aF (I.p4,I.p3,I.q5)))) (0,J.2.1,J.p2,J.p3,J.p4,J.q5,([]:List dz))) λr=>af (bP r)))) (0,M.2.1,M.p2,M.p3,M.q4,([]:θ))) λr=>af (bP r)))) (0,x,0,(-1),([]:List (Int×η))))
def rE (x:dj×gH×Int×θ×List dz):Option (Bool):=
 (iter (σ:=Int×dj×gH×Int×θ×List dz) (λI=>(bz I.1 (aY I.2.1.p2) (jn (α:=Bool×dj×gH×Int×θ×List dz) (bF lZ I.2.1.p2 I.1 λU=>(bz U.2 0 (aF (ai,I.2)) (bF lZ I.2.1.p2 I.1 λM=>(aF ((c6 (aY I.2.1.2.1) M.2),I.2))))) λJ=>(bcase J.1 (aF aj) (cK ((cF I.1),J.2)))) (obind (jn (α:=Bool) (bd (aY I.p2) (aY I.2.1.2.1) (bd (aY I.p4) (aY I.2.1.p3) (aF (decide (((aY I.q5):Int)=(aY I.2.1.p4)))) (aF aj)) (aF aj)) λY=>(af Y)) λr=>af (bP r)))) (0,x))
def qD (x:ν):Option (Bool):=
 (jn (α:=Bool) (iT 0 x.1 (aF (fV x.1 x.2)) (aF aj)) λI=>(af I))
def uD (x:dj×Int×Int):Option (Bool):=
 (jn (α:=Bool×gP×gz×(List fA)×cj×cj×List π) (bd x.2.1 1 (aF ((decide ((x.2.1:Int)=1)),x.1)) (bd x.2.1 2 (aF ((decide ((x.2.1:Int)=2)),x.1)) (bd x.2.1 5 (aF ((decide ((x.2.1:Int)=5)),x.1)) (bd x.2.1 12 (aF ((decide ((x.2.1:Int)=12)),x.1)) (bd x.2.1 13 (aF ((decide ((x.2.1:Int)=13)),x.1)) (bd x.2.1 14 (aF ((decide ((x.2.1:Int)=14)),x.1)) (aF ((decide ((x.2.1:Int)=15)),x.1)))))))) λx1=>(bcase x1.1 (af (decide ((x.2.2:Int)=(-1)))) (jn (α:=Bool×gP×gz×(List fA)×cj×cj×List π) (bd x.2.1 3 (aF ((decide ((x.2.1:Int)=3)),x1.2)) (aF ((decide ((x.2.1:Int)=4)),x1.2))) λZ=>(bcase Z.1 (obind (qD (x.2.2,(aY Z.2.1))) λy3=>(af y3)) (jn (α:=Bool×gP×gz×(List fA)×cj×cj×List π) (bd x.2.1 6 (aF ((decide ((x.2.1:Int)=6)),Z.2)) (aF ((decide ((x.2.1:Int)=7)),Z.2))) λU=>(bcase U.1 (jn (α:=Bool) (obind (qD (x.2.2,(aY U.p2))) λy6=>(bcase y6 (bF rY U.p2 x.2.2 λz7=>(aF (!z7.2))) (aF aj))) λx5=>(af x5)) (jn (α:=Bool×gP×gz×(List fA)×cj×cj×List π) (bd x.2.1 8 (aF ((decide ((x.2.1:Int)=8)),U.2)) (bd x.2.1 9 (aF ((decide ((x.2.1:Int)=9)),U.2)) (bd x.2.1 10 (aF ((decide ((x.2.1:Int)=10)),U.2)) (aF ((decide ((x.2.1:Int)=11)),U.2))))) λM=>(bcase M.1 (jn (α:=Bool) (obind (qD (x.2.2,(aY M.p2))) λy10=>(bcase y10 (bF rY M.p2 x.2.2 λz11=>(aF z11.2)) (aF aj))) λx9=>(af x9)) (jn (α:=Bool×gP×gz×(List fA)×cj×cj×List π) (bd x.2.1 16 (aF ((decide ((x.2.1:Int)=16)),M.2)) (bd x.2.1 17 (aF ((decide ((x.2.1:Int)=17)),M.2)) (bd x.2.1 18 (aF ((decide ((x.2.1:Int)=18)),M.2)) (aF ((decide ((x.2.1:Int)=19)),M.2))))) λJ=>(bcase J.1 (obind (qD (x.2.2,(aY J.p3))) λy13=>(af y13)) (jn (α:=Bool×gP×gz×(List fA)×cj×cj×List π) (bd x.2.1 20 (aF ((decide ((x.2.1:Int)=20)),J.2)) (aF ((decide ((x.2.1:Int)=21)),J.2))) λI=>(bcase I.1 (obind (qD (x.2.2,(aY I.p5))) λy15=>(af y15)) (jn (α:=Bool×gP×gz×(List fA)×cj×cj×List π) (bd x.2.1 22 (aF ((decide ((x.2.1:Int)=22)),I.2)) (aF ((decide ((x.2.1:Int)=23)),I.2))) λY=>(bcase Y.1 (obind (qD (x.2.2,(aY Y.p4))) λy17=>(af y17)) (af aj)))))))))))))))
def kn (x:dj×pm×Int×Int×Int):Option (Bool):=
 (jn (α:=Bool×dj×gH×Int×θ×List dz) (obind (rE (x.1,x.2.1)) λy2=>(bcase (!y2) (aF (ai,x.1,x.2.1)) (obind (qD (x.p2,(aY x.1.p4))) λy3=>(bcase (!y3) (aF (ai,x.1,x.2.1)) (obind (uD (x.1,x.q3)) λy4=>(aF ((!y4),x.1,x.2.1))))))) λM=>(bcase M.1 (af aj) (bF ib M.q5 x.p2 λU=>(bd x.p3 1 (af (decide ((U.1:Int)=1))) (bd x.p3 17 (jn (α:=Bool) (bd U.1 4 (bd U.2.1 x.q4 (bF lZ M.2.1.p2 x.q4 λz7=>(bF dZ M.p2 z7.2 λz8=>(aF (decide ((z8.1:Int)=(-1)))))) (aF aj)) (aF aj)) λx6=>(af x6)) (iR U.1 2 (af aj) (bd x.p3 6 (bF dZ M.p2 x.q4 λz9=>(af (decide ((z9.1:Int)=(-1))))) (bd x.p3 10 (jn (α:=Bool) (bF dZ M.p2 x.q4 λz11=>(bd z11.1 (-1) (bF dZ M.p2 x.q4 λz12=>(aF (decide (((aY z12.2):Int)=0)))) (aF aj))) λx10=>(af x10)) (bd x.p3 8 (jn (α:=Bool) (bF dZ M.p2 x.q4 λz14=>(bd z14.1 (-1) (bF dZ M.p2 x.q4 λz15=>(obind (qE (z15.2,x.p2)) λy16=>(aF (!y16)))) (aF aj))) λx13=>(af x13)) (jn (α:=Bool×dj×pm×Int×Int×Bool) (bd x.p3 7 (aF ((decide ((x.p3:Int)=7)),M.2.1,M.2.2,U)) (aF ((decide ((x.p3:Int)=11)),M.2.1,M.2.2,U))) λI=>(bcase I.1 (bF dZ I.p2.1 x.q4 λz18=>(af (decide ((z18.1:Int)=x.p2)))) (bd x.p3 9 (bF dZ I.p2.1 x.q4 λz19=>(obind (qE (z19.2,x.p2)) λy20=>(af y20))) (bd x.p3 12 (af (decide ((I.p2.2.1:Int)=(-1)))) (bd x.p3 13 (af (decide ((I.p2.2.1:Int)=x.p2))) (bd x.p3 14 (af (!I.q5)) (bd x.p3 15 (af I.q5) (jn (α:=Bool×dj×gH×Int×θ×List dz) (bd x.p3 16 (aF ((decide ((x.p3:Int)=16)),I.2.1,I.p2)) (bd x.p3 18 (aF ((decide ((x.p3:Int)=18)),I.2.1,I.p2)) (aF ((decide ((x.p3:Int)=19)),I.2.1,I.p2)))) λJ=>(bcase J.1 (bF lZ J.2.1.p2 x.q4 λz22=>(bF dZ J.p2 z22.2 λz23=>(af (decide ((z23.1:Int)=x.p2))))) (bd x.p3 20 (jn (α:=Bool) (iR x.q4 x.p2 (bF ib J.q5 x.q4 λz25=>(aF (decide ((z25.1:Int)=0)))) (aF aj)) λx24=>(af x24)) (bd x.p3 21 (jn (α:=Bool) (iR x.q4 x.p2 (bF ib J.q5 x.q4 λz27=>(aF (decide ((z27.1:Int)=5)))) (aF aj)) λx26=>(af x26)) (bd x.p3 22 (bF (.bool) J.p4 x.q4 λZ=>(af (!Z))) (bd x.p3 23 (bF (.bool) J.p4 x.q4 λY=>(af Y)) (af ai)))))))))))))))))))))))
def nU (x:pm×Int):Option η:=
 (iter (σ:=Int×pm×η) (λI=>(bz I.1 (aY I.2.1.q3) (jn (α:=pm×η) (jn (α:=Bool×pm×η) (bF ib I.2.1.q3 I.1 λU=>(bd U.1 3 (bF ib I.2.1.q3 I.1 λM=>(aF ((decide ((M.2.1:Int)=x.2)),I.2))) (aF (aj,I.2)))) λJ=>(bcase J.1 (bB (a_ (al J.2.2+al ([I.1])) 8) (aF (J.2.1,(J.2.2++([I.1]))))) (aF J.2))) λY=>(cK ((cF I.1),Y))) (aF I.2.2))) (0,x.1,([]:η)))
def qC (x:η×Int):Option η:=
 (iter (σ:=Int×η) (λI=>(bz I.1 (aY x.1) (jn (α:=η) (bF aM x.1 I.1 λM=>(iR M x.2 (bF aM x.1 I.1 λJ=>(bB (a_ (al I.2+al ([J])) 8) (aF (I.2++([J]))))) (aF I.2))) λU=>(cK ((cF I.1),U))) (aF I.2))) (0,([]:η)))
def im (x:gH×Int×θ×List dz):Option (Int×gH×θ×List dz):=
 (bB (a_ (al ([]:θ)+al x.p2) 1) (bB (a_ (al ([]:List dz)+al x.q3) 24) (iter (σ:=Int×pm×Int×Int×gH×θ×List dz) (λI=>(bz I.1 (aY I.2.1.1) (bF dZ I.2.1.1 I.1 λM=>(bF dZ I.2.1.1 I.1 λJ=>(bB (a_ (al ([]:η)+al J.2) 8) (bB (a_ (al I.p4+al ([(M.1,(([]:η)++J.2))])) 32) (cK ((cF I.1),I.2.1,I.p2,I.p3,(I.p4++([(M.1,(([]:η)++J.2))])),I.q5)))))) (aF I.q3))) (0,x,0,x.2.1,([]:List (Int×η)),(([]:θ)++x.p2),(([]:List dz)++x.q3)))))
def mq (x:ν×gH×θ×List dz):Option (η×gH×θ×List dz):=
 (iter (σ:=Int×gH×θ×(List dz)×Int×η) (λI=>(bz I.1 (aY I.p3) (jn (α:=gH×θ×(List dz)×Int×η) (jn (α:=Bool×gH×θ×(List dz)×Int×η) (kl ib I.p3 I.1 λU=>(bd U.1 3 (kl ib I.p3 I.1 λM=>(aF ((decide ((M.2.1:Int)=x.1.2)),I.2))) (aF (aj,I.2)))) λJ=>(bcase J.1 (bB (a_ (al J.q5+al ([I.1])) 8) (aF (J.2.1,J.p2,J.p3,J.p4,(J.q5++([I.1]))))) (aF J.2))) λY=>(cK ((cF I.1),Y))) (aF (I.q5,I.2.1,I.p2,I.p3)))) (0,x.2.1,x.p2,x.q3,x.1.1,([]:η)))
def jI (x:ν×gH×θ×List dz):Option η:=obind (mq x) λy=>same y.2 x.2 (af y.1)
def py (x:dj×pm×Int×Int×Int×Int):Option (pm×Int×Bool):=
 (obind (kn (x.1,x.2.1,x.p2,x.p3,x.p4)) λy1=>(bcase (!y1) (af ((([]:List (Int×η)),0,([]:θ),([]:List dz)),0,aj)) (obind (im x.2.1) λU=>(jn (α:=Int×Int×Int×gH×θ×List dz) (bd x.p3 1 (ck (eX x.p2 (al U.q3)) (aF (0,U.1,0,U.2.1,U.p2,(cw U.q3 x.p2 (2,(aJ (T:=ib) U.q3 x.p2).2))))) (bd x.p3 2 (ck (eX x.p2 (al U.q3)) (aF (0,U.1,0,U.2.1,U.p2,(cw U.q3 x.p2 (5,(aJ (T:=ib) U.q3 x.p2).2))))) (jn (α:=Bool×dj×Int×Int×gH×θ×List dz) (bd x.p3 6 (aF ((decide ((x.p3:Int)=6)),x.1,U.1,0,U.2)) (aF ((decide ((x.p3:Int)=10)),x.1,U.1,0,U.2))) λY=>(bcase Y.1 (ck (eX x.p4 (al Y.p4)) (aF (0,Y.p2,Y.p3,(cw Y.p4 x.p4 (x.p2,(aJ (T:=dZ) Y.p4 x.p4).2)),Y.q5))) (jn (α:=Bool×dj×Int×Int×gH×θ×List dz) (bd x.p3 7 (aF ((decide ((x.p3:Int)=7)),Y.2)) (aF ((decide ((x.p3:Int)=11)),Y.2))) λI=>(bcase I.1 (ck (eX x.p4 (al I.p4)) (aF (0,I.p2,I.p3,(cw I.p4 x.p4 ((-1),(aJ (T:=dZ) I.p4 x.p4).2)),I.q5))) (bd x.p3 8 (kl dZ I.p4 x.p4 λz6=>(obind (rF (z6.2,[x.p2])) λy7=>(ck (eX x.p4 (al I.p4)) (aF (0,I.p2,I.p3,(cw I.p4 x.p4 ((aJ (T:=dZ) I.p4 x.p4).1,y7)),I.q5))))) (bd x.p3 9 (kl dZ I.p4 x.p4 λz8=>(obind (qC (z8.2,x.p2)) λy9=>(ck (eX x.p4 (al I.p4)) (aF (0,I.p2,I.p3,(cw I.p4 x.p4 ((aJ (T:=dZ) I.p4 x.p4).1,y9)),I.q5))))) (bd x.p3 12 (aF (0,x.p2,I.q3)) (bd x.p3 13 (aF (0,(-1),I.q3)) (bd x.p3 14 (ck (eX x.p2 (al I.q6)) (aF (0,I.p2,I.p3,I.p4,I.p5,(cw I.q6 x.p2 ((aJ (T:=ib) I.q6 x.p2).1,((aJ (T:=ib) I.q6 x.p2).2).1,ai))))) (bd x.p3 15 (ck (eX x.p2 (al I.q6)) (aF (0,I.p2,I.p3,I.p4,I.p5,(cw I.q6 x.p2 ((aJ (T:=ib) I.q6 x.p2).1,((aJ (T:=ib) I.q6 x.p2).2).1,aj))))) (bd x.p3 16 (bF lZ I.2.1.p2 x.p4 λz10=>(ck (eX z10.2 (al I.p4)) (ck (eX x.p2 (al I.q6)) (ck (eX x.p2 (al (cw I.q6 x.p2 (3,(aJ (T:=ib) I.q6 x.p2).2)))) (aF (0,I.p2,I.p3,(cw I.p4 z10.2 ((-1),(aJ (T:=dZ) I.p4 z10.2).2)),I.p5,(cw (cw I.q6 x.p2 (3,(aJ (T:=ib) I.q6 x.p2).2)) x.p2 ((aJ (T:=ib) (cw I.q6 x.p2 (3,(aJ (T:=ib) I.q6 x.p2).2)) x.p2).1,x.p4,((aJ (T:=ib) (cw I.q6 x.p2 (3,(aJ (T:=ib) I.q6 x.p2).2)) x.p2).2).2)))))))) (bd x.p3 17 (bF lZ I.2.1.p2 x.p4 λz11=>(ck (eX z11.2 (al I.p4)) (ck (eX x.p2 (al I.q6)) (ck (eX x.p2 (al (cw I.q6 x.p2 (2,(aJ (T:=ib) I.q6 x.p2).2)))) (aF (0,I.p2,I.p3,(cw I.p4 z11.2 (x.p2,(aJ (T:=dZ) I.p4 z11.2).2)),I.p5,(cw (cw I.q6 x.p2 (2,(aJ (T:=ib) I.q6 x.p2).2)) x.p2 ((aJ (T:=ib) (cw I.q6 x.p2 (2,(aJ (T:=ib) I.q6 x.p2).2)) x.p2).1,0,((aJ (T:=ib) (cw I.q6 x.p2 (2,(aJ (T:=ib) I.q6 x.p2).2)) x.p2).2).2)))))))) (bd x.p3 18 (obind (jI ((I.p2,x.p4),I.q4)) λy12=>(bz 0 (aY y12) (bF aM y12 0 λz13=>(jn (α:=Int×Int×Int×gH×θ×List dz) (obind (qE (y12,x.q5)) λy15=>(bcase y15 (aF (x.q5,I.2.2)) (aF (z13,I.2.2)))) λM=>(ck (eX M.1 (al M.q5)) (aF (M.1,M.2.1,M.p2,M.p3,M.p4,(cw M.q5 M.1 (4,(aJ (T:=ib) M.q5 M.1).2))))))) (aF ((-1),I.2.2)))) (bd x.p3 19 (obind (jI ((I.p2,x.p4),I.q4)) λy16=>(iter (σ:=Int×Int×Int×gH×θ×List dz) (λJ=>(bz J.1 (aY y16) (bF aM y16 J.1 λZ=>(ck (eX Z (al J.q5)) (cK ((cF J.1),J.2.1,J.p2,J.p3,J.p4,(cw J.q5 Z (4,(aJ (T:=ib) J.q5 Z).2)))))) (aF (bP ((aY y16),J.2))))) (0,I.2.2))) (bd x.p3 20 (ck (eX x.p4 (al I.q6)) (aF (0,I.p2,I.p3,I.p4,I.p5,(cw I.q6 x.p4 (1,(aJ (T:=ib) I.q6 x.p4).2))))) (bd x.p3 22 (ck (eX x.p4 (al I.p5)) (aF (0,I.p2,I.p3,I.p4,(cw I.p5 x.p4 ai),I.q6))) (aF (0,I.2.2)))))))))))))))))))) λx3=>(af ((x3.p3,x3.2.1,x3.q4),x3.1,ai))))))
def uC (x:dj×List (Int×List jX)):Option xo:=
 (obind (jJ x) λy1=>(bcase (!y1) (af ((([]:List (Int×η)),0,([]:θ),([]:List dz)),([]:η),([]:η),([]:List um))) (obind (rD x.1) λy2=>(iter (σ:=Int×Ak×Int×pm×η) (λM=>(bz M.1 (aY M.2.1.1.1) (bF kE M.2.1.1.1 M.1 λZ=>(bB (a_ (al M.q4+al ([Z.2.2.2.2])) 8) (cK ((cF M.1),M.2.1,M.p2,M.p3,(M.q4++([Z.2.2.2.2])))))) (obind (iter (σ:=Int×Ak×Int×pm×η×η) (λJ=>(bz J.1 (aY J.2.1.1.p3) (bB (a_ (al J.q5+al ([0])) 8) (cK ((cF J.1),J.2.1,J.p2,J.p3,J.p4,(J.q5++([0]))))) (obind (iter (σ:=Int×Ak×Int×pm×η×η×List um) (λI=>(bz I.1 (aY I.2.1.2) (tO I.1 I.2.1.2 (lt ((aJ (T:=xq) I.2.1.2 I.1).1) λY=>(bB (c6 0 Y&&c6 Y Y&&a_ (aT Y) 8) (tO I.1 I.2.1.2 (lt ((aJ (T:=xq) I.2.1.2 I.1).1) λU=>(bB (c6 0 U&&c6 U U&&a_ (aT U) 24) (bB (a_ (al I.q6+al ([(0,(aG (aT Y) (0:Int)),(aG (aT U) ([]:η)),0)])) 64) (cK ((cF I.1),I.2.1,I.p2,I.p3,I.p4,I.p5,(I.q6++([(0,(aG (aT Y) (0:Int)),(aG (aT U) ([]:η)),0)]))))))))))) (aF I.q3))) (0,J.2.1,J.p2,J.p3,J.p4,J.q5,([]:List um))) λr=>af (bP r)))) (0,M.2.1,M.p2,M.p3,M.q4,([]:η))) λr=>af (bP r)))) (0,x,0,y2,([]:η))))))
def wL (x:Ak×pm×η×η×List um):Option (Bool):=
 (jn (α:=Bool×Ak×pm×η×η×List um) (obind (jJ x.1) λy2=>(bcase (!y2) (aF (ai,x)) (obind (rE (x.1.1,x.2.1)) λy3=>(bcase (!y3) (aF (ai,x)) (iR (aY x.p2) (aY x.1.1.1) (aF (ai,x)) (iR (aY x.p3) (aY x.1.1.p3) (aF (ai,x)) (aF ((!decide (((aY x.q4):Int)=(aY x.1.2))),x)))))))) λU=>(bcase U.1 (af aj) (iter (σ:=Int×Ak×pm×η×η×List um) (λI=>(bz I.1 (aY I.2.1.2) (bF e_ I.q5 I.1 λJ=>(jn (α:=Bool×Ak×pm×η×η×List um) (bz J.1 0 (aF (ai,I.2)) (bF xq I.2.1.2 I.1 λz7=>(iT (aY z7.2) J.1 (aF (ai,I.2)) (bF xq I.2.1.2 I.1 λZ=>(iR (aY J.2.1) Z.1 (aF (ai,I.2)) (bF xq I.2.1.2 I.1 λY=>(aF ((!decide (((aY J.p2):Int)=Y.1)),I.2)))))))) λM=>(bcase M.1 (aF aj) (cK ((cF I.1),M.2))))) (aF ai))) (0,U.2))))
def wJ (x:Int):Option (Int):=
 (jn (α:=Bool×η) (bz x 6 (aF (ai,[3,3,4,4,5,6,7,8,9,10,11,12,13,14,15,16,18,19,20,21,22,23,2])) (aF ((fV 28 x),[3,3,4,4,5,6,7,8,9,10,11,12,13,14,15,16,18,19,20,21,22,23,2]))) λI=>(bcase I.1 (af 0) (kl aM I.2 (bk .i64 (x-6)) λJ=>(af J))))
def sD (x:jX×Int×η×(List η)×Int):Option (Int):=
 (jn (α:=Bool×jX×Int×η×(List η)×Int) (bd x.1.1 6 (aF ((decide ((x.1.1:Int)=6)),x)) (aF ((decide ((x.1.1:Int)=27)),x))) λI=>(bcase I.1 (af I.2.1.p2) (bd x.1.1 7 (bF aM I.p3 I.2.1.p3 λU=>(obind (rG (U,I.2.1.p4)) λZ=>(af (bk .i64 (I.2.1.p2+Z))))) (bd x.1.1 9 (bF aM I.p3 I.2.1.p3 λM=>(obind (rG (M,I.2.1.p4)) λY=>(af (bk .i64 (I.2.1.2.1+Y))))) (jn (α:=Bool×Int×Int×Int×Int×Int×Int) (bd x.1.1 10 (aF ((decide ((x.1.1:Int)=10)),I.2.1)) (bd x.1.1 17 (aF ((decide ((x.1.1:Int)=17)),I.2.1)) (bd x.1.1 18 (aF ((decide ((x.1.1:Int)=18)),I.2.1)) (bd x.1.1 19 (aF ((decide ((x.1.1:Int)=19)),I.2.1)) (bd x.1.1 20 (aF ((decide ((x.1.1:Int)=20)),I.2.1)) (aF ((decide ((x.1.1:Int)=28)),I.2.1))))))) λJ=>(bcase J.1 (af (-1)) (af J.p2)))))))
def nS (x:Ak×xo×Int):Option (gj×Bool):=
 (jn (α:=Bool×Ak×xo×Int×Int×Int×Int×Int) (obind (wL (x.1,x.2.1)) λy2=>(bcase (!y2) (aF (ai,x.1,x.2.1,0,0,0,0,0)) (bz x.2.2 0 (aF (ai,x.1,x.2.1,0,0,0,0,0)) (aF ((c6 (aY x.1.2) x.2.2),x.1,x.2.1,0,0,0,0,0))))) λZ=>(bcase Z.1 (af ((0,0,0,0,0,([]:η),([]:η)),aj)) (bF e_ Z.p2.q3 x.2.2 λz3=>(bF xq Z.2.1.2 x.2.2 λz4=>(bF rf z4.2 z3.1 λM=>(bF ib Z.p2.1.q3 x.2.2 λz6=>(bd z6.1 1 (af ((x.2.2,1,(-1),0,(-1),([]:η),([]:η)),ai)) (bd z6.1 4 (bF ib Z.p2.1.q3 x.2.2 λz7=>(af ((x.2.2,17,z7.2.1,0,M.q5,([]:η),([]:η)),ai))) (bd z6.1 2 (obind (wJ M.1) λy8=>(obind (sD (M,z3)) λy9=>(bd y8 0 (af ((0,0,0,0,0,([]:η),([]:η)),aj)) (jn (α:=wn×um×jX×wn×η) (bd M.1 10 (bF (.sl aM) z3.p2 M.2.1 λz11=>(bB (a_ (al (z11:η)) 8) (aF (Z.q3,z3,M,(x.2.2,y8,y9,0,M.q5),z11)))) (jn (α:=Bool×wn×um×jX×Int×Int×Int×Int×Int) (bd M.1 7 (aF ((decide ((M.1:Int)=7)),Z.q3,z3,M,x.2.2,y8,y9,0,M.q5)) (aF ((decide ((M.1:Int)=9)),Z.q3,z3,M,x.2.2,y8,y9,0,M.q5))) λI=>(bcase I.1 (bF (.sl aM) I.p2.p2 I.p3.p3 λz13=>(bB (a_ (al (z13:η)) 8) (aF (I.2.1,I.p2,I.p3,I.q4,z13)))) (aF (I.2.1,I.p2,I.p3,I.q4,([]:η)))))) λY=>(jn (α:=wn×wn×η×η) (jn (α:=Bool×wn×um×jX×wn×η) (bd Y.p2.1 8 (aF (ai,Y)) (bd Y.p2.1 9 (aF (ai,Y)) (aF ((decide ((Y.p2.1:Int)=26)),Y)))) λJ=>(bcase J.1 (bF (.sl aM) J.p2.p2 J.p3.p2 λz16=>(bB (a_ (al (z16:η)) 8) (aF (J.2.1,J.p4,J.q5,z16)))) (aF (J.2.1,J.p4,J.q5,([]:η))))) λU=>(af ((U.2.1.1,U.2.1.2.1,U.2.1.p2,U.2.1.p3,U.2.1.q4,U.2.2),ai))))))) (af ((0,0,0,0,0,([]:η),([]:η)),aj)))))))))))
def mU (x:gP×gz×(List fA)×cj×cj×List π):Option eL:=
 (obind (rD x) λM=>(bB (c6 0 (aY x.p3)&&c6 (aY x.p3) (aY x.p3)&&a_ (aT (aY x.p3)) 8) (bB (c6 0 (aY x.p4)&&c6 (aY x.p4) (aY x.p4)&&a_ (aT (aY x.p4)) 8) (iter (σ:=Int×dj×Int×pm×η×η×η) (λI=>(bz I.1 (aY I.2.1.1) (bF kE I.2.1.1 I.1 λJ=>(bB (a_ (al I.p4+al ([J.2.2.2.2])) 8) (cK ((cF I.1),I.2.1,I.p2,I.p3,(I.p4++([J.2.2.2.2])),I.q5)))) (aF I.q3))) (0,x,0,M,([]:η),(aG (aT (aY x.p3)) (0:Int)),(aG (aT (aY x.p4)) (0:Int)))))))
def wI (x:dj×pm×η×η×η):Option (Bool):=
 (jn (α:=Bool) (obind (rE (x.1,x.2.1)) λI=>(bcase I (bd (aY x.p2) (aY x.1.1) (bd (aY x.p3) (aY x.1.p3) (aF (decide (((aY x.q4):Int)=(aY x.1.p4)))) (aF aj)) (aF aj)) (aF aj))) λJ=>(af J))
def C' (x:ν):Option (Bool):=
 (jn (α:=Bool) (iT 0 x.1 (aF (fV x.1 x.2)) (aF aj)) λI=>(af I))
def nR (x:η×Int):Option (Bool):=
 (iter (σ:=Int) (λI=>(bz I (aY x.1) (jn (α:=Bool) (bF aM x.1 I λY=>(bz Y 1 (aF ai) (bF aM x.1 I λU=>(iT x.2 U (aF ai) (bz 0 I (bF aM x.1 I λM=>(bF aM x.1 (bk .i64 (I-1)) λJ=>(aF (c6 M J)))) (aF aj)))))) λZ=>(bcase Z (aF aj) (cK (cF I)))) (aF ai))) 0)
def uA (x:eL×Int×Int×Int×Int×Int×η×η):Option (Bool):=
 (bd x.p2 3 (bF aM x.1.2.1 x.p3 λU=>(af (decide ((x.p4:Int)=U)))) (bd x.p2 23 (bF aM x.1.p2 x.p3 λM=>(af (decide ((x.p4:Int)=M)))) (bd x.p2 5 (jn (α:=Bool) (bd x.p4 0 (aF ai) (aF (decide ((x.p4:Int)=1)))) λx3=>(af x3)) (jn (α:=Bool×eL×Int×Int×Int×Int×Int×η×η) (bd x.p2 4 (aF ((decide ((x.p2:Int)=4)),x)) (aF ((decide ((x.p2:Int)=22)),x))) λI=>(bcase I.1 (af ai) (bd x.p2 18 (obind (nU (I.2.1.1,I.p4)) λJ=>(bd (aY J) 0 (af (decide ((I.p5:Int)=(-1)))) (jn (α:=Bool) (iT 0 I.p5 (bz I.p5 (aY I.2.1.1.q3) (obind (qE (J,I.p5)) λZ=>(aF Z)) (aF aj)) (aF aj)) λx6=>(af x6)))) (bd x.p2 19 (obind (nU (I.2.1.1,I.p4)) λY=>(af (decide ((I.p5:Int)=(aY Y))))) (af (decide ((I.p5:Int)=0))))))))))
def rC (x:dj×eL×Int×Int×Int×Int×Int×η×η):Option (eL×Bool):=
 (jn (α:=Bool×dj×eL×gj×Int) (obind (wI (x.1,x.2.1)) λy2=>(bcase (!y2) (aF (ai,x.1,x.2.1,x.2.2,0)) (obind (C' (x.p2,(aY x.1.p4))) λy3=>(bcase (!y3) (aF (ai,x.1,x.2.1,x.2.2,0)) (bz x.p3 1 (aF (ai,x.1,x.2.1,x.2.2,0)) (bz 23 x.p3 (aF (ai,x.1,x.2.1,x.2.2,0)) (obind (kn (x.1,x.2.1.1,x.p2,x.p3,x.p4)) λy4=>(aF ((!y4),x.1,x.2.1,x.2.2,0))))))))) λx1=>(bcase x1.1 (af (((([]:List (Int×η)),0,([]:θ),([]:List dz)),([]:η),([]:η),([]:η)),aj)) (jn (α:=dj×eL×gj×Int) (jn (α:=Bool×dj×eL×gj×Int) (bd x1.p3.2.1 1 (aF (ai,x1.2)) (aF ((decide ((x1.p3.2.1:Int)=2)),x1.2))) λx6=>(bcase x6.1 (iR x6.p3.p4 (-1) (cK (((([]:List (Int×η)),0,([]:θ),([]:List dz)),([]:η),([]:η),([]:η)),aj)) (aF x6.2)) (jn (α:=Bool×dj×eL×gj×Int) (obind (C' (x6.p3.p4,(aY x6.2.1.q5))) λy8=>(bcase (!y8) (aF (ai,x6.2)) (bF o7 x6.2.1.q5 x6.p3.p4 λz9=>(aF ((!decide ((z9.1:Int)=x6.p3.1)),x6.2))))) λx7=>(bcase x7.1 (cK (((([]:List (Int×η)),0,([]:θ),([]:List dz)),([]:η),([]:η),([]:η)),aj)) (aF x7.2))))) λx5=>(jn (α:=Bool×dj×eL×gj×Int) (bd x5.p2.2.1 3 (aF (ai,x5)) (aF ((decide ((x5.p2.2.1:Int)=4)),x5))) λZ=>(jn (α:=Bool×dj×eL×gj×Int) (bz 0 (aY Z.p3.p5) (iR Z.p3.2.1 5 (bcase Z.1 (bF kE Z.2.1.1 Z.p3.p2 λz12=>(aF ((!(!decide ((z12.2.2.1:Int)=0))),Z.2))) (aF (ai,Z.2))) (aF (aj,Z.2))) (aF (aj,Z.2))) λx11=>(bcase x11.1 (af (((([]:List (Int×η)),0,([]:θ),([]:List dz)),([]:η),([]:η),([]:η)),aj)) (jn (α:=Bool×dj×eL×gj×Int) (bz 0 (aY x11.p3.q6) (iR x11.p3.2.1 4 (aF ((!decide ((x11.p3.2.1:Int)=22)),x11.2)) (aF (aj,x11.2))) (aF (aj,x11.2))) λU=>(bcase U.1 (af (((([]:List (Int×η)),0,([]:θ),([]:List dz)),([]:η),([]:η),([]:η)),aj)) (jn (α:=Bool×dj×eL×gj×Int) (bF aM U.p2.q3 U.p3.1 λz15=>(obind (nR (U.p3.p5,z15)) λy16=>(bcase (!y16) (aF (ai,U.2)) (bF aM U.p2.q3 U.p3.1 λz17=>(obind (nR (U.p3.q6,z17)) λy18=>(bcase (!y18) (aF (ai,U.2)) (obind (uA (U.p2,U.p3)) λy19=>(aF ((!y19),U.2))))))))) λI=>(bcase I.1 (af (((([]:List (Int×η)),0,([]:θ),([]:List dz)),([]:η),([]:η),([]:η)),aj)) (bB (a_ (al ([]:η)+al I.p2.2.1) 8) (bB (a_ (al ([]:η)+al I.p2.p2) 8) (bB (a_ (al ([]:η)+al I.p2.q3) 8) (jn (α:=Int×dj×eL×gj×Int×Int×η×η×η) (bd I.p3.2.1 18 (aF (I.p3.p3,I.2.1,I.p2,I.p3,I.q4,0,(([]:η)++I.p2.2.1),(([]:η)++I.p2.p2),(([]:η)++I.p2.q3))) (aF ((-1),I.2.1,I.p2,I.p3,I.q4,0,(([]:η)++I.p2.2.1),(([]:η)++I.p2.p2),(([]:η)++I.p2.q3)))) λJ=>(obind (py (J.2.1,J.p2.1,J.p3.1,J.p3.2.1,J.p3.p2,J.1)) λy21=>(jn (α:=gj×Int×pm×η×η×η) (bd J.p3.2.1 4 (ck (eX J.p3.p2 (al J.p6)) (aF (J.p3,J.p4,y21.1,(cw J.p6 J.p3.p2 J.p3.p3),J.q7))) (aF (J.p3,J.p4,y21.1,J.q6))) λM=>(jn (α:=gj×Int×pm×η×η×η) (bd M.1.2.1 22 (ck (eX M.1.p2 (al M.p4)) (aF (M.1,M.2.1,M.p2,M.p3,(cw M.p4 M.1.p2 M.1.p3),M.q5))) (aF M)) λY=>(kl aM Y.q5 Y.1.1 λz24=>(ck (eX Y.1.1 (al Y.q5)) (af ((Y.p2,Y.p3,Y.p4,(cw Y.q5 Y.1.1 (cF z24))),ai)))))))))))))))))))))
def rB (x:(List gj)×Int×Int×η):Option (Bool):=
 (iter (σ:=Int) (λJ=>(bz J (aY x.q3) (iter (σ:=Int×Bool×Int) (λI=>(bz I.2.2 x.2.1 (jn (α:=Int×Bool) (bF gA x.1 I.2.2 λz4=>(iR z4.1 x.p2 (aF (I.1,I.2.1)) (jn (α:=Bool) (bcase I.2.1 (aF ai) (bF aM x.q3 J λZ=>(bd I.1 Z (bF gA x.1 I.2.2 λY=>(bd Y.2.1 3 (aF ai) (bF gA x.1 I.2.2 λU=>(aF (decide ((U.2.1:Int)=23)))))) (aF aj)))) λx5=>(aF ((cF I.1),x5))))) λM=>(cK (M.1,M.2,(cF I.2.2)))) (obind (bcase (!I.2.1) (aF aj) (cK (cF J))) λr=>af (bP r)))) (0,aj,0)) (aF ai))) 0)
def uB (x:dj×List gj):Option ν:=
 (bz 400 (aY x.2) (af (0,2)) (obind (hY x.1) λy1=>(bcase (!y1) (af (0,1)) (obind (mU x.1) λy2=>(iter (σ:=Int×(dj×List gj)×pm×η×η×η) (λI=>(bz I.1 (aY I.2.1.2) (bF gA I.2.1.2 I.1 λJ=>(obind (rC (I.2.1.1,I.2.2,J)) λM=>(jn (α:=Bool×(dj×List gj)×eL×pm×η×η×η) (bcase (!M.2) (aF (ai,I.2.1,I.2.2,M.1)) (obind (rB (I.2.1.2,I.1,J.1,J.p5)) λZ=>(bcase (!Z) (aF (ai,I.2.1,I.2.2,M.1)) (obind (rB (I.2.1.2,I.1,J.1,J.q6)) λY=>(aF ((!Y),I.2.1,I.2.2,M.1)))))) λU=>(bcase U.1 (aF (I.1,12)) (cK ((cF I.1),U.2.1,U.q3)))))) (aF (0,0)))) (0,x,y2))))))
def KG {Z W V:Type} (i:Int) (t1:Z->η->(List η)->W) (t2:W->V) (t3:V->um->List um) (x6:Int) (I:Ak×pm×(ν)×Int×wn×gj×(ν)×η×η×Z×η×List η):Option Ej:=
 (jn (α:=pm×(ν)×Int×wn×gj×um×η×η×V) (jn (α:=Bool×Ak×pm×(ν)×Int×wn×gj×um×η×η×W) (iR I.p5.2.1 16 (aF ((!decide ((I.p5.2.1:Int)=2)),I.1,I.2.1,I.p2,I.p3,I.p4,I.p5,(x6,I.p10,I.q11,(cF I.p6.2)),I.p7,I.p8,(t1 I.p9 I.p10 I.q11))) (aF (aj,I.1,I.2.1,I.p2,I.p3,I.p4,I.p5,(x6,I.p10,I.q11,(cF I.p6.2)),I.p7,I.p8,(t1 I.p9 I.p10 I.q11)))) λJ=>(bcase J.1 (bF xq J.2.1.2 J.p3.1 λU=>(obind (nj (U,J.p7)) λY=>(aF (J.p2,J.p3,J.p4,J.p5,J.p6,Y.1,J.p8,J.p9,(t2 J.q10))))) (aF (J.p2,J.p3,J.p4,J.p5,J.p6,J.p7,J.p8,J.p9,(t2 J.q10))))) λM=>(bd M.2.1.1 i (af ((M.1,M.p6,M.p7,(t3 M.q8 M.p5)),M.p4,ai)) ah))
def SG {Z:Type} (i:Int) (cp:(pm×η×η×List um)->Option (Int×gH×θ×(List dz)×η×η×Z×η×List η)) (Y ev:Z->Int) (k:Int->(Ak×pm×(ν)×Int×wn×gj×(ν)×η×η×Z×η×List η)->Option Ej) (x:Ak×xo×Int×Int):Option Ej:=
 (obind (nS (x.1,x.2.1,x.p2)) λM=>(bcase (!M.2) (af (((([]:List (Int×η)),0,([]:θ),([]:List dz)),([]:η),([]:η),([]:List um)),(0,0,0,0,0,([]:η),([]:η)),aj)) (obind (py (x.1.1,x.2.1.1,x.p2,M.1.2.1,M.1.p2,x.q3)) λy2=>(bcase (!y2.2.2) (af (((([]:List (Int×η)),0,([]:θ),([]:List dz)),([]:η),([]:η),([]:List um)),(0,0,0,0,0,([]:η),([]:η)),aj)) (obind (cp x.2.1) λU=>(bd x.p2 i (bF xq x.1.2 i λz4=>(bF rf z4.2 (Y U.p6) λz5=>(jn (α:=Int×Ak×pm×(ν)×Int×wn×gj×(ν)×jX×η×η×Z×η×List η) (jn (α:=Bool×Ak×pm×(ν)×Int×wn×gj×(ν)×jX×η×η×Z×η×List η) (bd M.1.2.1 1 (aF ((decide ((M.1.2.1:Int)=1)),x.1,y2.1,(i,x.q3),0,(0,0,0,0,0),(M.1.1,M.1.2.1,M.1.p2,y2.2.1,M.1.q4),((Y U.p6),(ev U.p6)),z5,U.q4)) (bd M.1.2.1 16 (aF ((decide ((M.1.2.1:Int)=16)),x.1,y2.1,(i,x.q3),0,(0,0,0,0,0),(M.1.1,M.1.2.1,M.1.p2,y2.2.1,M.1.q4),((Y U.p6),(ev U.p6)),z5,U.q4)) (aF ((decide ((M.1.2.1:Int)=2)),x.1,y2.1,(i,x.q3),0,(0,0,0,0,0),(M.1.1,M.1.2.1,M.1.p2,y2.2.1,M.1.q4),((Y U.p6),(ev U.p6)),z5,U.q4)))) λI=>(bcase I.1 (aF (I.p7.1,I.2)) (bd M.1.2.1 3 (kl aM I.p9 I.p6.p2 λz8=>(aF ((bk .i64 ((Y U.p6)+1)),I.2.1,I.p2,I.p3,I.p4,I.p5,(I.p6.1,I.p6.2.1,I.p6.p2,z8,I.p6.q4),I.q7))) (bd M.1.2.1 23 (kl aM I.p10 I.p6.p2 λz9=>(aF ((bk .i64 ((Y U.p6)+1)),I.2.1,I.p2,I.p3,I.p4,I.p5,(I.p6.1,I.p6.2.1,I.p6.p2,z9,I.p6.q4),I.q7))) (bd M.1.2.1 4 (kl aM I.p12 I.p8.p2 λz10=>(ck (eX I.p6.p2 (al I.p9)) (aF ((bk .i64 ((Y U.p6)+1)),I.2.1,I.p2,I.p3,I.p4,I.p5,(I.p6.1,I.p6.2.1,I.p6.p2,z10,I.p6.q4),I.p7,I.p8,(cw I.p9 I.p6.p2 z10),I.q10)))) (bd M.1.2.1 22 (kl aM I.p12 I.p8.p2 λz11=>(ck (eX I.p6.p2 (al I.p10)) (aF ((bk .i64 ((Y U.p6)+1)),I.2.1,I.p2,I.p3,I.p4,I.p5,(I.p6.1,I.p6.2.1,I.p6.p2,z11,I.p6.q4),I.p7,I.p8,I.p9,(cw I.p10 I.p6.p2 z11),I.q11)))) (bd M.1.2.1 5 (kl aM I.p12 I.p8.2.1 λz12=>(bd z12 0 (aF (I.p8.p2,I.2.1,I.p2,I.p3,I.p4,I.p5,(I.p6.1,I.p6.2.1,I.p6.p2,0,I.p6.q4),I.q7)) (aF ((bk .i64 ((Y U.p6)+1)),I.2.1,I.p2,I.p3,I.p4,I.p5,(I.p6.1,I.p6.2.1,I.p6.p2,1,I.p6.q4),I.q7)))) (aF ((bk .i64 ((Y U.p6)+1)),I.2))))))))) λx6=>(jn (α:=Ak×pm×(ν)×Int×wn×gj×(ν)×η×η×Z×η×List η) (jn (α:=Bool×Ak×pm×(ν)×Int×wn×gj×(ν)×jX×η×η×Z×η×List η) (bd x6.p6.2.1 3 (aF (ai,x6.2)) (aF ((decide ((x6.p6.2.1:Int)=23)),x6.2))) λJ=>(bcase J.1 (ck (eX J.p8.2.1 (al J.p12)) (ck (eX J.p8.2.1 (al J.q13)) (aF (J.2.1,J.p2,J.p3,J.p4,J.p5,J.p6,J.p7,J.p9,J.p10,J.p11,(cw J.p12 J.p8.2.1 J.p6.p3),(cw J.q13 J.p8.2.1 ([J.p7.2])))))) (aF (J.2.1,J.p2,J.p3,J.p4,J.p5,J.p6,J.p7,J.q9)))) λx13=>(k x6.1 x13))))) ah))))))
def nh (x:pm×η×η×List um):Option (Int×gH×θ×(List dz)×η×η×(ν)×η×List η):=
 (obind (im x.1) λI=>(bB (a_ (al ([]:η)+al x.2.1) 8) (bB (a_ (al ([]:η)+al x.p2) 8) (bz 0 (aY x.q3) (bF e_ x.q3 0 λM=>(obind (ct M) λU=>(bz 1 (aY x.q3) (bF e_ x.q3 1 λJ=>(obind (ct J) λY=>ah)) (af (I.1,I.2.1,I.p2,I.q3,(([]:η)++x.2.1),(([]:η)++x.p2),U))))) ah))))
def gg (x:Ak×xo×Int×Int):Option Ej:=
 SG 0 nh (λz=>z.1) (λz=>z.2) (KG 0 (λz R T=>(z.1,R,T,z.2)) (λw=>((w.1,w.2.1,w.2.2.1,w.2.2.2))) (λv t=>[t])) x
def ng (x:pm×η×η×List um):Option (Int×gH×θ×(List dz)×η×η×Ya29×η×List η):=
 (obind (im x.1) λJ=>(bB (a_ (al ([]:η)+al x.2.1) 8) (bB (a_ (al ([]:η)+al x.p2) 8) (bz 0 (aY x.q3) (bF e_ x.q3 0 λZ=>(obind (ct Z) λM=>(bz 1 (aY x.q3) (bF e_ x.q3 1 λY=>(obind (ct Y) λI=>(bz 2 (aY x.q3) (bF e_ x.q3 2 λU=>(obind (ct U) λy7=>ah)) (af (J.1,J.2.1,J.p2,J.q3,(([]:η)++x.2.1),(([]:η)++x.p2),(M.1.1,M.1.2,I.1.1,I.2.1,I.2.2,I.1.2),M.2))))) ah))) ah))))
def gE (x:Ak×xo×Int×Int):Option Ej:=
 SG 0 ng (λz=>z.1) (λz=>z.2.1) (KG 0 (λz R T=>(z.1,R,T,z.2.1,z.2.2)) (λw=>((w.1,w.2.1,w.2.2.1,w.2.2.2.1),w.2.2.2.2)) (λv t=>[t,v.2])) x
def ne (x:pm×η×η×List um):Option (Int×gH×θ×(List dz)×η×η×(um×Int×Int)×η×List η):=
 (obind (im x.1) λJ=>(bB (a_ (al ([]:η)+al x.2.1) 8) (bB (a_ (al ([]:η)+al x.p2) 8) (bz 0 (aY x.q3) (bF e_ x.q3 0 λZ=>(obind (ct Z) λI=>(bz 1 (aY x.q3) (bF e_ x.q3 1 λY=>(obind (ct Y) λM=>(bz 2 (aY x.q3) (bF e_ x.q3 2 λU=>(obind (ct U) λy7=>ah)) (af (J.1,J.2.1,J.p2,J.q3,(([]:η)++x.2.1),(([]:η)++x.p2),((I.1.1,I.2.1,I.2.2,I.1.2),M.1),M.2))))) ah))) ah))))
def gf (x:Ak×xo×Int×Int):Option Ej:=
 SG 1 ne (λz=>z.2.1) (λz=>z.2.2) (KG 1 (λz R T=>(z.1,z.2.1,R,T,z.2.2)) (λw=>(w.1,(w.2.1,w.2.2.1,w.2.2.2.1,w.2.2.2.2))) (λv t=>[v.1,t])) x
def m_ (x:pm×η×η×List um):Option (Int×gH×θ×(List dz)×η×η×Ya27×η×List η):=
 (obind (im x.1) λM=>(bB (a_ (al ([]:η)+al x.2.1) 8) (bB (a_ (al ([]:η)+al x.p2) 8) (bz 0 (aY x.q3) (bF e_ x.q3 0 λz2=>(obind (ct z2) λU=>(bz 1 (aY x.q3) (bF e_ x.q3 1 λz4=>(obind (ct z4) λJ=>(bz 2 (aY x.q3) (bF e_ x.q3 2 λZ=>(obind (ct Z) λI=>(bz 3 (aY x.q3) (bF e_ x.q3 3 λY=>(obind (ct Y) λy9=>ah)) (af (M.1,M.2.1,M.p2,M.q3,(([]:η)++x.2.1),(([]:η)++x.p2),(U.1.1,U.1.2,(J.1.1,J.2.1,J.2.2,J.1.2),I.1.1,I.2.1,I.2.2,I.1.2),U.2))))) ah))) ah))) ah))))
def jz (x:Ak×xo×Int×Int):Option Ej:=
 SG 0 m_ (λz=>z.1) (λz=>z.2.1) (KG 0 (λz R T=>(z.1,R,T,z.2.1,z.p2,z.q3)) (λw=>((w.1,w.2.1,w.2.2.1,w.2.2.2.1),w.2.2.2.2.1,w.2.2.2.2.2)) (λv t=>[t,v.2.1,v.2.2])) x
def m8 (x:pm×η×η×List um):Option (Int×gH×θ×(List dz)×η×η×Ya28×η×List η):=
 (obind (im x.1) λM=>(bB (a_ (al ([]:η)+al x.2.1) 8) (bB (a_ (al ([]:η)+al x.p2) 8) (bz 0 (aY x.q3) (bF e_ x.q3 0 λz2=>(obind (ct z2) λJ=>(bz 1 (aY x.q3) (bF e_ x.q3 1 λz4=>(obind (ct z4) λU=>(bz 2 (aY x.q3) (bF e_ x.q3 2 λZ=>(obind (ct Z) λI=>(bz 3 (aY x.q3) (bF e_ x.q3 3 λY=>(obind (ct Y) λy9=>ah)) (af (M.1,M.2.1,M.p2,M.q3,(([]:η)++x.2.1),(([]:η)++x.p2),((J.1.1,J.2.1,J.2.2,J.1.2),U.1.1,U.1.2,I.1.1,I.2.1,I.2.2,I.1.2),U.2))))) ah))) ah))) ah))))
def iI (x:Ak×xo×Int×Int):Option Ej:=
 SG 1 m8 (λz=>z.2.1) (λz=>z.p2) (KG 1 (λz R T=>(z.1,z.2.1,R,T,z.p2,z.q3)) (λw=>(w.1,(w.2.1,w.2.2.1,w.2.2.2.1,w.2.2.2.2.1),w.2.2.2.2.2)) (λv t=>[v.1,t,v.2.2])) x
def m7 (x:pm×η×η×List um):Option (Int×gH×θ×(List dz)×η×η×(um×um×Int×Int)×η×List η):=
 (obind (im x.1) λM=>(bB (a_ (al ([]:η)+al x.2.1) 8) (bB (a_ (al ([]:η)+al x.p2) 8) (bz 0 (aY x.q3) (bF e_ x.q3 0 λz2=>(obind (ct z2) λJ=>(bz 1 (aY x.q3) (bF e_ x.q3 1 λz4=>(obind (ct z4) λI=>(bz 2 (aY x.q3) (bF e_ x.q3 2 λZ=>(obind (ct Z) λU=>(bz 3 (aY x.q3) (bF e_ x.q3 3 λY=>(obind (ct Y) λy9=>ah)) (af (M.1,M.2.1,M.p2,M.q3,(([]:η)++x.2.1),(([]:η)++x.p2),((J.1.1,J.2.1,J.2.2,J.1.2),(I.1.1,I.2.1,I.2.2,I.1.2),U.1),U.2))))) ah))) ah))) ah))))
def hX (x:Ak×xo×Int×Int):Option Ej:=
 SG 2 m7 (λz=>z.p2) (λz=>z.q3) (KG 2 (λz R T=>(z.1,z.2.1,z.p2,R,T,z.q3)) (λw=>(w.1,w.2.1,(w.2.2.1,w.2.2.2.1,w.2.2.2.2.1,w.2.2.2.2.2))) (λv t=>[v.1,v.2.1,t])) x
def m6 (x:pm×η×η×List um):Option (Int×gH×θ×(List dz)×η×η×Ya23×η×List η):=
 (obind (im x.1) λU=>(bB (a_ (al ([]:η)+al x.2.1) 8) (bB (a_ (al ([]:η)+al x.p2) 8) (bz 0 (aY x.q3) (bF e_ x.q3 0 λz2=>(obind (ct z2) λZ=>(bz 1 (aY x.q3) (bF e_ x.q3 1 λz4=>(obind (ct z4) λM=>(bz 2 (aY x.q3) (bF e_ x.q3 2 λz6=>(obind (ct z6) λJ=>(bz 3 (aY x.q3) (bF e_ x.q3 3 λz8=>(obind (ct z8) λI=>(bz 4 (aY x.q3) (bF e_ x.q3 4 λY=>(obind (ct Y) λy11=>ah)) (af (U.1,U.2.1,U.p2,U.q3,(([]:η)++x.2.1),(([]:η)++x.p2),(Z.1.1,Z.1.2,(M.1.1,M.2.1,M.2.2,M.1.2),(J.1.1,J.2.1,J.2.2,J.1.2),I.1.1,I.2.1,I.2.2,I.1.2),Z.2))))) ah))) ah))) ah))) ah))))
def mW (x:Ak×xo×Int×Int):Option Ej:=
 SG 0 m6 (λz=>z.1) (λz=>z.2.1) (KG 0 (λz R T=>(z.1,R,T,z.2.1,z.p2,z.p3,z.q4)) (λw=>((w.1,w.2.1,w.2.2.1,w.2.2.2.1),w.2.2.2.2.1,w.2.2.2.2.2.1,w.2.2.2.2.2.2)) (λv t=>[t,v.2.1,v.2.2.1,v.2.2.2])) x
def mZ (x:pm×η×η×List um):Option (Int×gH×θ×(List dz)×η×η×Ya24×η×List η):=
 (obind (im x.1) λU=>(bB (a_ (al ([]:η)+al x.2.1) 8) (bB (a_ (al ([]:η)+al x.p2) 8) (bz 0 (aY x.q3) (bF e_ x.q3 0 λz2=>(obind (ct z2) λM=>(bz 1 (aY x.q3) (bF e_ x.q3 1 λz4=>(obind (ct z4) λZ=>(bz 2 (aY x.q3) (bF e_ x.q3 2 λz6=>(obind (ct z6) λJ=>(bz 3 (aY x.q3) (bF e_ x.q3 3 λz8=>(obind (ct z8) λI=>(bz 4 (aY x.q3) (bF e_ x.q3 4 λY=>(obind (ct Y) λy11=>ah)) (af (U.1,U.2.1,U.p2,U.q3,(([]:η)++x.2.1),(([]:η)++x.p2),((M.1.1,M.2.1,M.2.2,M.1.2),Z.1.1,Z.1.2,(J.1.1,J.2.1,J.2.2,J.1.2),I.1.1,I.2.1,I.2.2,I.1.2),Z.2))))) ah))) ah))) ah))) ah))))
def mV (x:Ak×xo×Int×Int):Option Ej:=
 SG 1 mZ (λz=>z.2.1) (λz=>z.p2) (KG 1 (λz R T=>(z.1,z.2.1,R,T,z.p2,z.p3,z.q4)) (λw=>(w.1,(w.2.1,w.2.2.1,w.2.2.2.1,w.2.2.2.2.1),w.2.2.2.2.2.1,w.2.2.2.2.2.2)) (λv t=>[v.1,t,v.2.2.1,v.2.2.2])) x
def mY (x:pm×η×η×List um):Option (Int×gH×θ×(List dz)×η×η×Ya25×η×List η):=
 (obind (im x.1) λU=>(bB (a_ (al ([]:η)+al x.2.1) 8) (bB (a_ (al ([]:η)+al x.p2) 8) (bz 0 (aY x.q3) (bF e_ x.q3 0 λz2=>(obind (ct z2) λM=>(bz 1 (aY x.q3) (bF e_ x.q3 1 λz4=>(obind (ct z4) λJ=>(bz 2 (aY x.q3) (bF e_ x.q3 2 λz6=>(obind (ct z6) λZ=>(bz 3 (aY x.q3) (bF e_ x.q3 3 λz8=>(obind (ct z8) λI=>(bz 4 (aY x.q3) (bF e_ x.q3 4 λY=>(obind (ct Y) λy11=>ah)) (af (U.1,U.2.1,U.p2,U.q3,(([]:η)++x.2.1),(([]:η)++x.p2),((M.1.1,M.2.1,M.2.2,M.1.2),(J.1.1,J.2.1,J.2.2,J.1.2),Z.1.1,Z.1.2,I.1.1,I.2.1,I.2.2,I.1.2),Z.2))))) ah))) ah))) ah))) ah))))
def lz (x:Ak×xo×Int×Int):Option Ej:=
 SG 2 mY (λz=>z.p2) (λz=>z.p3) (KG 2 (λz R T=>(z.1,z.2.1,z.p2,R,T,z.p3,z.q4)) (λw=>(w.1,w.2.1,(w.2.2.1,w.2.2.2.1,w.2.2.2.2.1,w.2.2.2.2.2.1),w.2.2.2.2.2.2)) (λv t=>[v.1,v.2.1,t,v.2.2.2])) x
def mX (x:pm×η×η×List um):Option (Int×gH×θ×(List dz)×η×η×Ya42×η×List η):=
 (obind (im x.1) λU=>(bB (a_ (al ([]:η)+al x.2.1) 8) (bB (a_ (al ([]:η)+al x.p2) 8) (bz 0 (aY x.q3) (bF e_ x.q3 0 λz2=>(obind (ct z2) λM=>(bz 1 (aY x.q3) (bF e_ x.q3 1 λz4=>(obind (ct z4) λJ=>(bz 2 (aY x.q3) (bF e_ x.q3 2 λz6=>(obind (ct z6) λI=>(bz 3 (aY x.q3) (bF e_ x.q3 3 λz8=>(obind (ct z8) λZ=>(bz 4 (aY x.q3) (bF e_ x.q3 4 λY=>(obind (ct Y) λy11=>ah)) (af (U.1,U.2.1,U.p2,U.q3,(([]:η)++x.2.1),(([]:η)++x.p2),((M.1.1,M.2.1,M.2.2,M.1.2),(J.1.1,J.2.1,J.2.2,J.1.2),(I.1.1,I.2.1,I.2.2,I.1.2),Z.1),Z.2))))) ah))) ah))) ah))) ah))))
def km (x:Ak×xo×Int×Int):Option Ej:=
 SG 3 mX (λz=>z.p3) (λz=>z.q4) (KG 3 (λz R T=>(z.1,z.2.1,z.p2,z.p3,R,T,z.q4)) (λw=>(w.1,w.2.1,w.2.2.1,(w.2.2.2.1,w.2.2.2.2.1,w.2.2.2.2.2.1,w.2.2.2.2.2.2))) (λv t=>[v.1,v.2.1,v.2.2.1,t])) x
def Aw (x:Ak×xo×Int×Int):Option Ej:=orE (mW x) (orE (mV x) (orE (lz x) (orE (km x) (orE (jz x) (orE (iI x) (orE (hX x) (orE (gE x) (orE (gf x) (gg x)))))))))
def wK (x:Ak×xo×List ν):Option ((List gj)×pm×η×η×List um):=
 (iter (σ:=Int×(List gj)×Ak×xo×Int) (λJ=>(jn (α:=Bool×(List gj)×Ak×xo×Int) (bz J.1 (aY x.2.2) (aF ((fV (aY J.2.1) 400),J.2)) (aF (aj,J.2))) λI=>(bcase I.1 (jn (α:=(List gj)×Ak×xo×Int) (bF iN x.2.2 J.1 λU=>(obind (Aw (I.p2,I.p3,U)) λM=>(bcase M.2.2 (bB (a_ (al I.2.1+al ([M.2.1])) 88) (aF ((I.2.1++([M.2.1])),I.p2,M.1,I.q4))) (aF I.2)))) λY=>(cK ((cF J.1),Y))) (aF (I.2.1,I.p3))))) (0,([]:List gj),x.1,x.2.1,0))
def zA (x:Ak×List ν):Option ((dj×List gj)×pm×η×η×List um):=
 (obind (jJ x.1) λM=>(bcase (!M) (af (((([]:List TW),([]:List (ζ×Bool)),([]:List fA),([]:List ζ),([]:List ζ),([]:List π)),([]:List gj)),(([]:List (Int×η)),0,([]:θ),([]:List dz)),([]:η),([]:η),([]:List um))) (obind (uC x.1) λJ=>(obind (wK (x.1,J,x.2)) λI=>(af ((x.1.1,I.1),I.2))))))
def bA (x:Int×η×Int):Option (Int×η×Int):=
 (jn (α:=Bool×η×Int) (iT (aY x.2.1) x.2.2 (aF (ai,x.2)) (aF ((fV x.1 1),x.2))) λI=>(bcase I.1 (af (0,I.2)) (lt (cF I.2.2) λM=>(bF (.int .u8) I.2.1 (bk .i64 (M-1)) λJ=>(bB (!decide ((x.1:Int)=0)) (af ((Ar (bk .i64 J) x.1),I.2.1,(cF I.2.2))))))))
def rK (x:Int):Option (Xp):=
 (af (d_ (1,x,[],([]:List Xp))))
def pG (x:ζ):Option (Xp):=
 (af (d_ (2,0,x,([]:List Xp))))
def nX (x:Int×Xp×Xp):Option (Xp):=
 (af (d_ (x.1,0,[],[d_ ((Xp.op x.2.1),(Xp.n x.2.1),(Xp.name x.2.1),(Xp.l x.2.1)),d_ ((Xp.op x.2.2),(Xp.n x.2.2),(Xp.name x.2.2),(Xp.l x.2.2))])))
def jx (x:ζ×Xp):Option (Sx):=
 (af (nY (1,0,x.1,[],([]:List Xp),d_ ((Xp.op x.2),(Xp.n x.2),(Xp.name x.2),(Xp.l x.2)),([]:List Sx),([]:List Sx))))
def sG (x:Unit):Option sx:=
 (af ([(1,0,[120],0,0,[]),(1,0,[121],0,1,[]),(2,0,[118],0,0,[]),(1,0,[113],2,0,[]),(3,0,[109],0,0,[]),(3,0,[110],0,0,[]),(4,0,[114],0,0,[]),(5,0,[99],0,0,[109]),(6,0,[102],0,0,[])]))
def oY (x:η):Option (List ν):=
 (iter (σ:=Int×List ν) (λI=>(bz I.1 (aY x) (bF (.int .u8) x I.1 λM=>(bF (.int .u8) x I.1 λJ=>(bB (a_ (al I.2+al ([((Ar (bk .i64 M) 4),(bk .i64 ((Ar (bk .i64 (Int.tdiv (bk .i64 J) 4)) 5)-1)))])) 16) (cK ((cF I.1),(I.2++([((Ar (bk .i64 M) 4),(bk .i64 ((Ar (bk .i64 (Int.tdiv (bk .i64 J) 4)) 5)-1)))]))))))) (aF I.2))) (0,([]:List ν)))
def oh (rmade_maker_expr:ZQ->Option ah5) (x:Int×zf×fD×Bool×List ζ):Option ah5:=
 (obind (bA (10,x.p2)) λZ=>(jn (α:=Bool×zf×fD×TX×(Int×Int×ζ)×List ζ) (bz Z.1 2 (aF (ai,x.2.1,Z.2,x.q3,(0,0,[]),[[97],[98],[120],[121],[118],[120],[121]])) (bd x.1 0 (aF ((c6 7 Z.1),x.2.1,Z.2,x.q3,(0,0,[]),[[97],[98],[120],[121],[118],[120],[121]])) (aF (aj,x.2.1,Z.2,x.q3,(0,0,[]),[[97],[98],[120],[121],[118],[120],[121]])))) λI=>(bcase I.1 (obind (bA (4,I.p2)) λy3=>(obind (rK y3.1) λy4=>(af (d_ ((Xp.op y4),(Xp.n y4),(Xp.name y4),(Xp.l y4)),I.2.1,y3.2,I.p3)))) (bz Z.1 7 (obind (bA ((aY I.q5),I.p2)) λy5=>(kl (.str) I.q5 y5.1 λz6=>(obind (pG z6) λy7=>(af (d_ ((Xp.op y7),(Xp.n y7),(Xp.name y7),(Xp.l y7)),I.2.1,y5.2,I.p3))))) (bd Z.1 7 (obind (rmade_maker_expr (0,I.2.1,I.p2,I.p3)) λY=>(bB (((I.p3.1==Y.p3)&&ai)&&aC (al I.p3.2) (al Y.q4)&&ai) (af (d_ (3,0,[113],[d_ ((Xp.op Y.1),(Xp.n Y.1),(Xp.name Y.1),(Xp.l Y.1))]),Y.2)))) (obind (bA ((aO (al ([6,7,8,11,13,17]))),I.p2)) λy9=>(kl aM ([6,7,8,11,13,17]) y9.1 λz10=>(obind (rmade_maker_expr ((bk .i64 (x.1-1)),I.2.1,y9.2,I.p3)) λJ=>(bB (((I.p3.1==J.p3)&&ai)&&aC (al I.p3.2) (al J.q4)&&ai) (obind (rmade_maker_expr ((bk .i64 (x.1-1)),J.2)) λU=>(bB (((J.p3==U.p3)&&ai)&&aC (al J.q4) (al U.q4)&&ai) (obind (nX (z10,J.1,U.1)) λM=>(af (d_ ((Xp.op M),(Xp.n M),(Xp.name M),(Xp.l M)),U.2))))))))))))))
def iu:Nat->ZQ->Option ah5
 |0,_=>ah
 |n+1,x=>oh (iu n) x
theorem za (n:Nat) (x:Int×zf×fD×Bool×List ζ):iu (n+1) x=oh (iu n) x:=rfl
def fo (x:Int×zf×fD×Bool×List ζ):Option ah5:=iu fuel x
def eQ (x:ζ×zf×fD×Bool×List ζ):Option (Bool×zf×fD×Bool×List ζ):=
 (obind (jd (x.q4,x.1)) λI=>(af ((c6 0 I),x.2)))
def mI (rmade_maker_stmts:ah7->Option ZP) (rmade_maker_stmt:ZQ->Option adv) (rmade_maker_block:ah6->Option adw) (x:ν×zf×fD×Bool×List ζ):Option ZP:=
 (iter (σ:=Int×zf×fD×(List Sx)×Bool×List ζ) (λJ=>(jn (α:=Bool×zf×fD×(List Sx)×Bool×List ζ) (bz J.1 x.1.2 (bd J.1 0 (aF (ai,J.2)) (aF ((fV 0 J.2.1.2.1),J.2))) (aF (aj,J.2))) λI=>(bcase I.1 (obind (rmade_maker_stmt (x.1.1,I.2.1,I.p2,I.q4)) λM=>(bB (((I.p4==I.p4)&&ai)&&aC (al I.q5) (al I.q5)&&ai) (bB (a_ (al I.p3+al ([eh M.1])) 176) (cK ((cF J.1),M.2.1,M.p2,(I.p3++([eh M.1])),M.q3))))) (aF (I.2.1,I.p2,I.q4,I.p3))))) (0,x.2.1,x.p2,([]:List Sx),x.q3))
def og (rmade_maker_stmts:ah7->Option ZP) (rmade_maker_stmt:ZQ->Option adv) (rmade_maker_block:ah6->Option adw) (x:Int×zf×fD×Bool×List ζ):Option adv:=
 (obind (bA (18,x.p2)) λy1=>(jn (α:=Bool×zf×fD×HW×Bool×List ζ) (bz 0 x.1 (lt (bk .i64 (x.2.1.2.1-1)) λz3=>(bz 0 z3 (aF ((!x.2.1.p3),(x.2.1.1,(bk .i64 (x.2.1.2.1-1)),x.2.1.2.2),y1.2,(0,0,[],[],0,0,[]),x.q3)) (aF (aj,(x.2.1.1,(bk .i64 (x.2.1.2.1-1)),x.2.1.2.2),y1.2,(0,0,[],[],0,0,[]),x.q3)))) (aF (aj,(x.2.1.1,(bk .i64 (x.2.1.2.1-1)),x.2.1.2.2),y1.2,(0,0,[],[],0,0,[]),x.q3))) λx2=>(bz y1.1 4 (kl (.str) ([[120],[121],[120],[118]]) y1.1 λz4=>(obind (fo (1,x2.2.1,x2.p2,x2.q4)) λy5=>(bB (((x2.p4==y5.p3)&&ai)&&aC (al x2.q5) (al y5.q4)&&ai) (obind (jx (z4,y5.1)) λy6=>(af (eh y6,y5.2)))))) (bd y1.1 4 (obind (bA (2,x2.p2)) λy7=>(kl (.str) ([[97],[98]]) y7.1 λz8=>(obind (fo (1,x2.2.1,y7.2,x2.q4)) λy9=>(bB (((x2.p4==y9.p3)&&ai)&&aC (al x2.q5) (al y9.q4)&&ai) (obind (jx (z8,y9.1)) λy10=>(af (eh y10,y9.2))))))) (bd y1.1 5 (obind (fo (0,x2.2.1,x2.p2,x2.q4)) λy11=>(bB (((x2.p4==y11.p3)&&ai)&&aC (al x2.q5) (al y11.q4)&&ai) (obind (fo (1,y11.2)) λy12=>(bB (((y11.p3==y12.p3)&&ai)&&aC (al y11.q4) (al y12.q4)&&ai) (af (nY (1,0,[113],[],[d_ ((Xp.op y11.1),(Xp.n y11.1),(Xp.name y11.1),(Xp.l y11.1))],d_ ((Xp.op y12.1),(Xp.n y12.1),(Xp.name y12.1),(Xp.l y12.1)),([]:List Sx),([]:List Sx)),y12.2)))))) (jn (α:=Bool×zf×fD×HW×Bool×List ζ) (bd y1.1 6 (aF ((fV 0 x.1),x2.2)) (aF (aj,x2.2))) λx13=>(bcase x13.1 (obind (fo (1,x13.2.1,x13.p2,x13.q4)) λU=>(bB (((x13.p4==U.p3)&&ai)&&aC (al x13.q5) (al U.q4)&&ai) (obind (rmade_maker_stmts (((bk .i64 (x.1-1)),1),U.2)) λy15=>(bB (((U.p3==U.p3)&&ai)&&aC (al U.q4) (al U.q4)&&ai) (jn (α:=zf×fD×HW×(Int×Int×ζ×ζ×Int×Int×ζ×List Xp)×TX×(List Sx)×List Sx) (obind (bA (2,y15.2.1)) λy17=>(bd y17.1 1 (obind (rmade_maker_stmts (((bk .i64 (x.1-1)),1),y15.1,y17.2,y15.p2)) λy18=>(bB (((y15.p2.1==y15.p2.1)&&ai)&&aC (al y15.p2.2) (al y15.p2.2)&&ai) (aF (y18.1,y18.2.1,x13.p3,(2,0,[],[],(Xp.op U.1),(Xp.n U.1),(Xp.name U.1),(Xp.l U.1)),y18.p2,y15.q3,y18.q3)))) (aF (y15.1,y17.2,x13.p3,(2,0,[],[],(Xp.op U.1),(Xp.n U.1),(Xp.name U.1),(Xp.l U.1)),y15.p2,y15.q3,([]:List Sx))))) λx16=>(af (nY (x16.p3.1,x16.p3.2.1,x16.p3.p2,x16.p3.p3,([]:List Xp),d_ x16.p3.q4,x16.q5),x16.1,x16.2.1,x16.p4))))))) (jn (α:=Bool×zf×fD×HW×Bool×List ζ) (bd y1.1 7 (aF ((fV 0 x.1),x13.2)) (aF (aj,x13.2))) λI=>(bcase I.1 (obind (pG ([98])) λy20=>(obind (rK 2) λy21=>(obind (nX (13,y20,y21)) λy22=>(obind (rmade_maker_stmts (((bk .i64 (x.1-1)),1),(I.2.1.1,I.2.1.2.1,I.2.1.p2,I.2.1.p3,I.2.1.p4,ai),I.p2,I.q4)) λy23=>(bB (((I.p4==I.p4)&&ai)&&aC (al I.q5) (al I.q5)&&ai) (obind (pG ([98])) λy24=>(obind (rK 1) λy25=>(obind (nX (6,y24,y25)) λy26=>(obind (jx ([98],y26)) λy27=>(bB (a_ (al y23.q3+al ([eh y27])) 176) (af (nY (3,0,[],[],([]:List Xp),d_ ((Xp.op y22),(Xp.n y22),(Xp.name y22),(Xp.l y22)),(y23.q3++([eh y27])),([]:List Sx)),(y23.1.1,y23.1.2.1,y23.1.p2,y23.1.p3,y23.1.p4,I.2.1.q5),y23.2.1,y23.p2)))))))))))) (jn (α:=Bool×zf×fD×HW×Bool×List ζ) (bd y1.1 8 (bcase x2.1 (kl (.str) ([[109],[110]]) (bk .i64 (y1.1-8)) λz29=>(obind (eQ (z29,I.2.1,I.p2,I.q4)) λy30=>(bB (((I.p4==y30.p3)&&ai)&&aC (al I.q5) (al y30.q4)&&ai) (aF ((!y30.1),y30.2.1,y30.p2,I.p3,y30.q3))))) (aF (aj,I.2))) (bd y1.1 9 (bcase x2.1 (kl (.str) ([[109],[110]]) (bk .i64 (y1.1-8)) λz31=>(obind (eQ (z31,I.2.1,I.p2,I.q4)) λy32=>(bB (((I.p4==y32.p3)&&ai)&&aC (al I.q5) (al y32.q4)&&ai) (aF ((!y32.1),y32.2.1,y32.p2,I.p3,y32.q3))))) (aF (aj,I.2))) (aF (aj,I.2)))) λJ=>(bcase J.1 (kl (.str) ([[109],[110]]) (bk .i64 (y1.1-8)) λz33=>(obind (rmade_maker_block ((z33,(bk .i64 (x.1-1))),J.2.1,J.p2,J.q4)) λy34=>(bB (((J.p4==J.p4)&&ai)&&aC (al J.q5) (al J.q5)&&ai) (af (nY (4,0,z33,[],([]:List Xp),d_ (0,0,[],([]:List Xp)),y34.1,([]:List Sx)),y34.2))))) (jn (α:=Bool×zf×fD×HW×Bool×List ζ) (bd y1.1 10 (bcase x2.1 (obind (eQ ([114],J.2.1,J.p2,J.q4)) λy36=>(bB (((J.p4==y36.p3)&&ai)&&aC (al J.q5) (al y36.q4)&&ai) (aF ((!y36.1),y36.2.1,y36.p2,J.p3,y36.q3)))) (aF (aj,J.2))) (bd y1.1 11 (bcase x2.1 (obind (eQ ([114],J.2.1,J.p2,J.q4)) λy37=>(bB (((J.p4==y37.p3)&&ai)&&aC (al J.q5) (al y37.q4)&&ai) (aF ((!y37.1),y37.2.1,y37.p2,J.p3,y37.q3)))) (aF (aj,J.2))) (aF (aj,J.2)))) λx35=>(bcase x35.1 (obind (rmade_maker_block (([114],(bk .i64 (x.1-1))),x35.2.1,x35.p2,x35.q4)) λy38=>(bB (((x35.p4==x35.p4)&&ai)&&aC (al x35.q5) (al x35.q5)&&ai) (af (nY ((bk .i64 ((bk .i64 (y1.1-10))+5)),0,[114],[],([]:List Xp),d_ (0,0,[],([]:List Xp)),y38.1,([]:List Sx)),y38.2)))) (jn (α:=Bool×zf×fD×HW×Bool×List ζ) (bd y1.1 12 (aF (x2.1,x35.2)) (aF (aj,x35.2))) λY=>(bcase Y.1 (obind (bA (2,Y.p2)) λy40=>(obind (rmade_maker_stmts ((0,(bk .i64 (1+y40.1))),(Y.2.1.1,Y.2.1.2.1,Y.2.1.p2,ai,Y.2.1.q4),y40.2,Y.q4)) λy41=>(bB (((Y.p4==Y.p4)&&ai)&&aC (al Y.q5) (al Y.q5)&&ai) (af (nY (7,0,[],[],([]:List Xp),d_ (0,0,[],([]:List Xp)),y41.q3,([]:List Sx)),(y41.1.1,y41.1.2.1,y41.1.p2,aj,y41.1.q4),y41.2.1,y41.p2))))) (jn (α:=Bool×zf×fD×HW×Bool×List ζ) (bd y1.1 13 (bcase x2.1 (aF ((!Y.2.1.p4),Y.2)) (aF (aj,Y.2))) (aF (aj,Y.2))) λM=>(bcase M.1 (obind (rmade_maker_stmts (((bk .i64 (x.1-1)),2),(M.2.1.1,M.2.1.2.1,M.2.1.p2,M.2.1.p3,ai,M.2.1.q5),M.p2,M.q4)) λy43=>(bB (((M.p4==M.p4)&&ai)&&aC (al M.q5) (al M.q5)&&ai) (af (nY (8,0,[],[],([]:List Xp),d_ (0,0,[],([]:List Xp)),y43.q3,([]:List Sx)),(y43.1.1,y43.1.2.1,y43.1.p2,y43.1.p3,aj,y43.1.q5),y43.2.1,y43.p2)))) (jn (α:=Bool×zf×fD×HW×Bool×List ζ) (bd y1.1 14 (bcase x2.1 (bcase (!M.2.1.p4) (obind (eQ ([109],M.2.1,M.p2,M.q4)) λy45=>(bB (((M.p4==y45.p3)&&ai)&&aC (al M.q5) (al y45.q4)&&ai) (aF ((!y45.1),y45.2.1,y45.p2,M.p3,y45.q3)))) (aF (aj,M.2))) (aF (aj,M.2))) (aF (aj,M.2))) λx44=>(bcase x44.1 (obind (pG ([120])) λy46=>(obind (jx ([97],y46)) λy47=>(af (nY (4,0,[109],[],([]:List Xp),d_ (0,0,[],([]:List Xp)),[nY (9,0,[99],[],([]:List Xp),d_ (0,0,[],([]:List Xp)),([]:List Sx),([]:List Sx)),eh y47],([]:List Sx)),x44.2.1,x44.p2,x44.q4)))) (jn (α:=Bool×zf×fD×HW×Bool×List ζ) (bd y1.1 15 (bcase x2.1 (obind (eQ ([109],x44.2.1,x44.p2,x44.q4)) λy49=>(bB (((x44.p4==y49.p3)&&ai)&&aC (al x44.q5) (al y49.q4)&&ai) (aF ((!y49.1),y49.2.1,y49.p2,x44.p3,y49.q3)))) (aF (aj,x44.2))) (aF (aj,x44.2))) λx48=>(bcase x48.1 (obind (bA (2,x48.p2)) λy50=>(af (nY (4,0,[109],[],([]:List Xp),d_ (0,0,[],([]:List Xp)),[nY ((bk .i64 (10+y50.1)),0,[99],[],([]:List Xp),d_ (0,0,[],([]:List Xp)),([]:List Sx),([]:List Sx))],([]:List Sx)),x48.2.1,y50.2,x48.q4))) (jn (α:=Bool×zf×fD×HW×Bool×List ζ) (bd y1.1 16 (bcase (!x48.2.1.p3) (bcase (!x48.2.1.q5) (aF ((!x48.2.1.p2),x48.2)) (aF (aj,x48.2))) (aF (aj,x48.2))) (aF (aj,x48.2))) λZ=>(bcase Z.1 (obind (fo (1,(Z.2.1.1,Z.2.1.2.1,ai,Z.2.1.q3),Z.p2,Z.q4)) λy52=>(bB (((Z.p4==y52.p3)&&ai)&&aC (al Z.q5) (al y52.q4)&&ai) (af (nY (14,0,[102],[],([]:List Xp),d_ ((Xp.op y52.1),(Xp.n y52.1),(Xp.name y52.1),(Xp.l y52.1)),([]:List Sx),([]:List Sx)),y52.2)))) (jn (α:=Bool×zf×fD×HW×Bool×List ζ) (bd y1.1 17 (bcase (!Z.2.1.p3) (obind (bA (2,Z.p2)) λy54=>(aF ((decide ((y54.1:Int)=1)),Z.2.1,y54.2,Z.q3))) (aF (aj,Z.2))) (aF (aj,Z.2))) λx53=>(bcase x53.1 (af (nY (15,0,[97],[102],([]:List Xp),d_ (0,0,[],([]:List Xp)),([]:List Sx),([]:List Sx)),x53.2.1,x53.p2,x53.q4)) (obind (fo (1,x53.2.1,x53.p2,x53.q4)) λy55=>(bB (((x53.p4==y55.p3)&&ai)&&aC (al x53.q5) (al y55.q4)&&ai) (obind (jx ([120],y55.1)) λy56=>(af (eh y56,y55.2))))))))))))))))))))))))))))))
def mJ (rmade_maker_stmts:ah7->Option ZP) (rmade_maker_stmt:ZQ->Option adv) (rmade_maker_block:ah6->Option adw) (x:fA×zf×fD×Bool×List ζ):Option adw:=
 (bB (a_ (al x.q4+al ([x.1.1])) 16) (obind (bA (2,x.p2)) λJ=>(obind (rmade_maker_stmts ((x.1.2,(bk .i64 (1+J.1))),x.2.1,J.2,x.p3,(x.q4++([x.1.1])))) λI=>(bB (((x.p3==x.p3)&&ai)&&aC (al (x.q4++([x.1.1]))) (al (x.q4++([x.1.1])))&&ai) (bB (c6 0 (bk .i64 ((aY I.p2.2)-1))&&fV (bk .i64 ((aY I.p2.2)-1)) (al I.p2.2)) (af (I.q3,I.1,I.2.1,aj,(dF (aT (bk .i64 ((aY I.p2.2)-1))) I.p2.2))))))))
mutual
def dL:Nat->ah7->Option ZP
 |0,_=>ah
 |n+1,x=>mI (dL n) (eK n) (dX n) x
def eK:Nat->ZQ->Option adv
 |0,_=>ah
 |n+1,x=>og (dL n) (eK n) (dX n) x
def dX:Nat->ah6->Option adw
 |0,_=>ah
 |n+1,x=>mJ (dL n) (eK n) (dX n) x
end
def qG (x:ν×zf×fD×Bool×List ζ):Option ZP:=dL fuel x
def oX (x:η):Option (sx×List sw):=
 (obind (sG ()) λy1=>(obind (bA (3,x,0)) λy2=>(iter (σ:=Int×zf×sx×cj×fD×TX×List sw) (λM=>(bz M.1 (bk .i64 (2+y2.1)) (kl (.str) M.p3 M.1 λz4=>(jn (α:=zf×sx×cj×fA×fD×TX×(List sw)×cj×List Sx) (bd M.1 0 (iter (σ:=Int×zf×sx×cj×fA×fD×TX×(List sw)×cj×List Sx) (λY=>(bz Y.1 (bk .i64 (2+y2.1)) (kl (.str) Y.p3 Y.1 λz7=>(bB (a_ (al Y.q9+al ([nY (12,0,z7,[],([]:List Xp),d_ (0,0,[],([]:List Xp)),([]:List Sx),([]:List Sx))])) 176) (cK ((cF Y.1),Y.2.1,Y.p2,Y.p3,Y.p4,Y.p5,Y.p6,Y.p7,Y.p8,(Y.q9++([nY (12,0,z7,[],([]:List Xp),d_ (0,0,[],([]:List Xp)),([]:List Sx),([]:List Sx))])))))) (aF (bP Y.2)))) (1,(M.1,M.2.1.2),M.p2,M.p3,(z4,0),M.p4,M.p5,M.q6,[[97],[98]],([]:List Sx))) (aF ((M.1,M.2.1.2),M.p2,M.p3,(z4,0),M.p4,M.p5,M.q6,[[97],[98]],([]:List Sx)))) λU=>(obind (bA (3,U.p4)) λy8=>(obind (qG ((2,(bk .i64 (1+y8.1))),U.1,y8.2,U.p5)) λZ=>(bB (((U.p5.1==U.p5.1)&&ai)&&aC (al U.p5.2) (al U.p5.2)&&ai) (bB (a_ (al U.q8+al Z.q3) 176) (jn (α:=zf×sx×cj×fA×fD×TX×(List sw)×cj×List Sx) (jn (α:=Bool×zf×sx×cj×fA×fD×TX×(List sw)×cj×List Sx) (bd M.1 0 (obind (bA (3,Z.2.1)) λy12=>(aF ((decide ((y12.1:Int)=2)),Z.1,U.2.1,U.p2,U.p3,y12.2,Z.p2,U.p6,U.p7,(U.q8++Z.q3)))) (aF (aj,Z.1,U.2.1,U.p2,U.p3,Z.2.1,Z.p2,U.p6,U.p7,(U.q8++Z.q3)))) λI=>(bcase I.1 (kl (.str) I.p3 1 λz13=>(bB (a_ (al I.q9+al ([nY (13,0,z13,[],([]:List Xp),d_ (0,0,[],([]:List Xp)),([]:List Sx),([]:List Sx))])) 176) (aF (I.2.1,I.p2,I.p3,I.p4,I.p5,I.p6,I.p7,I.p8,(I.q9++([nY (13,0,z13,[],([]:List Xp),d_ (0,0,[],([]:List Xp)),([]:List Sx),([]:List Sx))])))))) (aF I.2))) λJ=>(bB (a_ (al J.p6+al ([(J.p3.1,J.p3.2,J.q7)])) 72) (cK ((cF M.1),J.1,J.2.1,J.p2,J.p4,J.p5,(J.p6++([(J.p3.1,J.p3.2,J.q7)])))))))))))) (obind (obind (fy (M.p2,M.q6)) λy14=>(iR y14.1 0 (obind (sG ()) λy15=>(obind (rK 1) λy16=>(obind (jx ([120],y16)) λy17=>(af (y15,[([109,97,105,110],0,[[97],[98]],[eh y17])]))))) (af (M.p2,M.q6)))) λr=>af (bP r)))) (0,(0,20,aj,aj,aj,aj),y1,[[109,97,105,110],[116,49],[116,50],[116,51]],y2.2,(ai,([]:List ζ)),([]:List sw)))))
def xQ (x:η):Option Ak:=
 (obind (oX x) λJ=>(obind (qF J) λI=>(af I.1)))
def sH (x:η×η):Option (dj×List gj):=
 (obind (xQ x.1) λM=>(obind (oY x.2) λJ=>(obind (zA (M,J)) λI=>(af I.1))))
def nP (x:Unit):Option dj:=
 (iter (σ:=Int×gP×gz×(List fA)×cj×cj×List π) (λJ=>(bz J.1 (aO (al ([[109,97,105,110],[116,49],[116,50],[116,51]]))) (iter (σ:=Int×gP×gz×(List fA)×cj×cj×List π) (λI=>(bz I.1 6 (bB (a_ (al I.q6+al ([(J.1,I.1,(bk .i64 ((bk .i64 ((bk .i64 (10*J.1))+I.1))+1)))])) 24) (cK ((cF I.1),I.2.1,I.p2,I.p3,I.p4,I.p5,(I.q6++([(J.1,I.1,(bk .i64 ((bk .i64 ((bk .i64 (10*J.1))+I.1))+1)))]))))) (aF (lD ((cF J.1),I.2))))) (0,J.2)) (aF J.2))) (0,[([120],0,0,aj,0),([121],0,0,aj,1),([118],0,0,ai,0),([113],0,2,aj,0),([113],1,2,aj,0)],[([109],aj),([110],aj),([114],ai)],[([99],0)],[[102]],[[109,97,105,110],[116,49],[116,50],[116,51]],([]:List π)))
def kZ (x:pm×η×η×η):Option η:=
 (iter (σ:=Int×η) (λI=>(bz I.1 (aY x.1.q3) (jn (α:=η) (bF ib x.1.q3 I.1 λJ=>(bd J.1 3 (bB (a_ (al I.2+al ([I.1])) 8) (aF (I.2++([I.1])))) (aF I.2))) λM=>(cK ((cF I.1),M))) (aF I.2))) (0,([]:η)))
def tQ (x:Unit):Option η:=
 (af ([3,3,3,3,3,4,4,4,4,4,5,5,5,6,6,6,7,7,7,8,9,10,11,12,13,14,14,15,16,16,17,17,18,18,19,20,1,1,2,21,22,23,23]))
def oP (x:ν×η×Int):Option (Int×η×Int):=
 (jn (α:=Bool×η×Int) (bd x.1.1 3 (aF ((decide ((x.1.1:Int)=3)),x.2)) (aF ((decide ((x.1.1:Int)=4)),x.2))) λU=>(bcase U.1 (obind (bA (8,U.2)) λy2=>(kl aM ([0,0,0,1,1,2,3,4]) y2.1 λz3=>(af (z3,y2.2)))) (jn (α:=Bool×η×Int) (bd x.1.1 6 (aF ((decide ((x.1.1:Int)=6)),U.2)) (aF ((decide ((x.1.1:Int)=7)),U.2))) λJ=>(bcase J.1 (obind (bA (2,J.2)) λy5=>(af y5)) (jn (α:=Bool×η×Int) (bd x.1.1 8 (aF ((decide ((x.1.1:Int)=8)),J.2)) (bd x.1.1 9 (aF ((decide ((x.1.1:Int)=9)),J.2)) (bd x.1.1 10 (aF ((decide ((x.1.1:Int)=10)),J.2)) (aF ((decide ((x.1.1:Int)=11)),J.2))))) λI=>(bcase I.1 (af (2,I.2)) (jn (α:=Bool×η×Int) (bd x.1.1 16 (aF ((decide ((x.1.1:Int)=16)),I.2)) (bd x.1.1 17 (aF ((decide ((x.1.1:Int)=17)),I.2)) (bd x.1.1 18 (aF ((decide ((x.1.1:Int)=18)),I.2)) (bd x.1.1 19 (aF ((decide ((x.1.1:Int)=19)),I.2)) (bd x.1.1 22 (aF ((decide ((x.1.1:Int)=22)),I.2)) (aF ((decide ((x.1.1:Int)=23)),I.2))))))) λM=>(bcase M.1 (af (0,M.2)) (jn (α:=Bool×η×Int) (bd x.1.1 20 (aF ((decide ((x.1.1:Int)=20)),M.2)) (aF ((decide ((x.1.1:Int)=21)),M.2))) λY=>(bcase Y.1 (obind (bA (3,Y.2)) λZ=>(af ((Ar (bk .i64 ((cF x.1.2)+Z.1)) 4),Z.2))) (af ((-1),Y.2))))))))))))
def qz (x:(eL×Int×Int)×η×Int):Option (Int×η×Int):=
 (bd x.1.2.1 3 (bF aM x.1.1.2.1 x.1.2.2 λZ=>(af (Z,x.2))) (bd x.1.2.1 23 (bF aM x.1.1.p2 0 λY=>(af (Y,x.2))) (jn (α:=Bool×fD×pm×η×η×η) (bd x.1.2.1 4 (aF ((decide ((x.1.2.1:Int)=4)),x.2,x.1.1)) (aF ((decide ((x.1.2.1:Int)=22)),x.2,x.1.1))) λI=>(bcase I.1 (obind (bA (3,I.2.1)) λy4=>(af y4)) (bd x.1.2.1 5 (obind (bA (2,I.2.1)) λy5=>(af y5)) (bd x.1.2.1 18 (obind (kZ I.2.2) λJ=>(bz 0 (aY J) (obind (bA ((aY J),I.2.1)) λM=>(bF aM J M.1 λU=>(af (U,M.2)))) (af ((-1),I.2.1)))) (bd x.1.2.1 19 (obind (kZ I.2.2) λy9=>(af ((aY y9),I.2.1))) (af (0,I.2.1)))))))))
def gD (x:fD×η):Option (η×fD×η):=
 (iter (σ:=Int×fD×η×η) (λI=>(bz I.1 (aY x.2) (jn (α:=fD×η×η) (kl aM I.p2 I.1 λM=>(jn (α:=Bool×fD×η×η) (iT (aY I.p2) (bk .i64 (I.1+3)) (obind (bA (2,I.2.1)) λU=>(aF ((decide ((U.1:Int)=1)),U.2,I.2.2))) (aF (aj,I.2))) λJ=>(bcase J.1 (bB (a_ (al J.q3+al ([M])) 8) (aF (J.2.1,J.p2,(J.q3++([M]))))) (aF J.2)))) λY=>(cK ((cF I.1),Y))) (aF (I.q3,I.2.1,I.p2)))) (0,x.1,x.2,([]:η)))
def qA (x:(eL×gP×gz×(List fA)×cj×cj×List π)×fD×η×η×η×η):Option (gj×fD×η×η×η×η):=
 (obind (bA (4,x.2.1)) λU=>(obind (tQ ()) λy2=>(obind (bA ((aY y2),U.2)) λy3=>(bF aM y2 y3.1 λz4=>(obind (bA (6,y3.2)) λy5=>(jn (α:=fD×η×η×η×η×eL×dj×wn×Int×Int×Int×Int×Int) (jn (α:=Bool×fD×η×η×η×η×eL×dj×wn×Int×Int×Int×Int×Int) (bd z4 1 (aF (ai,y5.2,x.p2,x.p3,x.p4,x.q5,x.1.1,x.1.2,(0,0,0,0,0),U.1,z4,0,0,(bk .i64 ((bk .i64 (U.1*6))+y5.1)))) (aF ((decide ((z4:Int)=2)),y5.2,x.p2,x.p3,x.p4,x.q5,x.1.1,x.1.2,(0,0,0,0,0),U.1,z4,0,0,(bk .i64 ((bk .i64 (U.1*6))+y5.1))))) λY=>(bcase Y.1 (aF (Y.2.1,Y.p2,Y.p3,Y.p4,Y.p5,Y.p6,Y.p7,Y.p8,Y.p9,Y.p10,Y.p11,Y.p12,(-1))) (aF Y.2))) λM=>(obind (oP ((M.p9,U.1),M.1)) λy8=>(obind (qz ((M.p5,M.p9,y8.1),y8.2)) λy9=>(jn (α:=fD×η×η×η×η×wn×Int×Int×Int×Int×Int×η) (jn (α:=Bool×fD×η×η×η×η×wn×Int×Int×Int×Int×Int) (bd M.p9 5 (aF (ai,y9.2,M.2.1,M.p2,M.p3,M.p4,M.p7,M.p8,M.p9,y8.1,y9.1,M.q12)) (bd M.p9 3 (bF kE M.p6.1 y8.1 λz12=>(aF ((fV 0 z12.2.2.1),y9.2,M.2.1,M.p2,M.p3,M.p4,M.p7,M.p8,M.p9,y8.1,y9.1,M.q12))) (bd M.p9 4 (bF kE M.p6.1 y8.1 λz13=>(aF ((fV 0 z13.2.2.1),y9.2,M.2.1,M.p2,M.p3,M.p4,M.p7,M.p8,M.p9,y8.1,y9.1,M.q12))) (aF (aj,y9.2,M.2.1,M.p2,M.p3,M.p4,M.p7,M.p8,M.p9,y8.1,y9.1,M.q12))))) λJ=>(bcase J.1 (bd U.1 0 (obind (gD (J.2.1,J.p2)) λy14=>(bB (aC (al J.p2) (al y14.2.2)&&ai) (aF (y14.2.1,y14.2.2,J.p3,J.p4,J.p5,J.p6,J.p7,J.p8,J.p9,J.p10,J.q11,y14.1)))) (bd U.1 1 (obind (gD (J.2.1,J.p3)) λy15=>(bB (aC (al J.p3) (al y15.2.2)&&ai) (aF (y15.2.1,J.p2,y15.2.2,J.p4,J.p5,J.p6,J.p7,J.p8,J.p9,J.p10,J.q11,y15.1)))) (bd U.1 2 (obind (gD (J.2.1,J.p4)) λy16=>(bB (aC (al J.p4) (al y16.2.2)&&ai) (aF (y16.2.1,J.p2,J.p3,y16.2.2,J.p5,J.p6,J.p7,J.p8,J.p9,J.p10,J.q11,y16.1)))) (bd U.1 3 (obind (gD (J.2.1,J.p5)) λy17=>(bB (aC (al J.p5) (al y17.2.2)&&ai) (aF (y17.2.1,J.p2,J.p3,J.p4,y17.2.2,J.p6,J.p7,J.p8,J.p9,J.p10,J.q11,y17.1)))) ah)))) (aF (J.2.1,J.p2,J.p3,J.p4,J.p5,J.p6,J.p7,J.p8,J.p9,J.p10,J.q11,([]:η))))) λx10=>(jn (α:=fD×η×η×η×η×wn×Int×Int×Int×Int×Int×η×η) (jn (α:=Bool×fD×η×η×η×η×wn×Int×Int×Int×Int×Int×η) (bd x10.p7 4 (aF (ai,x10)) (aF ((decide ((x10.p7:Int)=22)),x10))) λI=>(bcase I.1 (bd U.1 0 (obind (gD (I.2.1,I.p2)) λy20=>(bB (aC (al I.p2) (al y20.2.2)&&ai) (aF (y20.2.1,y20.2.2,I.p3,I.p4,I.p5,I.p6,I.p7,I.p8,I.p9,I.p10,I.p11,I.q12,y20.1)))) (bd U.1 1 (obind (gD (I.2.1,I.p3)) λy21=>(bB (aC (al I.p3) (al y21.2.2)&&ai) (aF (y21.2.1,I.p2,y21.2.2,I.p4,I.p5,I.p6,I.p7,I.p8,I.p9,I.p10,I.p11,I.q12,y21.1)))) (bd U.1 2 (obind (gD (I.2.1,I.p4)) λy22=>(bB (aC (al I.p4) (al y22.2.2)&&ai) (aF (y22.2.1,I.p2,I.p3,y22.2.2,I.p5,I.p6,I.p7,I.p8,I.p9,I.p10,I.p11,I.q12,y22.1)))) (bd U.1 3 (obind (gD (I.2.1,I.p5)) λy23=>(bB (aC (al I.p5) (al y23.2.2)&&ai) (aF (y23.2.1,I.p2,I.p3,I.p4,y23.2.2,I.p6,I.p7,I.p8,I.p9,I.p10,I.p11,I.q12,y23.1)))) ah)))) (aF (I.2.1,I.p2,I.p3,I.p4,I.p5,I.p6,I.p7,I.p8,I.p9,I.p10,I.p11,I.q12,([]:η))))) λZ=>(af (Z.q6,Z.1,Z.2.1,Z.p2,Z.p3,Z.p4))))))))))))
def sB (x:(eL×dj×Int×Bool)×η×Int):Option ((List gj)×η×Int):=
 (bB (c6 0 (aY x.1.2.1.p4)&&c6 (aY x.1.2.1.p4) (aY x.1.2.1.p4)&&a_ (aT (aY x.1.2.1.p4)) 24&&decide (((aY x.1.2.1.p4):Int)=4)) (jn (α:=fD×eL×dj×η×η×η×η) (bz 0 (aO 4) (jn (α:=fD×eL×dj×η×η×η×η) (jn (α:=Bool×fD×eL×dj×η×η×η×η) (bcase x.1.q3 (bF aM x.1.1.q3 0 λz4=>(bz 1 z4 (obind (bA (3,x.2)) λy5=>(aF ((decide ((y5.1:Int)=2)),y5.2,x.1.1,x.1.2.1,([]:η),([]:η),([]:η),([]:η)))) (aF (aj,x.2,x.1.1,x.1.2.1,([]:η),([]:η),([]:η),([]:η))))) (aF (aj,x.2,x.1.1,x.1.2.1,([]:η),([]:η),([]:η),([]:η)))) λx3=>(bcase x3.1 (bB (a_ (al x3.p4+al ([1])) 8) (aF (x3.2.1,x3.p2,x3.p3,(x3.p4++([1])),x3.q5))) (aF x3.2))) λx2=>(bz 1 (aO 4) (jn (α:=fD×eL×dj×η×η×η×η) (jn (α:=Bool×fD×eL×dj×η×η×η×η) (bcase x.1.q3 (bF aM x2.2.1.q3 1 λz8=>(bz 1 z8 (obind (bA (3,x2.1)) λy9=>(aF ((decide ((y9.1:Int)=2)),y9.2,x2.2))) (aF (aj,x2)))) (aF (aj,x2))) λx7=>(bcase x7.1 (bB (a_ (al x7.p5+al ([1])) 8) (aF (x7.2.1,x7.p2,x7.p3,x7.p4,(x7.p5++([1])),x7.q6))) (aF x7.2))) λx6=>(bz 2 (aO 4) (jn (α:=fD×eL×dj×η×η×η×η) (jn (α:=Bool×fD×eL×dj×η×η×η×η) (bcase x.1.q3 (bF aM x6.2.1.q3 2 λz12=>(bz 1 z12 (obind (bA (3,x6.1)) λy13=>(aF ((decide ((y13.1:Int)=2)),y13.2,x6.2))) (aF (aj,x6)))) (aF (aj,x6))) λY=>(bcase Y.1 (bB (a_ (al Y.p6+al ([1])) 8) (aF (Y.2.1,Y.p2,Y.p3,Y.p4,Y.p5,(Y.p6++([1])),Y.q7))) (aF Y.2))) λx10=>(bz 3 (aO 4) (jn (α:=fD×eL×dj×η×η×η×η) (jn (α:=Bool×fD×eL×dj×η×η×η×η) (bcase x.1.q3 (bF aM x10.2.1.q3 3 λz16=>(bz 1 z16 (obind (bA (3,x10.1)) λy17=>(aF ((decide ((y17.1:Int)=2)),y17.2,x10.2))) (aF (aj,x10)))) (aF (aj,x10))) λU=>(bcase U.1 (bB (a_ (al U.q7+al ([1])) 8) (aF (U.2.1,U.p2,U.p3,U.p4,U.p5,U.p6,(U.q7++([1]))))) (aF U.2))) λx14=>(bz 4 (aO 4) (jn (α:=fD×eL×dj×η×η×η×η) (jn (α:=Bool×fD×eL×dj×η×η×η×η) (bcase x.1.q3 (bF aM x14.2.1.q3 4 λz20=>(bz 1 z20 (obind (bA (3,x14.1)) λy21=>(aF ((decide ((y21.1:Int)=2)),y21.2,x14.2))) (aF (aj,x14)))) (aF (aj,x14))) λx19=>(bcase x19.1 ah (aF x19.2))) λx18=>ah) (aF x14))) (aF x10))) (aF x6))) (aF x2))) (aF (x.2,x.1.1,x.1.2.1,([]:η),([]:η),([]:η),([]:η)))) λx1=>(iter (σ:=fD×eL×dj×(List gj)×η×η×η×η) (λx22=>(jn (α:=Bool×fD×eL×dj×(List gj)×η×η×η×η) (bz (aY x22.p3) x.1.p2 (aF ((fV x22.1.2 (aY x22.1.1)),x22)) (aF (aj,x22))) λJ=>(bcase J.1 (jn (α:=fD×eL×dj×(List gj)×η×η×η×η) (obind (qA ((J.p2,J.p3),J.2.1,J.q5)) λM=>(bB (aC (al J.q8) (al M.q5)&&(aC (al J.p7) (al M.p4)&&(aC (al J.p6) (al M.p3)&&(aC (al J.p5) (al M.p2)&&ai)))) (obind (rC (J.p3,J.p2,M.1)) λy26=>(bcase (!y26.2) (aF (M.2.1,J.p2,J.p3,J.p4,M.2.2)) (jn (α:=fD×eL×dj×(List gj)×gj×eL×η×η×η×η) (jn (α:=Bool×fD×eL×dj×(List gj)×gj×eL×η×η×η×η) (bd M.1.2.1 3 (aF (ai,M.2.1,J.p2,J.p3,J.p4,M.1,y26.1,M.2.2)) (aF ((decide ((M.1.2.1:Int)=23)),M.2.1,J.p2,J.p3,J.p4,M.1,y26.1,M.2.2))) λI=>(bcase I.1 (bd I.p5.1 0 (bF aM I.p2.q3 0 λz29=>(bB (a_ (al I.p7+al ([z29])) 8) (aF (I.2.1,I.p2,I.p3,I.p4,(0,I.p5.2),I.p6,(I.p7++([z29])),I.q8)))) (bd I.p5.1 1 (bF aM I.p2.q3 1 λz30=>(bB (a_ (al I.p8+al ([z30])) 8) (aF (I.2.1,I.p2,I.p3,I.p4,(1,I.p5.2),I.p6,I.p7,(I.p8++([z30])),I.q9)))) (bd I.p5.1 2 (bF aM I.p2.q3 2 λz31=>(bB (a_ (al I.p9+al ([z31])) 8) (aF (I.2.1,I.p2,I.p3,I.p4,(2,I.p5.2),I.p6,I.p7,I.p8,(I.p9++([z31])),I.q10)))) (bd I.p5.1 3 (bF aM I.p2.q3 3 λz32=>(bB (a_ (al I.q10+al ([z32])) 8) (aF (I.2.1,I.p2,I.p3,I.p4,(3,I.p5.2),I.p6,I.p7,I.p8,I.p9,(I.q10++([z32])))))) ah)))) (aF I.2))) λZ=>(bB (a_ (al Z.p3+al ([Z.p4])) 88) (aF (Z.1,Z.p5,Z.p2,(Z.p3++([Z.p4])),Z.q6)))))))) λx24=>(cK x24)) (aF (J.p4,J.2.1))))) (x1.1,x1.2.1,x1.p2,([]:List gj),x1.q3))))
def qB (x:η×Int):Option (dj×List gj):=
 (jn (α:=η) (bz 600 (aY x.1) (bB (c6 0 600&&c6 600 (al x.1)) (aF (dF (aT 600) x.1))) (aF x.1)) λx1=>(obind (nP ()) λy2=>(obind (mU y2) λy3=>(obind (bA (3,x1,0)) λy4=>(iter (σ:=Int×fD×dj×eL×List gj) (λJ=>(iT J.1 (bk .i64 (1+y4.1)) (bB (a_ (al J.q4+al ([(0,20,J.1,0,0,([]:η),([]:η)),(J.1,1,(-1),0,(-1),([]:η),([]:η))])) 88) (cK ((cF J.1),J.2.1,J.p2,J.p3,(J.q4++([(0,20,J.1,0,0,([]:η),([]:η)),(J.1,1,(-1),0,(-1),([]:η),([]:η))]))))) (obind (iter (σ:=Int×fD×dj×eL×(List gj)×List gj) (λI=>(bz I.1 (aY J.q4) (jn (α:=fD×dj×eL×(List gj)×List gj) (kl gA I.p4 I.1 λU=>(obind (rC (I.p2,I.p3,U)) λy9=>(bcase y9.2 (bB (a_ (al I.q5+al ([U])) 88) (aF (I.2.1,I.p2,y9.1,I.p4,(I.q5++([U]))))) (aF I.2)))) λx7=>(cK ((cF I.1),x7))) (obind (obind (sB ((I.p3,I.p2,(Hy (ir x.2 0) 60),aj),I.2.1)) λM=>(bB (a_ (al I.q5+al M.1) 88) (obind (uB (I.p2,(I.q5++M.1))) λZ=>(iR Z.2 0 (obind (nP ()) λY=>(af (Y,([]:List gj)))) (af (I.p2,(I.q5++M.1))))))) λr=>af (bP r)))) (0,J.2.1,J.p2,J.p3,J.q4,([]:List gj))) λr=>af (bP r)))) (1,y4.2,y2,y3,[(0,1,(-1),0,(-1),([]:η),([]:η))]))))))
def k9 (x:(η×η×η)×Int):Option (dj×List gj):=
 (bz 0 (aY x.1.2.2) (obind (qB (x.1.2.2,x.2)) λJ=>(af J)) (bB (c6 0 (Hy (aY x.1.2.1) x.2)&&c6 (Hy (aY x.1.2.1) x.2) (al x.1.2.1)) (obind (sH (x.1.1,(dF (aT (Hy (aY x.1.2.1) x.2)) x.1.2.1))) λI=>(af I))))
end
end Go.Proofs.YtgijlolllojpaaaGreatDoor.AI
