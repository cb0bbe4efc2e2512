/-
  Texts of the proof, part 1 of 6: what is used to prove the statement. No condition.
-/
import Derived.WalkKit
import Derived.Lib.Hide
import Derived.Deep.QuietTactic
namespace Prod
variable {A0 A1 A2 A3 A4 A5 A6 A7 A8 A9 A10 A11 A12 A13 A14 A15 A16 A17 A18 A19 A20 A21 A22 A23 A24:Type}
abbrev p2 (x:A0×A1×A2×A3):A2:=x.2.2.1
abbrev p3 (x:A0×A1×A2×A3×A4):A3:=x.2.2.2.1
abbrev q3 (x:A0×A1×A2×A3):A3:=x.2.2.2
abbrev p4 (x:A0×A1×A2×A3×A4×A5):A4:=x.2.2.2.2.1
abbrev q4 (x:A0×A1×A2×A3×A4):A4:=x.2.2.2.2
abbrev p5 (x:A0×A1×A2×A3×A4×A5×A6):A5:=x.2.2.2.2.2.1
abbrev q5 (x:A0×A1×A2×A3×A4×A5):A5:=x.2.2.2.2.2
abbrev p6 (x:A0×A1×A2×A3×A4×A5×A6×A7):A6:=x.2.2.2.2.2.2.1
abbrev q6 (x:A0×A1×A2×A3×A4×A5×A6):A6:=x.2.2.2.2.2.2
abbrev p7 (x:A0×A1×A2×A3×A4×A5×A6×A7×A8):A7:=x.2.2.2.2.2.2.2.1
abbrev q7 (x:A0×A1×A2×A3×A4×A5×A6×A7):A7:=x.2.2.2.2.2.2.2
abbrev p8 (x:A0×A1×A2×A3×A4×A5×A6×A7×A8×A9):A8:=x.2.2.2.2.2.2.2.2.1
abbrev q8 (x:A0×A1×A2×A3×A4×A5×A6×A7×A8):A8:=x.2.2.2.2.2.2.2.2
abbrev p9 (x:A0×A1×A2×A3×A4×A5×A6×A7×A8×A9×A10):A9:=x.2.2.2.2.2.2.2.2.2.1
abbrev q9 (x:A0×A1×A2×A3×A4×A5×A6×A7×A8×A9):A9:=x.2.2.2.2.2.2.2.2.2
abbrev p10 (x:A0×A1×A2×A3×A4×A5×A6×A7×A8×A9×A10×A11):A10:=x.2.2.2.2.2.2.2.2.2.2.1
abbrev q10 (x:A0×A1×A2×A3×A4×A5×A6×A7×A8×A9×A10):A10:=x.2.2.2.2.2.2.2.2.2.2
abbrev p11 (x:A0×A1×A2×A3×A4×A5×A6×A7×A8×A9×A10×A11×A12):A11:=x.2.2.2.2.2.2.2.2.2.2.2.1
abbrev q11 (x:A0×A1×A2×A3×A4×A5×A6×A7×A8×A9×A10×A11):A11:=x.2.2.2.2.2.2.2.2.2.2.2
abbrev p12 (x:A0×A1×A2×A3×A4×A5×A6×A7×A8×A9×A10×A11×A12×A13):A12:=x.2.2.2.2.2.2.2.2.2.2.2.2.1
abbrev q12 (x:A0×A1×A2×A3×A4×A5×A6×A7×A8×A9×A10×A11×A12):A12:=x.2.2.2.2.2.2.2.2.2.2.2.2
abbrev p13 (x:A0×A1×A2×A3×A4×A5×A6×A7×A8×A9×A10×A11×A12×A13×A14):A13:=x.2.2.2.2.2.2.2.2.2.2.2.2.2.1
abbrev q13 (x:A0×A1×A2×A3×A4×A5×A6×A7×A8×A9×A10×A11×A12×A13):A13:=x.2.2.2.2.2.2.2.2.2.2.2.2.2
abbrev p14 (x:A0×A1×A2×A3×A4×A5×A6×A7×A8×A9×A10×A11×A12×A13×A14×A15):A14:=x.2.2.2.2.2.2.2.2.2.2.2.2.2.2.1
abbrev p15 (x:A0×A1×A2×A3×A4×A5×A6×A7×A8×A9×A10×A11×A12×A13×A14×A15×A16):A15:=x.2.2.2.2.2.2.2.2.2.2.2.2.2.2.2.1
abbrev p16 (x:A0×A1×A2×A3×A4×A5×A6×A7×A8×A9×A10×A11×A12×A13×A14×A15×A16×A17):A16:=x.2.2.2.2.2.2.2.2.2.2.2.2.2.2.2.2.1
abbrev q16 (x:A0×A1×A2×A3×A4×A5×A6×A7×A8×A9×A10×A11×A12×A13×A14×A15×A16):A16:=x.2.2.2.2.2.2.2.2.2.2.2.2.2.2.2.2
abbrev p17 (x:A0×A1×A2×A3×A4×A5×A6×A7×A8×A9×A10×A11×A12×A13×A14×A15×A16×A17×A18):A17:=x.2.2.2.2.2.2.2.2.2.2.2.2.2.2.2.2.2.1
abbrev q17 (x:A0×A1×A2×A3×A4×A5×A6×A7×A8×A9×A10×A11×A12×A13×A14×A15×A16×A17):A17:=x.2.2.2.2.2.2.2.2.2.2.2.2.2.2.2.2.2
abbrev p18 (x:A0×A1×A2×A3×A4×A5×A6×A7×A8×A9×A10×A11×A12×A13×A14×A15×A16×A17×A18×A19):A18:=x.2.2.2.2.2.2.2.2.2.2.2.2.2.2.2.2.2.2.1
abbrev q18 (x:A0×A1×A2×A3×A4×A5×A6×A7×A8×A9×A10×A11×A12×A13×A14×A15×A16×A17×A18):A18:=x.2.2.2.2.2.2.2.2.2.2.2.2.2.2.2.2.2.2
abbrev p19 (x:A0×A1×A2×A3×A4×A5×A6×A7×A8×A9×A10×A11×A12×A13×A14×A15×A16×A17×A18×A19×A20):A19:=x.2.2.2.2.2.2.2.2.2.2.2.2.2.2.2.2.2.2.2.1
abbrev p20 (x:A0×A1×A2×A3×A4×A5×A6×A7×A8×A9×A10×A11×A12×A13×A14×A15×A16×A17×A18×A19×A20×A21):A20:=x.2.2.2.2.2.2.2.2.2.2.2.2.2.2.2.2.2.2.2.2.1
abbrev q21 (x:A0×A1×A2×A3×A4×A5×A6×A7×A8×A9×A10×A11×A12×A13×A14×A15×A16×A17×A18×A19×A20×A21):A21:=x.2.2.2.2.2.2.2.2.2.2.2.2.2.2.2.2.2.2.2.2.2
end Prod
namespace Go.Proofs.YtkagidinekdnoaaGreatDoor.AI
open Go.RowKit
set_option maxRecDepth 100000
set_option maxHeartbeats 4000000
set_option linter.unusedVariables false
set_option linter.unusedSimpArgs false
open Act renaming put→Nw
open _root_.Array renaming length_toList→ir,replicate→oo
open _root_.Bool renaming true→ai,false→aj
open _root_.Int renaming ofNat→aO,toNat→aT,tmod→zY
open IntKind renaming wrap→oO
open _root_.List renaming length→al,replicate→aG,range→c4,take→dO,length_singleton→dR,getElem?_cons_zero→qQ
open _root_.Nat renaming beq→aC,testBit→aN,ble→eJ,blt→gi,min→iN
open Oper renaming wp→Ho
open _root_.Option renaming some→af,none→ah,bind_some→aI
open Region renaming wanted→iG,binds→zU,ready→Hn
open _root_.Sum renaming inr→bQ,inl→mm
open World renaming shape?→rL,cell?→Nt
noncomputable section
abbrev ay:=@if_neg
abbrev aF:=@if_pos
abbrev aQ:=@decide_eq_true
abbrev be:=@decide_eq_true_eq
abbrev bt:=@of_decide_eq_true
abbrev bG:=@if_true
abbrev bL:=@decide_eq_false
abbrev cz:=@decide_false
abbrev cI:=@decide_true
abbrev cV:=@absurd
abbrev cZ:=@beq_iff_eq
abbrev c6:=@beq_self_eq_true
abbrev eA:=@if_false
abbrev f_:=@or_false
abbrev gI:=@congrArg
abbrev Bu:=@true_and
abbrev Tt:=@of_decide_eq_false
abbrev ak:=@Option.some.injEq
abbrev av:=@Bool.and_eq_true
abbrev aw:=@Nat.eq_of_beq_eq_true
abbrev aA:=@List.getD_eq_getElem?_getD
abbrev aB:=@List.getElem?_eq_getElem
abbrev aD:=@Prod.mk.injEq
abbrev aL:=@List.mem_singleton
abbrev a8:=@Nat.le_of_ble_eq_true
abbrev ba:=@List.mem_of_getElem?
abbrev bc:=@List.getElem?_map
abbrev bl:=@List.getElem?_eq_some_iff
abbrev bm:=@List.mem_cons
abbrev bp:=@Nat.testBit_or
abbrev bu:=@List.length_append
abbrev bE:=@List.length_take
abbrev bI:=@Nat.ble_eq_true_of_le
abbrev bN:=@Nat.zero_add
abbrev bO:=@List.getElem?_append_left
abbrev bP:=@List.mem_append
abbrev bR:=@List.getElem?_eq_none
abbrev bW:=@Nat.le_refl
abbrev bX:=@List.length_map
abbrev bZ:=@Nat.lt_or_ge
abbrev b7:=@List.getElem?_append_right
abbrev ct:=@List.not_mem_nil
abbrev cA:=@List.map_append
abbrev cD:=@Bool.false_eq_true
abbrev cF:=@Array.getElem?_eq_some_iff
abbrev cG:=@Nat.mul_le_mul_right
abbrev cH:=@List.mem_cons_of_mem
abbrev cK:=@Array.getElem?_toList
abbrev cP:=@List.take_length
abbrev cX:=@List.getElem?_take
abbrev c_:=@List.mem_map
abbrev dg:=@Nat.le_trans
abbrev dh:=@List.mem_cons_self
abbrev dz:=@Nat.lt_of_lt_of_le
abbrev dA:=@List.ext_getElem
abbrev dP:=@List.foldl_append
abbrev dS:=@Int.natCast_nonneg
abbrev ey:=@Bool.not_eq_true'
abbrev eK:=@List.length_replicate
abbrev eP:=@Int.le_refl
abbrev e9:=@List.getElem?_of_mem
abbrev fI:=@List.flatMap_cons
abbrev fX:=@List.take_of_length_le
abbrev gk:=@List.map_cons
abbrev gp:=@List.all_eq_true
abbrev gF:=@Array.getD_eq_getD_getElem?
abbrev gH:=@List.length_eq_zero_iff
abbrev gV:=@List.mem_of_mem_take
abbrev gW:=@List.getElem?_drop
abbrev hZ:=@Nat.ne_of_beq_eq_false
abbrev ib:=@Array.getElem?_eq_getElem
abbrev iu:=@Nat.le_succ_of_le
abbrev iv:=@List.append_assoc
abbrev iH:=@Option.isSome_iff_exists
abbrev iM:=@Nat.succ_mul
abbrev iO:=@List.cons.injEq
abbrev iP:=@List.append_nil
abbrev iQ:=@Bool.or_eq_true
abbrev jK:=@Option.map_eq_some_iff
abbrev jL:=@List.mem_range
abbrev jM:=@List.length_range
abbrev jR:=@Option.some.inj
abbrev km:=@List.getElem?_toArray
abbrev kD:=@Nat.or_assoc
abbrev kF:=@List.map_take
abbrev kG:=@Bool.and_self
abbrev kY:=@Nat.zero_le
abbrev kZ:=@List.take_append_of_le_length
abbrev k9:=@List.mem_append_left
abbrev lm:=@List.getElem?_replicate
abbrev mB:=@List.length_drop
abbrev nk:=@List.getElem_range
abbrev nl:=@Bool.false_and
abbrev nz:=@List.mem_append_right
abbrev oM:=@List.take_succ_eq_append_getElem
abbrev oN:=@List.getElem?_set
abbrev oP:=@Bool.and_eq_true_iff
abbrev pq:=@Nat.add_assoc
abbrev pt:=@List.eq_of_mem_replicate
abbrev pw:=@Bool.true_and
abbrev pO:=@Array.getElem?_setIfInBounds_ne
abbrev pV:=@List.map_congr_left
abbrev pW:=@List.length_take_le
abbrev qP:=@List.getElem_map
abbrev rM:=@List.drop_of_length_le
abbrev sD:=@Nat.min_eq_left
abbrev sF:=@List.length_set
abbrev sR:=@List.contains_iff_mem
abbrev s8:=@List.size_toArray
abbrev uL:=@List.replicate_succ'
abbrev uX:=@Nat.beq_refl
abbrev uY:=@List.mem_flatMap
abbrev uZ:=@List.getElem_set
abbrev u_:=@List.getElem_mem
abbrev vb:=@List.drop_append
abbrev vE:=@Classical.byContradiction
abbrev vY:=@List.drop_succ_cons
abbrev xa:=@Nat.not_lt_zero
abbrev xc:=@List.mem_filter
abbrev xW:=@List.filter_append
abbrev zW:=@Nat.lt_succ_of_lt
abbrev zX:=@List.map_map
abbrev Bs:=@List.take_append_drop
abbrev Bt:=@List.length_filter_le
abbrev Ce:=@Nat.lt_succ_self
abbrev Cf:=@Int.not_lt
abbrev Cj:=@Nat.lt_irrefl
abbrev D5:=@Nat.zero_or
abbrev D6:=@List.getElem?_mapIdx
abbrev D7:=@List.drop_append_of_le_length
abbrev Fr:=@List.sum_append
abbrev Fs:=@List.range_succ
abbrev GF:=@Int.toNat_of_nonneg
abbrev Hp:=@Nat.sub_self
abbrev Hq:=@Nat.mul_comm
abbrev KV:=@Nat.eq_zero_or_pos
abbrev KX:=@Array.ext'
abbrev Nu:=@Nat.lt_trichotomy
abbrev Nv:=@Nat.add_mul
inductive FV where
 |raw (v:Value)
 |sl (cells:List FV) (n:Nat)
 |ptr (cells:List FV) (off:Nat)
 |agg (cells:List FV)
inductive AV where
 |f (x:FV)
 |ptr (id off:Nat)
 |sl (id off n:Nat)
 |row (id sz n:Nat)
 |mp (id:Nat)
 |emp
 |anyb
 |agg (cells:List AV)
 |tup (vs:List AV)
 |clo (g:FuncId) (cap:List AV)
def FV.isCell:FV->Bool
 |.raw v=>v.oneCell'
 |.sl _ _=>ai
 |.ptr _ _=>ai
 |.agg _=>aj
def AV.isCell:AV->Bool
 |.f x=>x.isCell
 |.ptr _ _=>ai
 |.sl _ _ _=>ai
 |.row _ _ _=>ai
 |.mp _=>ai
 |.emp=>ai
 |.clo _ _=>ai
 |_=>aj
inductive nh (O:Nat->Prop) (w:World):FV->Value->Prop
 |raw (v:Value):nh O w (.raw v) v
 |nil (a:Option Addr) (c:Nat) (hc:c<=maxLen):nh O w (.sl [] 0) (.slice a 0 c)
 |sl (cells:List FV) (n c b off:Nat) (us:Nat->Value) (hn:n<=c) (hc:c<=maxLen) (hO:¬O b) (hb:b<w.heap.size)
   (hcl:∀ x∈cells,x.isCell=ai)
   (hu:∀ j,j<cells.length->w.cell? ⟨b,off+j,ah⟩=af (us j)) (hr:∀ (j:Nat) x,cells[j]? =af x->nh O w x (us j)):
   nh O w (.sl cells n) (.slice (af ⟨b,off,ah⟩) n c)
 |ptr (cells:List FV) (o b off:Nat) (us:Nat->Value) (hO:¬O b) (hb:b<w.heap.size)
   (hcl:∀ x∈cells,x.isCell=ai)
   (hu:∀ j,j<cells.length->w.cell? ⟨b,off+j,ah⟩=af (us j)) (hr:∀ (j:Nat) x,cells[j]? =af x->nh O w x (us j)):
   nh O w (.ptr cells o) (.pointer (af ⟨b,off+o,ah⟩))
 |agg (cells:List FV) (vs:List Value) (hl:vs.length=cells.length) (hcl:∀ x∈cells,x.isCell=ai)
   (hr:∀ (j:Nat) x v,cells[j]? =af x->vs[j]? =af v->nh O w x v):nh O w (.agg cells) (.agg vs.toArray)
abbrev PM:=Nat->Option Nat
inductive cW (φ:PM) (O:Nat->Prop) (w:World):AV->Value->Prop
 |f {x:FV} {v:Value} (h:nh O w x v):cW φ O w (.f x) v
 |ptr {id off b:Nat} (h:φ id=af b):cW φ O w (.ptr id off) (.pointer (af ⟨b,off,ah⟩))
 |sl {id off n c b:Nat} (h:φ id=af b) (hn:n<=c) (hc:c<=maxLen):cW φ O w (.sl id off n) (.slice (af ⟨b,off,ah⟩) n c)
 |row {id sz n c b:Nat} (h:φ id=af b) (hn:n<=c) (hc:c<=maxLen) (hs:∃ ty,w.shape? b=af (ty,c*sz)):
   cW φ O w (.row id sz n) (.slice (af ⟨b,0,ah⟩) n c)
 |emp {a:Option Addr}:cW φ O w .emp (.slice a 0 0)
 |anyb {b:Bool}:cW φ O w .anyb (.bool b)
 |mp {id b:Nat} (h:φ id=af b):cW φ O w (.mp id) (.map (af b))
 |agg {cells:List AV} {vs:List Value} (hl:vs.length=cells.length) (hcl:∀ x∈cells,x.isCell=ai)
   (hr:∀ (j:Nat) x v,cells[j]? =af x->vs[j]? =af v->cW φ O w x v):cW φ O w (.agg cells) (.agg vs.toArray)
 |tup {cells:List AV} {vs:List Value} (hl:vs.length=cells.length)
   (hr:∀ (j:Nat) x v,cells[j]? =af x->vs[j]? =af v->cW φ O w x v):cW φ O w (.tup cells) (.tuple vs.toArray)
 |clo {g:FuncId} {cells:List AV} {vs:List Value} (hl:vs.length=cells.length)
   (hr:∀ (j:Nat) x v,cells[j]? =af x->vs[j]? =af v->cW φ O w x v):cW φ O w (.clo g cells) (.func (.func g) #[] vs.toArray)
structure KP (O:Nat->Prop) (w w':World):Prop where
 os:w'.os=w.os
 tape:w'.tape=w.tape
 output:w'.output=w.output
 size:w.heap.size<=w'.heap.size
 blk:∀ k,k<w.heap.size->¬O k->w'.heap[k]? =w.heap[k]?
 shp:∀ k,k<w.heap.size->w'.shape? k=w.shape? k
theorem KP.refl (O:Nat->Prop) (w:World):KP O w w:=⟨rfl,rfl,rfl,bW _,λ_ _ _=>rfl,λ_ _=>rfl⟩
theorem DN {w w':World} {b:Nat} (h:w'.heap[b]? =w.heap[b]?) (o:Nat):w'.cell? ⟨b,o,ah⟩=w.cell? ⟨b,o,ah⟩:=by
 unfold Nt;rw[h]
theorem nh.ext {O O':Nat->Prop} {w w':World} (he:KP O w w') (J:∀ k,k<w.heap.size->O' k->O k) {x:FV} {v:Value} (h:nh O w x v):nh O' w' x v:=by
 induction h with
 |raw v=>exact .raw v
 |nil a c hc=>exact .nil a c hc
 |sl cells n c b off us hn hc hO hb hcl hu hr I=>
  exact .sl cells n c b off us hn hc (λh=>hO (J b hb h)) (dz hb he.size) hcl (λj hj=>by rw[DN (he.blk b hb hO)];exact hu j hj) I
 |ptr cells o b off us hO hb hcl hu hr I=>
  exact .ptr cells o b off us (λh=>hO (J b hb h)) (dz hb he.size) hcl (λj hj=>by rw[DN (he.blk b hb hO)];exact hu j hj) I
 |agg cells vs hl hcl hr I=>exact .agg cells vs hl hcl I
theorem cW.ext {φ φ':PM} {O O':Nat->Prop} {w w':World} (hs:∀ i k,φ i=af k->φ' i=af k) (he:KP O w w') (J:∀ k,k<w.heap.size->O' k->O k) {x:AV} {v:Value} (h:cW φ O w x v):cW φ' O' w' x v:=by
 induction h with
 |f h=>exact .f (h.ext he J)
 |ptr h=>exact .ptr (hs _ _ h)
 |sl h hn hc=>exact .sl (hs _ _ h) hn hc
 |row h hn hc hsh=>
  obtain⟨ty,hty⟩:=hsh;refine .row (hs _ _ h) hn hc ⟨ty,?_⟩;rw[he.shp _ ?_];exact hty;unfold rL at hty;rcases bZ _ w.heap.size with hlt|hge
  .exact hlt
  .rw[Array.getElem?_eq_none hge] at hty;cases hty
 |emp=>exact .emp
 |anyb=>exact .anyb
 |mp h=>exact .mp (hs _ _ h)
 |agg hl hcl hr I=>exact .agg hl hcl I
 |tup hl hr I=>exact .tup hl I
 |clo hl hr I=>exact .clo hl I
inductive BC where
 |fz (l:List FV)
 |mx (l:List AV)
 |mp (es:List (Value×AV))
 |it (s:ByteArray) (pos:Nat)
def BC.get:BC->Nat->Option AV
 |.fz l,j=>l[j]?.map AV.f
 |.mx l,j=>l[j]?
 |_,_=>ah
def BC.len:BC->Nat
 |.fz l=>l.length
 |.mx l=>l.length
 |_=>0
def BC.isCells:BC->Bool
 |.fz _=>ai
 |.mx _=>ai
 |_=>aj
structure w_ where
 ty:TypeId
 c:BC
abbrev HF:=Nat->Option w_
def own (φ:PM) (h:HF) (k:Nat):Prop:=∃ id b,h id=af b/\φ id=af k
def tot (E:Nat->Prop) (φ:PM) (h:HF) (k:Nat):Prop:=E k\/own φ h k
def vD (φ:PM) (O:Nat->Prop) (w:World) (c:BC) (arr:Array Value):Prop:=
 c.len<=arr.size/\∀ j x,c.get j=af x->x.isCell=ai/\∃ v,arr[j]? =af v/\cW φ O w x v
def jt (φ:PM) (O:Nat->Prop) (w:World) (b:w_) (o:Obj):Prop:=
 match b.c with
 |.mp es=>∃ ents clock,o= .map ents clock/\ents.toList.map (·.key)=es.map (·.1)/\∀ (j:Nat) x,es[j]? =af x->∃ m,ents[j]? =af m/\cW φ O w x.2 m.val
 |.it s p=>o= .stringIter s p
 |c=>∃ arr,o= .cells arr b.ty (0,0)/\vD φ O w c arr
def XE (φ:PM) (O:Nat->Prop) (w:World) (k:Nat) (b:w_):Prop:=∃ o,w.heap[k]? =af o/\jt φ O w b o
theorem XE.cells {φ:PM} {O:Nat->Prop} {w:World} {k:Nat} {b:w_} (h:XE φ O w k b) (hc:b.c.isCells=ai):
 ∃ arr,w.heap[k]? =af (.cells arr b.ty (0,0))/\vD φ O w b.c arr:=by
 obtain⟨o,h1,h2⟩:=h;unfold jt at h2;cases hb:b.c with
 |fz l=>rw[hb] at h2;obtain⟨arr,rfl,I⟩:=h2;exact⟨arr,h1,I⟩
 |mx l=>rw[hb] at h2;obtain⟨arr,rfl,I⟩:=h2;exact⟨arr,h1,I⟩
 |mp _=>rw[hb] at hc;cases hc
 |it _ _=>rw[hb] at hc;cases hc
theorem jt.mono {φ φ':PM} {O O':Nat->Prop} {w w':World} (hk:∀ x v,cW φ O w x v->cW φ' O' w' x v) {b:w_} {o:Obj} (h:jt φ O w b o):jt φ' O' w' b o:=by
 unfold jt at h ⊢;cases hb:b.c with
 |fz l=>rw[hb] at h;obtain⟨arr,h1,h2,J⟩:=h;exact⟨arr,h1,h2,λj x I=>by obtain⟨a,v,c,d⟩:=J j x I;exact⟨a,v,c,hk _ _ d⟩⟩
 |mx l=>rw[hb] at h;obtain⟨arr,h1,h2,J⟩:=h;exact⟨arr,h1,h2,λj x I=>by obtain⟨a,v,c,d⟩:=J j x I;exact⟨a,v,c,hk _ _ d⟩⟩
 |mp es=>rw[hb] at h;obtain⟨e,c,h1,h2,J⟩:=h;exact⟨e,c,h1,h2,λj x I=>by obtain⟨m,a,b⟩:=J j x I;exact⟨m,a,hk _ _ b⟩⟩
 |it s p=>rw[hb] at h;exact h
theorem vD.mono {φ φ':PM} {O O':Nat->Prop} {w w':World} (hk:∀ x v,cW φ O w x v->cW φ' O' w' x v) {c:BC} {arr:Array Value} (h:vD φ O w c arr):vD φ' O' w' c arr:=
 ⟨h.1,λj x I=>by obtain⟨a,v,c,d⟩:=h.2 j x I;exact⟨a,v,c,hk _ _ d⟩⟩
def uR (l:List UInt8):FV:=.raw (.string ⟨l.toArray⟩)
def CP:List FV:=[uR [118,97,114],uR [118,111,108,97,116,105,108,101],uR [109,117,116,101,120],uR [114,119,108,111,99,107],uR [99,111,110,100],uR [102,117,116,117,114,101],uR [116,104,114,101,97,100],uR [105,102],uR [101,108,115,101],uR [119,104,105,108,101],uR [108,111,99,107],uR [114,101,97,100],uR [119,114,105,116,101],uR [116,114,97,110,115,97,99,116,105,111,110],uR [97,116,111,109,105,99],uR [119,97,105,116],uR [110,111,116,105,102,121],uR [110,111,116,105,102,121,97,108,108],uR [115,112,97,119,110],uR [106,111,105,110],uR [115,101,116],uR [103,101,116]]
def G (g:Nat):Option (List FV):=if g==0 then af CP else ah
structure qY (φ:PM) (E:Nat->Prop) (h:HF) (w:World):Prop where
 inj:∀ i j b b' k,h i=af b->h j=af b'->φ i=af k->φ j=af k->i=j
 at_:∀ i b,h i=af b->∃ k,φ i=af k/\¬E k/\XE φ (tot E φ h) w k b
 el:∀ k,E k->k<w.heap.size
 gl:∀ g cells,G g=af cells->nh (tot E φ h) w (.ptr cells 0) (.pointer (af ⟨g,0,ah⟩))
structure iY (φ φ':PM) (h h':HF) (w w':World):Prop where
 sub:∀ i k,φ i=af k->φ' i=af k
 ext:KP (own φ h) w w'
 own_:∀ k,k<w.heap.size->own φ' h' k->own φ h k
theorem iY.refl (φ:PM) (h:HF) (w:World):iY φ φ h h w w:=⟨λ_ _ h=>h,KP.refl _ _,λ_ _ h=>h⟩
theorem iY.trans {φ φ' φ'':PM} {h h' h'':HF} {w w' w'':World} (m:iY φ φ' h h' w w') (n:iY φ' φ'' h' h'' w' w''):iY φ φ'' h h'' w w'' where
 sub:=λi k e=>n.sub i k (m.sub i k e)
 ext:=⟨n.ext.os.trans m.ext.os,n.ext.tape.trans m.ext.tape,n.ext.output.trans m.ext.output,dg m.ext.size n.ext.size,
  λk hk I=>(n.ext.blk k (dz hk m.ext.size) (λh=>I (m.own_ k hk h))).trans (m.ext.blk k hk I),
  λk hk=>(n.ext.shp k (dz hk m.ext.size)).trans (m.ext.shp k hk)⟩
 own_:=λk hk h=>m.own_ k hk (n.own_ k (dz hk m.ext.size) h)
theorem KP.mono {O O':Nat->Prop} {w w':World} (h:KP O w w') (I:∀ k,O k->O' k):KP O' w w':=
 ⟨h.os,h.tape,h.output,h.size,λk hk hO=>h.blk k hk (λx=>hO (I k x)),h.shp⟩
theorem iY.keep {φ φ':PM} {h h':HF} {w w':World} (m:iY φ φ' h h' w w') {E:Nat->Prop} {x:AV} {v:Value} (r:cW φ (tot E φ h) w x v):cW φ' (tot E φ' h') w' x v:=
 r.ext m.sub (m.ext.mono λ_ h=>.inr h) λk hk I=>I.elim .inl λo=>.inr (m.own_ k hk o)
theorem iY.keepF {φ φ':PM} {h h':HF} {w w':World} (m:iY φ φ' h h' w w') {E:Nat->Prop} {x:FV} {v:Value} (r:nh (tot E φ h) w x v):nh (tot E φ' h') w' x v:=
 r.ext (m.ext.mono λ_ h=>.inr h) λk hk I=>I.elim .inl λo=>.inr (m.own_ k hk o)
abbrev EF:=Nat->Option AV
def Np (φ:PM) (O:Nat->Prop) (w:World) (e:EF) (a:Act):Prop:=∀ t x,e t=af x->cW φ O w x (a.tmps.getD t undef)
def CD (e:EF) (dst:Option Nat) (x:AV):EF:=λt=>if dst=af t then af x else e t
def eS (h:HF) (wr:List Nat) (nw:HF):HF:=λi=>if i∈wr then nw i else h i
structure Br where
 val:AV
 rd:List Nat
 wr:List Nat
 nw:HF
 N:List Nat
def gL (P:Program) (o:Oper) (e:EF) (h:HF) (f:Br):Prop:=
 ∀ (φ:PM) (E:Nat->Prop) (h':HF) (w:World) (a:Act),(∀ i∈f.rd,h' i=h i)->(∀ i∈f.wr,h' i=h i)->
  (∀ t,.tmp t∈o.op.operands->∀ y,e t=af y->cW φ (tot E φ h') w y (a.tmps.getD t undef))->qY φ E h' w->(∀ n∈f.N,φ n=ah)->
  o.wp P a w (λa' w'=>∃ v φ',a'=a.put o.dst v/\iY φ φ' h' (eS h' f.wr f.nw) w w'/\(∀ i k,φ' i=af k->φ i=af k\/i∈f.N)/\
   qY φ' E (eS h' f.wr f.nw) w'/\cW φ' (tot E φ' (eS h' f.wr f.nw)) w' f.val v) (λ_ _ _=>False)
def rN:Br:=⟨.f (.raw undef),[],[],λ_=>ah,[]⟩
inductive Kz (P:Program) (ops:Array Oper) (o:Oper) (f:Br) (e:EF) (h:HF):Prop
 |run (hg:o.guard=ah) (ht:gL P o e h f)
 |runG (j t:Nat) (want:Bool) (hg:o.guard=af (j,want)) (hj:(ops[j]?).bind (·.dst)=af t) (he:e t=af (.f (.raw (.bool want)))) (ht:gL P o e h f)
 |skip (j t:Nat) (want:Bool) (hg:o.guard=af (j,want)) (hj:(ops[j]?).bind (·.dst)=af t) (v:Value) (he:e t=af (.f (.raw v))) (hv:v≠ .bool want) (hf:f=rN)
inductive zS (P:Program) (ops:Array Oper):List (Oper×Br)->EF->HF->EF->HF->Prop
 |nil (e:EF) (h:HF):zS P ops [] e h e h
 |cons {o:Oper} {f:Br} {r:List (Oper×Br)} {e e':EF} {h h':HF} (hs:Kz P ops o f e h)
   (hr:zS P ops r (CD e o.dst f.val) (eS h f.wr f.nw) e' h'):zS P ops ((o,f)::r) e h e' h'
def KZ (S:Nat->Bool):Nat->List (Oper×Br)->EF->EF
 |_,[],e=>e
 |k,(o,f)::r,e=>KZ S (k+1) r (if S k then CD e o.dst f.val else e)
def Cg (S:Nat->Bool):Nat->List (Oper×Br)->HF->HF
 |_,[],h=>h
 |k,(_,f)::r,h=>Cg S (k+1) r (if S k then eS h f.wr f.nw else h)
theorem Ec {S S':Nat->Bool} {t:Nat}:∀ (l:List (Oper×Br)) (k:Nat) (e e':EF),e t=e' t->
 (∀ (j:Nat) o f,l[j]? =af (o,f)->o.dst=af t->S (k+j)=S' (k+j))->KZ S k l e t=KZ S' k l e' t
 |[],_,_,_,he,_=>he
 |(o,f)::r,k,e,e',he,I=>by
  simp only[KZ];refine Ec r (k+1) _ _ ?_ (λj o f hj hd=>by have:=I (j+1) o f (by simpa using hj) hd;rwa [show k+(j+1)=k+1+j from by omega] at this);by_cases hd:o.dst=af t
  .rw[show S k=S' k from by simpa using I 0 o f rfl hd];split
   .simp[CD,hd]
   .exact he
  .split<;>split<;>simp[CD,hd,he]
theorem Eb {S S':Nat->Bool} {t:Nat}:∀ (l:List (Oper×Br)) (k:Nat) (e e':HF),e t=e' t->
 (∀ (j:Nat) o f,l[j]? =af (o,f)->t∈f.wr->S (k+j)=S' (k+j))->Cg S k l e t=Cg S' k l e' t
 |[],_,_,_,he,_=>he
 |(o,f)::r,k,e,e',he,I=>by
  simp only[Cg];refine Eb r (k+1) _ _ ?_ (λj o f hj hd=>by have:=I (j+1) o f (by simpa using hj) hd;rwa [show k+(j+1)=k+1+j from by omega] at this);by_cases hd:t∈f.wr
  .rw[show S k=S' k from by simpa using I 0 o f rfl hd];split
   .simp[eS,hd]
   .exact he
  .split<;>split<;>simp[eS,hd,he]
theorem Cr {S:Nat->Bool} {t:Nat}:∀ (l:List (Oper×Br)) (k:Nat) (e:EF),(∀ (j:Nat) o f,l[j]? =af (o,f)->o.dst=af t->S (k+j)=aj)->KZ S k l e t=e t
 |[],_,_,_=>rfl
 |(o,f)::r,k,e,I=>by
  simp only[KZ];rw[Cr r (k+1) _ (λj o f hj hd=>by have:=I (j+1) o f (by simpa using hj) hd;rwa [show k+(j+1)=k+1+j from by omega] at this)];split
  .rename_i h;unfold CD;rw[ay];intro hd;have:=I 0 o f rfl hd;simp_all
  .rfl
theorem Cq {S:Nat->Bool} {t:Nat}:∀ (l:List (Oper×Br)) (k:Nat) (e:HF),(∀ (j:Nat) o f,l[j]? =af (o,f)->t∈f.wr->S (k+j)=aj)->Cg S k l e t=e t
 |[],_,_,_=>rfl
 |(o,f)::r,k,e,I=>by
  simp only[Cg];rw[Cq r (k+1) _ (λj o f hj hd=>by have:=I (j+1) o f (by simpa using hj) hd;rwa [show k+(j+1)=k+1+j from by omega] at this)];split
  .rename_i h;unfold eS;rw[ay];intro hd;have:=I 0 o f rfl hd;simp_all
  .rfl
theorem PU {S:Nat->Bool} {t:Nat}:∀ (l:List (Oper×Br)) (k i:Nat) (e:EF) (o:Oper) (f:Br),l[i]? =af (o,f)->o.dst=af t->S (k+i)=ai->
 (∀ (j:Nat) o' f',i<j->l[j]? =af (o',f')->o'.dst=af t->S (k+j)=aj)->KZ S k l e t=af f.val
 |[],_,_,_,_,_,h,_,_,_=>by simp at h
 |(o',f')::r,k,0,e,o,f,h,hd,I,hl=>by
  simp only[qQ,ak,aD] at h;obtain⟨rfl,rfl⟩:=h;simp only[KZ];rw[Cr r (k+1) _ (λj o f hj hd=>by have:=hl (j+1) o f (by omega) (by simpa using hj) hd;rwa [show k+(j+1)=k+1+j from by omega] at this)];simp at I;simp[I,CD,hd]
 |(o',f')::r,k,i+1,e,o,f,h,hd,I,hl=>by
  simp only[KZ];exact PU r (k+1) i _ o f (by simpa using h) hd (by rwa [show k+1+i=k+(i+1) from by omega])
   (λj o f hij hj hd=>by have:=hl (j+1) o f (by omega) (by simpa using hj) hd;rwa [show k+(j+1)=k+1+j from by omega] at this)
theorem PR {S:Nat->Bool} {t:Nat}:∀ (l:List (Oper×Br)) (k i:Nat) (e:HF) (o:Oper) (f:Br),l[i]? =af (o,f)->t∈f.wr->S (k+i)=ai->
 (∀ (j:Nat) o' f',i<j->l[j]? =af (o',f')->t∈f'.wr->S (k+j)=aj)->Cg S k l e t=f.nw t
 |[],_,_,_,_,_,h,_,_,_=>by simp at h
 |(o',f')::r,k,0,e,o,f,h,hd,I,hl=>by
  simp only[qQ,ak,aD] at h;obtain⟨rfl,rfl⟩:=h;simp only[Cg];rw[Cq r (k+1) _ (λj o f hj hd=>by have:=hl (j+1) o f (by omega) (by simpa using hj) hd;rwa [show k+(j+1)=k+1+j from by omega] at this)];simp at I;simp[I,eS,hd]
 |(o',f')::r,k,i+1,e,o,f,h,hd,I,hl=>by
  simp only[Cg];exact PR r (k+1) i _ o f (by simpa using h) hd (by rwa [show k+1+i=k+(i+1) from by omega])
   (λj o f hij hj hd=>by have:=hl (j+1) o f (by omega) (by simpa using hj) hd;rwa [show k+(j+1)=k+1+j from by omega] at this)
theorem zS.step {P:Program} {ops:Array Oper}:∀ {l:List (Oper×Br)} {e e':EF} {h h':HF} (_:zS P ops l e h e' h') (k i:Nat) (o:Oper) (f:Br),l[i]? =af (o,f)->
 Kz P ops o f (KZ (λj=>decide (j<k+i)) k l e) (Cg (λj=>decide (j<k+i)) k l h):=by
 intro l e e' h h' hc;induction hc with
 |nil=>intro k i o f hi;simp at hi
 |@cons o1 I r e e' h h' hs hr J=>
  intro k i o f hi;cases i with
  |zero=>
   simp only[qQ,ak,aD] at hi;obtain⟨rfl,rfl⟩:=hi;have e1:KZ (λj=>decide (j<k+0)) k ((o1,I)::r) e=e:=by
    funext t;rw[Cr];intro j o f _ _;simp
   have e2:Cg (λj=>decide (j<k+0)) k ((o1,I)::r) h=h:=by
    funext t;rw[Cq];intro j o f _ _;simp
   rw[e1,e2];exact hs
  |succ i=>
   have:=J (k+1) i o f (by simpa using hi);simp only[KZ,Cg];rw[show k+(i+1)=k+1+i from by omega];simpa[show k<k+1+i from by omega] using this
theorem zS.final {P:Program} {ops:Array Oper}:∀ {l:List (Oper×Br)} {e e':EF} {h h':HF} (_:zS P ops l e h e' h') (k:Nat) (S:Nat->Bool),(∀ j,j<l.length->S (k+j)=ai)->
 KZ S k l e=e'/\Cg S k l h=h':=by
 intro l e e' h h' hc;induction hc with
 |nil=>intro k S _;exact⟨rfl,rfl⟩
 |@cons o1 M r e e' h h' hs hr J=>
  intro k S I;have h0:S k=ai:=by simpa using I 0 (by simp)
  simp only[KZ,Cg,h0,bG];exact J (k+1) S (λj hj=>by have:=I (j+1) (by simpa using hj);rwa [show k+(j+1)=k+1+j from by omega] at this)
theorem PI {P:Program} {o:Oper} {a:Act} {w:World} {K K':Act->World->Prop} {Q:Exit->Act->World->Prop} (h:∀ a w,K a w->K' a w)
 (hh:o.wp P a w K (λ_ _ _=>False)):o.wp P a w K' Q:=by
 unfold Ho at*
 generalize (execOp a.eval o).run P w=r at*
 cases r with
 |ok n w'=>
  cases n<;>simp only[Oper.upon] at hh ⊢<;>
   first
    |exact h _ _ hh
    |exact Calls.mono hh (λe w'' he=>by
      cases e with
      |returned v=>exact h _ _ he
      |panicked c=>exact he.elim
      |outgrown=>obtain⟨_,_,h⟩:=he;exact h.elim)
    |exact Rows.mono hh (λ_ _ he=>h _ _ he)
 |halt x w'=>cases x<;>simp only[Oper.upon] at hh ⊢<;>first|exact hh.elim|exact hh
inductive Bef (ops:Array Oper):Nat->Nat->Prop
 |one {j:Nat} {o:Oper} {e:Edge} (h:ops[j]? =af o) (he:e∈o.after) (hb:zU .any e=ai):Bef ops j e.on
 |more {j i:Nat} {o:Oper} {e:Edge} (h:ops[j]? =af o) (he:e∈o.after) (hb:zU .any e=ai) (hi:Bef ops e.on i):Bef ops j i
structure NIP (ops:Array Oper) (l:List (Oper×Br)):Prop where
 edge:∀ (j:Nat) o,ops[j]? =af o->∀ e∈o.after,zU .any e=ai->e.on<j
 pair:∀ (i j:Nat) oi fi oj fj,i<j->l[i]? =af (oi,fi)->l[j]? =af (oj,fj)->Bef ops j i\/
  (oi.apart ops oj=ai/\(∀ x∈fi.wr,x∉fj.rd/\x∉fj.wr)/\(∀ x∈fj.wr,x∉fi.rd))
 names:∀ (i j:Nat) oi fi oj fj,i<j->l[i]? =af (oi,fi)->l[j]? =af (oj,fj)->∀ n∈fi.N,n∉fj.N
def Fo (ops:Array Oper) (listed:Array Bool):Prop:=∀ (j:Nat) o,ops[j]? =af o->listed.getD j aj=ai->∀ e∈o.after,zU .any e=ai->listed.getD e.on aj=ai
theorem Fo.bef {ops:Array Oper} {listed:Array Bool} (hc:Fo ops listed) {j i:Nat} (h:Bef ops j i):listed.getD j aj=ai->listed.getD i aj=ai:=by
 induction h with
 |one h he hb=>intro hj;exact hc _ _ h hj _ he hb
 |more h he hb hi I=>intro hj;exact I (hc _ _ h hj _ he hb)
theorem XN {ops:Array Oper} {listed:Array Bool} (hc:Fo ops listed) {j i:Nat} {o:Oper} (I:ops[j]? =af o) (hr:∀ e∈o.after,zU .any e=ai->listed.getD e.on aj=ai) (h:Bef ops j i):listed.getD i aj=ai:=by
 cases h with
 |one h he hb=>rw[h] at I;cases I;exact hr _ he hb
 |more h he hb hi=>rw[h] at I;cases I;exact hc.bef hi (hr _ he hb)
theorem sK {listed:Array Bool} {j:Nat} (h:listed.getD j ai=aj):listed.getD j aj=aj/\j<listed.size:=by
 rcases bZ j listed.size with h1|h1
 .simp[h1] at h ⊢;exact h
 .simp[Array.getElem?_eq_none h1] at h
def StP (φ0:PM) (E:Nat->Prop) (e0:EF) (h0:HF) (w0:World) (a0:Act) (l:List (Oper×Br)) (S:Nat->Bool) (a:Act) (w:World):Prop:=
 ∃ φ,iY φ0 φ h0 (Cg S 0 l h0) w0 w/\(∀ i k,φ i=af k->φ0 i=af k\/∃ (j:Nat) (o:Oper) (f:Br),S j=ai/\l[j]? =af (o,f)/\i∈f.N)/\
  qY φ E (Cg S 0 l h0) w/\Np φ (tot E φ (Cg S 0 l h0)) w (KZ S 0 l e0) a/\a.defers=a0.defers/\a.tmps.size=a0.tmps.size
theorem Ic {a:Act} {dst:Option Tmp} {v:Value} {t:Nat} (hd:∀ d,dst=af d->d<a.tmps.size):(a.put dst v).tmps.getD t undef=if dst=af t then v else a.tmps.getD t undef:=by
 cases dst with
 |none=>simp[Nw]
 |some d=>
  by_cases h:d=t
  .subst h;simp[Nw,hd d rfl]
  .simp[Nw,h,pO h]
theorem Qf {a:Act} {dst:Option Tmp} {v:Value}:(a.put dst v).tmps.size=a.tmps.size:=by cases dst<;>simp[Nw]
theorem Ie {a:Act} {dst:Option Tmp} {v:Value}:(a.put dst v).defers=a.defers:=by cases dst<;>rfl
theorem aa7 {P:Program} {ops:Array Oper} {l:List (Oper×Br)} {e0 e':EF} {h0 h':HF} {φ0:PM} {E:Nat->Prop} {w0:World} {a0:Act}
 (hl:l.map (·.1)=ops.toList) (hc:zS P ops l e0 h0 e' h') (ni:NIP ops l) (hfr:∀ (j:Nat) o f,l[j]? =af (o,f)->∀ n∈f.N,φ0 n=ah)
 (hsz:∀ (j:Nat) o,ops[j]? =af o->∀ d,o.dst=af d->d<a0.tmps.size) {listed:Array Bool} (hcl:Fo ops listed) {i:Nat} (hi:i∈Hn .any ops listed) {Q:Exit->Act->World->Prop} {K:Act->World->Prop}
 (hK:∀ a w,StP φ0 E e0 h0 w0 a0 l (λj=>(listed.setIfInBounds i ai).getD j aj) a w->K a w) {a:Act} {w:World} (hst:StP φ0 E e0 h0 w0 a0 l (λj=>listed.getD j aj) a w):
 wpOp P ops Q i K a w:=by
 obtain⟨hun,o,ho,hdeps⟩:=mem_ready.1 hi;obtain⟨hnf,hlt⟩:=sK hun;have hln:∀ (j:Nat) o',ops[j]? =af o'->∃ f,l[j]? =af (o',f):=λj o' h=>by
  have h1:(l.map (·.1))[j]? =af o':=by rw[hl];simpa using h
  rw[bc] at h1;cases hj:l[j]? with
  |none=>rw[hj] at h1;cases h1
  |some p=>rw[hj] at h1;obtain⟨a,b⟩:=p;simp at h1;subst h1;exact⟨b,rfl⟩
 have hnl:∀ (j:Nat) o' f,l[j]? =af (o',f)->ops[j]? =af o':=λj o' f h=>by
  have h1:(l.map (·.1))[j]? =af o':=by rw[bc,h];rfl
  rw[hl] at h1;simpa using h1
 obtain⟨f,hf⟩:=hln i o ho;have hord:∀ (j:Nat) oj fj,j≠i->l[j]? =af (oj,fj)->(listed.getD j aj=decide (j<i))\/
  (o.apart ops oj=ai\/oj.apart ops o=ai)/\(∀ x∈f.wr,x∉fj.rd/\x∉fj.wr)/\(∀ x∈fj.wr,x∉f.rd/\x∉f.wr):=by
  intro j oj fj hji hj;rcases bZ j i with h|h
  .rcases ni.pair j i oj fj o f h hj hf with hb|⟨h1,h2,h3⟩
   .left;rw[XN hcl ho hdeps hb];simp[h]
   .right;exact⟨.inr h1,λx I=>⟨h3 x I,λU=>(h2 x U).2 I⟩,λx I=>h2 x I⟩
  .have h:i<j:=by omega
   rcases ni.pair i j o f oj fj h hf hj with hb|⟨h1,h2,h3⟩
   .left;have:listed.getD j aj=aj:=by
     cases I:listed.getD j aj with
     |false=>rfl
     |true=>have:=hcl.bef hb I;rw[hnf] at this;cases this
    rw[this];simp;omega
   .right;exact⟨.inl h1,λx I=>h2 x I,λx I=>⟨h3 x I,λU=>(h2 x U).2 I⟩⟩
 have J:∀ j,(listed.setIfInBounds i ai).getD j aj=if j=i then ai else listed.getD j aj:=λj=>by
  by_cases h:i=j
  .subst h;simp[hlt]
  .rw[getD_set_ne aj h,ay (λe=>h e.symm)]
 have hlater:∀ (j:Nat) oj fj,i<j->l[j]? =af (oj,fj)->(listed.getD j aj=aj)\/((o.apart ops oj=ai\/oj.apart ops o=ai)/\(∀ x∈f.wr,x∉fj.rd/\x∉fj.wr)):=by
  intro j oj fj hij hj;rcases hord j oj fj (by omega) hj with h|⟨h1,h2,_⟩
  .left;rw[h];simp;omega
  .right;exact⟨h1,h2⟩
 have hdd:∀ {x y:Oper},(x.apart ops y=ai\/y.apart ops x=ai)->∀ d,x.dst=af d->y.dst≠af d:=by
  intro x y h d hd he;rcases h with h|h
  .exact (Oper.apart_spec h).2.1 d hd he
  .exact (Oper.apart_spec h).2.1 d he hd
 have hlook:∀ {x y:Oper},(x.apart ops y=ai\/y.apart ops x=ai)->∀ d,y.dst=af d->d∉x.looksAt ops:=by
  intro x y h d hd;rcases h with h|h
  .exact (Oper.apart_spec h).2.2 d hd
  .exact (Oper.apart_spec h).1 d hd
 have heL:∀ t,t∈o.looksAt ops->KZ (λj=>listed.getD j aj) 0 l e0 t=KZ (λj=>decide (j<0+i)) 0 l e0 t:=λt ht=>by
  refine Ec l 0 e0 e0 rfl λj oj fj hj hd=>?_
  simp only[bN];by_cases hji:j=i
  .subst hji;rw[hnf];simp
  .rcases hord j oj fj hji hj with h|⟨h,_⟩
   .exact h
   .exact cV ht (hlook h t hd)
 have hhL:∀ t,t∈f.rd\/t∈f.wr->Cg (λj=>listed.getD j aj) 0 l h0 t=Cg (λj=>decide (j<0+i)) 0 l h0 t:=λt ht=>by
  refine Eb l 0 h0 h0 rfl λj oj fj hj hd=>?_
  simp only[bN];by_cases hji:j=i
  .subst hji;rw[hnf];simp
  .rcases hord j oj fj hji hj with h|⟨_,_,h⟩
   .exact h
   .rcases ht with ht|ht
    .exact cV ht (h t hd).1
    .exact cV ht (h t hd).2
 have hE':∀ t,KZ (λj=>(listed.setIfInBounds i ai).getD j aj) 0 l e0 t=if o.dst=af t then af f.val else KZ (λj=>listed.getD j aj) 0 l e0 t:=λt=>by
  by_cases hd:o.dst=af t
  .rw[aF hd];refine PU l 0 i e0 o f hf hd (by simp[J]) λj o' f' hij hj M=>?_
   simp only[bN,J,ay (show ¬j=i by omega)];rcases hlater j o' f' hij hj with h|⟨h,_⟩
   .exact h
   .exact cV M (hdd h t hd)
  .rw[ay hd];refine Ec l 0 e0 e0 rfl λj oj fj hj M=>?_
   simp only[bN,J];rw[ay];intro hji;subst hji;rw[hf] at hj;cases hj;exact hd M
 have Y:Cg (λj=>(listed.setIfInBounds i ai).getD j aj) 0 l h0=eS (Cg (λj=>listed.getD j aj) 0 l h0) f.wr f.nw:=by
  funext t;unfold eS;by_cases hd:t∈f.wr
  .rw[aF hd];refine PR l 0 i h0 o f hf hd (by simp[J]) λj o' f' hij hj M=>?_
   simp only[bN,J,ay (show ¬j=i by omega)];rcases hlater j o' f' hij hj with h|⟨_,h⟩
   .exact h
   .exact cV M (h t hd).2
  .rw[ay hd];refine Eb l 0 h0 h0 rfl λj oj fj hj M=>?_
   simp only[bN,J];rw[ay];intro hji;subst hji;rw[hf] at hj;cases hj;exact hd M
 obtain⟨φ,hm,hdom,hrep,henv,hdef,hsize⟩:=hst;have hfrN:∀ n∈f.N,φ n=ah:=λn hn=>by
  cases I:φ n with
  |none=>rfl
  |some k=>
   rcases hdom n k I with h|⟨j,oj,fj,hSj,hj,hnj⟩
   .rw[hfr i o f hf n hn] at h;cases h
   .have hji:j≠i:=by intro h;subst h;exact cV hSj (by simp only[hnf];simp)
    rcases bZ j i with h|h
    .exact cV hn (ni.names j i oj fj o f h hj hf n hnj)
    .exact cV hnj (ni.names i j o f oj fj (by omega) hf hj n hn)
 have hdsz:∀ d,o.dst=af d->d<a.tmps.size:=λd hd=>by rw[hsize];exact hsz i o ho d hd
 have main:∀ (v:Value) (φ':PM) (w':World),iY φ φ' (Cg (λj=>listed.getD j aj) 0 l h0) (eS (Cg (λj=>listed.getD j aj) 0 l h0) f.wr f.nw) w w'->
  (∀ i k,φ' i=af k->φ i=af k\/i∈f.N)->qY φ' E (eS (Cg (λj=>listed.getD j aj) 0 l h0) f.wr f.nw) w'->
  cW φ' (tot E φ' (eS (Cg (λj=>listed.getD j aj) 0 l h0) f.wr f.nw)) w' f.val v->K (a.put o.dst v) w':=by
  intro v φ' w' m1 d1 r1 v1;refine hK _ _ ⟨φ',?_,?_,?_,?_,?_,?_⟩
  .rw[Y];exact hm.trans m1
  .intro i' k h;rcases d1 i' k h with h|h
   .rcases hdom i' k h with h|⟨j,oj,fj,hSj,hj,hnj⟩
    .exact .inl h
    .refine .inr ⟨j,oj,fj,?_,hj,hnj⟩;show (listed.setIfInBounds i ai).getD j aj=ai;rw[J j];split
     .rfl
     .exact hSj
   .exact .inr ⟨i,o,f,(J i).trans (by simp),hf,h⟩
  .rw[Y];exact r1
  .rw[Y];intro t x I;rw[hE' t] at I;rw[Ic hdsz];by_cases hd:o.dst=af t
   .rw[aF hd] at I ⊢;cases I;exact v1
   .rw[ay hd] at I ⊢;exact m1.keep (henv t x I)
  .rw[Ie];exact hdef
  .rw[Qf];exact hsize
 have hstep:=hc.step 0 i o f hf;have hrun:gL P o (KZ (λj=>decide (j<0+i)) 0 l e0) (Cg (λj=>decide (j<0+i)) 0 l h0) f->o.wp P a w K Q:=by
  intro ht;refine PI ?_ (ht φ E (Cg (λj=>listed.getD j aj) 0 l h0) w a (λt h=>hhL t (.inl h)) (λt h=>hhL t (.inr h)) ?_ hrep hfrN)
  .rintro a' w' ⟨v,φ',rfl,m1,d1,r1,v1⟩;exact main v φ' w' m1 d1 r1 v1
  .intro t ht' y hy;refine henv t y ?_;rw[heL t (k9 _ (List.mem_filterMap.2 ⟨.tmp t,by simpa using ht',rfl⟩))];exact hy
 have hyield:∀ (j t:Nat) (want b:Bool),o.guard=af (j,want)->(ops[j]?).bind (·.dst)=af t->KZ (λj=>decide (j<0+i)) 0 l e0 t=af (.f (.raw (.bool b)))->iG o (yielded ops a.tmps)=(b==want):=by
  intro j t want b hg hj he;rw[<- heL t (nz _ (by rw[hg];simp[hj]))] at he;have h1:=henv t _ he;have h2:a.tmps.getD t undef= .bool b:=by
   generalize Z:a.tmps.getD t undef=z at h1;cases h1 with
   |f h=>cases h;rfl
  have h3:a.tmps[t]? =af (.bool b):=by
   rw[gF] at h2;cases Z:a.tmps[t]? with
   |none=>rw[Z] at h2;simp[undef] at h2
   |some z=>rw[Z] at h2;simp at h2;rw[h2]
  unfold iG yielded;rw[hg];simp[hj,h3]
 unfold wpOp;simp only[ho];cases hstep with
 |run hg ht=>
  rw[aF (by unfold iG;rw[hg])];exact .inl (hrun ht)
 |runG j t want hg hj he ht=>
  rw[aF (by rw[hyield j t want want hg hj he];simp)];exact .inl (hrun ht)
 |skip j t want hg hj v he hv hf'=>
  have hnw:iG o (yielded ops a.tmps)=aj:=by
   rw[<- heL t (nz _ (by rw[hg];simp[hj]))] at he;have h1:=henv t _ he;have h2:a.tmps.getD t undef=v:=by
    generalize a.tmps.getD t undef=z at h1;cases h1 with
    |f h=>cases h;rfl
   unfold iG yielded;rw[hg];simp only[hj,aI];rw[gF] at h2;cases Z:a.tmps[t]? with
   |none=>simp
   |some z=>
    rw[Z] at h2;simp at h2;subst h2;cases z<;>simp at hv ⊢;exact hv
  rw[ay (by rw[hnw];simp)];subst hf';have hu:eS (Cg (λj=>listed.getD j aj) 0 l h0) rN.wr rN.nw=Cg (λj=>listed.getD j aj) 0 l h0:=by
   funext t;simp[eS,rN]
  refine main undef φ w ?_ (λ_ _ h=>.inl h) ?_ ?_
  .rw[hu];exact iY.refl _ _ _
  .rw[hu];exact hrep
  .exact .f (.raw _)
theorem YK {l:List Bool}:∀ {i:Nat},l[i]? =af aj->(l.set i ai).countP id=l.countP id+1:=by
 induction l with
 |nil=>intro i h;simp at h
 |cons b l I=>
  intro i h;cases i with
  |zero=>simp at h;subst h;simp
  |succ i=>
   simp only[List.set_cons_succ,List.countP_cons];rw[I (by simpa using h)];omega
theorem Pk {l:List Bool} (h:l.length<=l.countP id):∀ (j:Nat),j<l.length->l[j]? =af ai:=by
 have h1:l.countP id=l.length:=Nat.le_antisymm List.countP_le_length h;rw[List.countP_eq_length] at h1;intro j hj;rw[aB hj];simpa using h1 _ (u_ hj)
theorem VQ {ops:Array Oper} {l:List (Oper×Br)} (J:NIP ops l) {listed:Array Bool} (hs:listed.size=ops.size) (hr:Hn .any ops listed=[]):
 ∀ (n j:Nat),j<n->j<ops.size->listed.getD j aj=ai:=by
 intro n;induction n with
 |zero=>intro j h;omega
 |succ n M=>
  intro j hj hjs;cases I:listed.getD j aj with
  |true=>rfl
  |false=>
   exfalso;have hmem:j∈Hn .any ops listed:=by
    refine mem_ready.2 ⟨?_,ops[j],ib hjs,λe he hb=>?_⟩
    .have:j<listed.size:=by omega
     simp[this] at I ⊢;exact I
    .have h1:=J.edge j _ (ib hjs) e he hb;exact M e.on (by omega) (by omega)
   rw[hr] at hmem;cases hmem
theorem Nj {P:Program} {ops:Array Oper} {l:List (Oper×Br)} {e0 e':EF} {h0 h':HF} {φ0:PM} {E:Nat->Prop} {w0:World} {a0:Act}
 (hl:l.map (·.1)=ops.toList) (hc:zS P ops l e0 h0 e' h') (J:NIP ops l) (hfr:∀ (j:Nat) o f,l[j]? =af (o,f)->∀ n∈f.N,φ0 n=ah)
 (hsz:∀ (j:Nat) o,ops[j]? =af o->∀ d,o.dst=af d->d<a0.tmps.size) {Q:Exit->Act->World->Prop}
 (U:∀ a w,StP φ0 E e0 h0 w0 a0 l (λ_=>ai) a w->Q .normal a w):
 ∀ (fuel:Nat) (listed:Array Bool) (a:Act) (w:World),listed.size=ops.size->Fo ops listed->ops.size<=fuel+listed.toList.countP id->
  StP φ0 E e0 h0 w0 a0 l (λj=>listed.getD j aj) a w->wpAny P .any ops Q fuel listed a w:=by
 have hlen:l.length=ops.size:=by have:=gI al hl;simpa using this
 have fin:∀ (listed:Array Bool) (a:Act) (w:World),(∀ j,j<ops.size->listed.getD j aj=ai)->StP φ0 E e0 h0 w0 a0 l (λj=>listed.getD j aj) a w->Q .normal a w:=by
  intro listed a w hall hst;refine U a w ?_;have h1:=hc.final 0 (λj=>listed.getD j aj) (λj hj=>by simp only[bN];exact hall j (by omega));have h2:=hc.final 0 (λ_=>ai) (λ_ _=>rfl);unfold StP at hst ⊢;rw[h1.1,h1.2] at hst;rw[h2.1,h2.2];obtain⟨φ,m,d,r⟩:=hst;refine ⟨φ,m,λi k h=>?_,r⟩;rcases d i k h with h|⟨j,o,f,_,hj,hn⟩
  .exact .inl h
  .exact .inr ⟨j,o,f,rfl,hj,hn⟩
 intro fuel;induction fuel with
 |zero=>
  intro listed a w hs hcl hcnt hst;have hall:∀ j,j<ops.size->listed.getD j aj=ai:=λj hj=>by
   have:=Pk (l:=listed.toList) (by simp only[ir];omega) j (by simp only[ir];omega);rw[cK] at this;rw[gF,this];rfl
  refine ⟨?_,fin listed a w hall hst⟩;cases hr:Hn .any ops listed with
  |nil=>rfl
  |cons i r=>
   have hi:i∈Hn .any ops listed:=by rw[hr];simp
   obtain⟨hun,o,I,_⟩:=mem_ready.1 hi;have hnf:=(sK hun).1;rw[hall i (cF.1 I).1] at hnf;cases hnf
 |succ fuel M=>
  intro listed a w hs hcl hcnt hst;refine ⟨λhr=>fin listed a w (λj hj=>VQ J hs hr (j+1) j (by omega) hj) hst,λi hi=>?_⟩;obtain⟨hun,o,I,hdeps⟩:=mem_ready.1 hi;obtain⟨hnf,hlt⟩:=sK hun;refine aa7 hl hc J hfr hsz hcl hi (λa' w' h=>M _ a' w' ?_ ?_ ?_ h) hst
  .simpa using hs
  .intro j oj hoj hj e he hb;by_cases hji:i=j
   .subst hji;rw[I] at hoj;cases hoj;exact getD_set_true (hdeps e he hb)
   .rw[getD_set_ne aj hji] at hj;exact getD_set_true (hcl j oj hoj hj e he hb)
  .have h1:listed.toList[i]? =af aj:=by
    rw[cK,ib hlt];simp[hlt] at hnf;rw[hnf]
   rw[Array.toList_setIfInBounds,YK h1];omega
def aoe (φ0:PM) (E:Nat->Prop) (e':EF) (h0 h':HF) (N:List Nat) (w0:World) (a0:Act) (a:Act) (w:World):Prop:=
 ∃ φ,iY φ0 φ h0 h' w0 w/\(∀ i k,φ i=af k->φ0 i=af k\/i∈N)/\qY φ E h' w/\Np φ (tot E φ h') w e' a/\a.defers=a0.defers/\a.tmps.size=a0.tmps.size
theorem iY.drew {φ:PM} {h:HF} (w:World):iY φ φ h h w {w with drawn:=w.drawn+1}:=
 ⟨λ_ _ h=>h,⟨rfl,rfl,rfl,bW _,λ_ _ _=>rfl,λ_ _=>rfl⟩,λ_ _ h=>h⟩
theorem qY.moved {φ:PM} {E:Nat->Prop} {h:HF} {w w':World} (r:qY φ E h w) (m:iY φ φ h h w w') (hk:∀ k,own φ h k->w'.heap[k]? =w.heap[k]?):qY φ E h w':=
 ⟨r.inj,λi b hb=>by
   obtain⟨k,h1,h2,o,J,I⟩:=r.at_ i b hb;exact⟨k,h1,h2,o,by rw[hk k ⟨i,b,hb,h1⟩];exact J,I.mono λ_ _ h=>m.keep h⟩,λk hk=>dz (r.el k hk) m.ext.size,
   λg cells hg=>m.keepF (r.gl g cells hg)⟩
theorem Qc {P:Program} {ops:Array Oper} {l:List (Oper×Br)} {e0 e':EF} {h0 h':HF} {φ0:PM} {E:Nat->Prop} {w0:World} {a0:Act} {id:Nat} {draw:Bool}
 (hm:P.follows .mixedOrders=ai) (hl:l.map (·.1)=ops.toList) (hc:zS P ops l e0 h0 e' h') (I:NIP ops l) (hfr:∀ n∈l.flatMap (λp=>p.2.N),φ0 n=ah)
 (hsz:∀ (j:Nat) o,ops[j]? =af o->∀ d,o.dst=af d->d<a0.tmps.size) (hrep:qY φ0 E h0 w0) (henv:Np φ0 (tot E φ0 h0) w0 e0 a0) {Q:Exit->Act->World->Prop}
 (Y:∀ a w,aoe φ0 E e' h0 h' (l.flatMap (λp=>p.2.N)) w0 a0 a w->Q .normal a w):(Code.region id ops draw).wp P Q a0 w0:=by
 have hfr':∀ (j:Nat) o f,l[j]? =af (o,f)->∀ n∈f.N,φ0 n=ah:=λj o f hj n hn=>hfr n (uY.2 ⟨(o,f),ba hj,hn⟩)
 have fin:∀ a w,StP φ0 E e0 h0 w0 a0 l (λ_=>ai) a w->Q .normal a w:=by
  rintro a w ⟨φ,m,d,r,en,Z,sz⟩;have h2:=hc.final 0 (λ_=>ai) (λ_ _=>rfl);rw[h2.2] at m r en;rw[h2.1] at en;refine Y a w ⟨φ,m,λi k h=>?_,r,en,Z,sz⟩;rcases d i k h with h|⟨j,o,f,_,hj,hn⟩
  .exact .inl h
  .exact .inr (uY.2 ⟨(o,f),ba hj,hn⟩)
 have st0:∀ (w:World),iY φ0 φ0 h0 h0 w0 w->qY φ0 E h0 w->StP φ0 E e0 h0 w0 a0 l (λj=>(oo ops.size aj).getD j aj) a0 w:=by
  intro w m r;have e1:(λj=>(oo ops.size aj).getD j aj)=λ_=>aj:=by
   funext j;rw[gF,Array.getElem?_replicate];split<;>rfl
  rw[e1];have e2:KZ (λ_=>aj) 0 l e0=e0:=by funext t;rw[Cr];intros;rfl
  have e3:Cg (λ_=>aj) 0 l h0=h0:=by funext t;rw[Cq];intros;rfl
  refine ⟨φ0,by rw[e3];exact m,λ_ _ h=>.inl h,by rw[e3];exact r,?_,rfl,rfl⟩;rw[e2,e3];exact λt x U=>m.keep (henv t x U)
 have cl0:Fo ops (oo ops.size aj):=by
  intro j o ho hj;rw[gF,Array.getElem?_replicate] at hj;split at hj<;>simp at hj
 cases draw with
 |true=>
  refine wp_region_any hm ?_;exact Nj hl hc I hfr' hsz fin ops.size _ a0 _ (by simp) cl0 (by omega) (st0 _ (iY.drew w0) (hrep.moved (iY.drew w0) λ_ _=>rfl))
 |false=>
  have hany:=Nj (E:=E) (w0:=w0) hl hc I hfr' hsz fin ops.size _ a0 w0 (by simp) cl0 (by omega) (st0 _ (iY.refl _ _ _) hrep);refine wp_region ?_;have key:∀ (m k:Nat) (listed:Array Bool) (a:Act) (w:World),k+m=ops.size->listed.size=ops.size->(∀ j,j<k->listed.getD j aj=ai)->(∀ j,k<=j->j<ops.size->listed.getD j ai=aj)->
   wpAny P .any ops Q m listed a w->wpOps P ops Q (List.range' k m) a w:=by
   intro m;induction m with
   |zero=>intro k listed a w hk hs h1 h2 h;simpa[wpOps] using h.2
   |succ m M=>
    intro k listed a w hk hs h1 h2 h;rw[List.range'_succ,wpOps_cons];have hkr:k∈Hn .any ops listed:=by
     refine mem_ready.2 ⟨h2 k (bW _) (by omega),ops[k]'(by omega),ib (by omega),λe he hb=>?_⟩;exact h1 _ (I.edge k _ (ib (by omega)) e he hb)
    refine wpOp_mono (λa' w' h'=>M (k+1) (listed.setIfInBounds k ai) a' w' (by omega) (by simpa using hs) ?_ ?_ h') (h.2 k hkr)
    .intro j hj;by_cases hjk:k=j
     .subst hjk;simp[show k<listed.size by omega]
     .rw[getD_set_ne aj hjk];exact h1 j (by omega)
    .intro j hj J;rw[getD_set_ne ai (by omega)];exact h2 j (by omega) J
  have:=key ops.size 0 (oo ops.size aj) a0 w0 (by omega) (by simp) (by intro j hj;omega) (by
   intro j _ hj;rw[gF,Array.getElem?_replicate,aF hj];rfl) hany
  rwa [List.range_eq_range']
inductive PT (α:Type) where
 |leaf
 |node (v:Option α) (l r:PT α)
namespace PT
variable {α:Type}
def get:PT α->Nat->Option α
 |leaf,_=>ah
 |node v l r,n=>match n with
  |0=>v
  |m+1=>if aC (m%2) 0 then get l (m/2) else get r (m/2)
def NH:Nat->PT α->Nat->Option α->PT α
 |0,t,_,_=>t
 |k+1,t,n,x=>match t with
  |leaf=>(match n with
   |0=>node x leaf leaf
   |m+1=>if aC (m%2) 0 then node ah (NH k leaf (m/2) x) leaf else node ah leaf (NH k leaf (m/2) x))
  |node v l r=>(match n with
   |0=>node x l r
   |m+1=>if aC (m%2) 0 then node v (NH k l (m/2) x) r else node v l (NH k r (m/2) x))
def set (t:PT α) (n:Nat) (x:Option α):PT α:=NH (n+1) t n x
theorem zf:∀ (k:Nat) (t:PT α) (n:Nat) (x:Option α),n<k->∀ i,(NH k t n x).get i=if i=n then x else t.get i
 |0,_,_,_,h,_=>cV h (xa _)
 |k+1,t,n,x,h,i=>by
  cases n with
  |zero=>
   cases t<;>cases i<;>simp[NH,get]
  |succ m=>
   have hm:m/2<k:=by have:=Nat.div_le_self m 2;omega
   cases t with
   |leaf=>
    simp only[NH];cases hb:aC (m%2) 0 with
    |true=>
     have J:m%2=0:=aw hb;simp only[bG];cases i with
     |zero=>simp[get]
     |succ j=>
      simp only[get];cases hj:aC (j%2) 0 with
      |true=>
       have I:j%2=0:=aw hj;simp only[bG];rw[zf k _ _ _ hm];by_cases he:j/2=m/2
       .rw[aF he,aF (by omega)]
       .rw[ay he,ay (by omega)];rfl
      |false=>
       have I:¬j%2=0:=hZ hj;simp only[cD,eA];rw[ay (by omega)]
    |false=>
     have J:¬m%2=0:=hZ hb;simp only[cD,eA];cases i with
     |zero=>simp[get]
     |succ j=>
      simp only[get];cases hj:aC (j%2) 0 with
      |true=>
       have I:j%2=0:=aw hj;simp only[bG];rw[ay (by omega)]
      |false=>
       have I:¬j%2=0:=hZ hj;simp only[cD,eA];rw[zf k _ _ _ hm];by_cases he:j/2=m/2
       .rw[aF he,aF (by omega)]
       .rw[ay he,ay (by omega)];rfl
   |node v l r=>
    simp only[NH];cases hb:aC (m%2) 0 with
    |true=>
     have J:m%2=0:=aw hb;simp only[bG];cases i with
     |zero=>simp[get]
     |succ j=>
      simp only[get];cases hj:aC (j%2) 0 with
      |true=>
       have I:j%2=0:=aw hj;simp only[bG];rw[zf k _ _ _ hm];by_cases he:j/2=m/2
       .rw[aF he,aF (by omega)]
       .rw[ay he,ay (by omega)]
      |false=>
       have I:¬j%2=0:=hZ hj;simp only[cD,eA];rw[ay (by omega)]
    |false=>
     have J:¬m%2=0:=hZ hb;simp only[cD,eA];cases i with
     |zero=>simp[get]
     |succ j=>
      simp only[get];cases hj:aC (j%2) 0 with
      |true=>
       have I:j%2=0:=aw hj;simp only[bG];rw[ay (by omega)]
      |false=>
       have I:¬j%2=0:=hZ hj;simp only[cD,eA];rw[zf k _ _ _ hm];by_cases he:j/2=m/2
       .rw[aF he,aF (by omega)]
       .rw[ay he,ay (by omega)]
theorem get_set (t:PT α) (n:Nat) (x:Option α) (i:Nat):(t.set n x).get i=if i=n then x else t.get i:=zf (n+1) t n x (by omega) i
def mask {β:Type}:PT α->PT β->PT α
 |leaf,_=>leaf
 |node _ _ _,leaf=>leaf
 |node v l r,node u J I=>node (match u with|some _=>v|none=>ah) (mask l J) (mask r I)
def mk:Option α->PT α->PT α->PT α
 |none,leaf,leaf=>leaf
 |v,l,r=>node v l r
def only (m:Nat):Nat->Nat->PT α->PT α
 |_,_,leaf=>leaf
 |a,b,node v l r=>mk (if aN m b then v else ah) (only m (2*a) (a+b) l) (only m (2*a) (2*a+b) r)
def exc (m:Nat):Nat->Nat->PT α->PT α
 |_,_,leaf=>leaf
 |a,b,node v l r=>mk (if aN m b then ah else v) (exc m (2*a) (a+b) l) (exc m (2*a) (2*a+b) r)
def merge (m:Nat):Nat->Nat->PT α->PT α->PT α
 |a,b,leaf,t=>only m a b t
 |a,b,node v l r,leaf=>exc m a b (node v l r)
 |a,b,node v l r,node I M J=>mk (if aN m b then I else v) (merge m (2*a) (a+b) l M) (merge m (2*a) (2*a+b) r J)
def all (p:Nat->α->Bool):Nat->Nat->PT α->Bool
 |_,_,leaf=>ai
 |a,b,node v l r=>(match v with|some x=>p b x|none=>ai)&&all p (2*a) (a+b) l&&all p (2*a) (2*a+b) r
theorem get_all (p:Nat->α->Bool):∀ (t:PT α) (a b i:Nat) (x:α),all p a b t=ai->t.get i=af x->p (a*i+b) x=ai
 |leaf,_,_,_,_,_,h=>by simp[get] at h
 |node v l r,a,b,0,x,h,I=>by
  simp only[get] at I;subst I;simp only[all,av] at h;rw[Nat.mul_zero,bN];exact h.1.1
 |node v l r,a,b,j+1,x,h,I=>by
  simp only[all,av] at h;simp only[get] at I;cases hj:aC (j%2) 0 with
  |true=>
   have J:j%2=0:=aw hj;simp only[hj,bG] at I;have key:=get_all p l _ _ _ x h.1.2 I;have:2*a*(j/2)+(a+b)=a*(j+1)+b:=by
    have e:j=2*(j/2):=by omega
    calc 2*a*(j/2)+(a+b)=a*(2*(j/2))+a+b:=by rw[Hq 2 a,Nat.mul_assoc];omega
     _=a*(j+1)+b:=by rw[<- e,Nat.mul_add];omega
   rw[this] at key;exact key
  |false=>
   have J:¬j%2=0:=hZ hj;simp only[hj,cD,eA] at I;have key:=get_all p r _ _ _ x h.2 I;have:2*a*(j/2)+(2*a+b)=a*(j+1)+b:=by
    have e:j=2*(j/2)+1:=by omega
    have h2:a*(j+1)=a*(2*(j/2))+2*a:=by
     calc a*(j+1)=a*(2*(j/2)+2):=by rw[show j+1=2*(j/2)+2 from by omega]
      _=a*(2*(j/2))+2*a:=by rw[Nat.mul_add];omega
    have M:2*a*(j/2)=a*(2*(j/2)):=by rw[Hq 2 a,Nat.mul_assoc]
    omega
   rw[this] at key;exact key
def dom:Nat->Nat->PT α->Nat->Nat
 |_,_,leaf,acc=>acc
 |a,b,node v l r,acc=>dom (2*a) (a+b) l (dom (2*a) (2*a+b) r (match v with|some _=>acc|||(1<<<b)|none=>acc))
def emp:PT α:=leaf
end PT
abbrev zR:=PT AV
abbrev nV:=PT w_
abbrev NW:=List (Nat×w_)
def zR.put (e:zR):Option Nat->AV->zR
 |none,_=>e
 |some d,x=>e.set d (af x)
def je:NW->HF
 |[],_=>ah
 |(s,x)::r,t=>if aC s t then af x else je r t
theorem Z' (e:zR) (d:Option Nat) (x:AV):CD e.get d x=(e.put d x).get:=by
 funext t;cases d with
 |none=>simp[CD,zR.put]
 |some d=>
  simp only[CD,zR.put,PT.get_set,ak];by_cases h:d=t
  .simp[h]
  .rw[ay h,ay (λe=>h e.symm)]
def HO (acc:List Nat) (s:Nat) (e:Edge):Nat:=if zU .any e then (s|||2^e.on)|||acc.getD e.on 0 else s
def Kq:List Oper->List Nat->List Nat
 |[],acc=>acc
 |o::r,acc=>Kq r (acc++[o.after.toList.foldl (HO acc) 0])
theorem Kr {ops:Array Oper} {o:Oper} {k:Nat} {acc:List Nat} (J:ops[k]? =af o) (M:∀ (j:Nat) B,acc[j]? =af B->∀ i,B.testBit i=ai->Bef ops j i):
 ∀ (es:List Edge) (s:Nat),(∀ e∈es,e∈o.after)->(∀ i,s.testBit i=ai->Bef ops k i)->∀ i,(es.foldl (HO acc) s).testBit i=ai->Bef ops k i
 |[],s,_,hs,i,hi=>hs i hi
 |e::r,s,he,hs,i,hi=>by
  refine Kr J M r (HO acc s e) (λe' h'=>he e' (cH _ h')) (λi hi=>?_) i hi;unfold HO at hi;split at hi
  .rename_i hb;rw[bp,bp,iQ,iQ] at hi;rcases hi with (hi|hi)|hi
   .exact hs i hi
   .rw[Nat.testBit_two_pow] at hi;have:e.on=i:=by simpa using hi
    subst this;exact .one J (he e (dh ..)) hb
   .refine .more J (he e (dh ..)) hb ?_;rw[aA] at hi;cases I:acc[e.on]? with
    |none=>rw[I] at hi;simp at hi
    |some C=>rw[I] at hi;exact M _ C I i hi
  .exact hs i hi
theorem Ni {ops:Array Oper}:∀ (rest:List Oper) (acc:List Nat),(∀ (j:Nat),∀ o,rest[j]? =af o->ops[acc.length+j]? =af o)->
 (∀ (j:Nat) B,acc[j]? =af B->∀ i,B.testBit i=ai->Bef ops j i)->∀ (j:Nat) B,(Kq rest acc)[j]? =af B->∀ i,B.testBit i=ai->Bef ops j i
 |[],acc,_,I=>I
 |o::r,acc,J,I=>by
  refine Ni r _ (λj o' hj=>?_) ?_
  .rw[bu,dR,show acc.length+1+j=acc.length+(j+1) from by omega];exact J (j+1) o' (by simpa using hj)
  .intro j B hj i hi;rcases bZ j acc.length with h|h
   .rw[bO h] at hj;exact I j B hj i hi
   .rw[b7 h] at hj;have M:j-acc.length=0:=by
     rcases KV (j-acc.length) with h0|h0
     .exact h0
     .rw[bR (by simp;omega)] at hj;cases hj
    have hjl:j=acc.length:=by omega
    subst hjl;simp at hj;subst hj;have hoo:ops[acc.length]? =af o:=by simpa using J 0 o rfl
    rw[<- Array.foldl_toList] at hi;exact Kr hoo I _ 0 (λe he=>by simpa using he) (λi hi=>by simp at hi) i hi
inductive Zd where
 |mv (x:Operand)
 |pick (c a b:Operand)
 |alloc (ty:TypeId) (z:List Value)
 |box (ty:TypeId) (x:Operand)
 |build (z:List Value) (parts:List (Nat×Nat×Operand))
 |bsl (ty:TypeId) (sz len:Nat) (z:List Value) (parts:List (Nat×Nat×Operand))
 |load (sz:Nat) (ag:Bool) (x:Operand)
 |store (sz:Nat) (x v:Operand)
 |nilc (x:Operand)
 |bin (op:BinOp) (x y:Operand)
 |eqs (neg:Bool) (ds:List TypeDesc) (x y:Operand)
 |isnil (neg:Bool) (x:Operand)
 |eqb (neg:Bool) (x y:Operand)
 |not (x:Operand)
 |conv (k:IntKind) (x:Operand)
 |mksl (ty:TypeId) (sz bytes:Nat) (z:List Value) (l c:Operand)
 |slc (sz:Nat) (x:Operand) (lo hi mx:Option Operand)
 |fad (off:Nat) (x:Operand)
 |fld (off sz:Nat) (ag:Bool) (x:Operand)
 |iad (sz:Nat) (x i:Operand)
 |iada (n sz:Nat) (x i:Operand)
 |idx (n sz:Nat) (ag:Bool) (x i:Operand)
 |ext (x:Operand) (i:Nat)
 |len (x:Operand)
 |lens (x:Operand)
 |lenm (x:Operand)
 |max (x y:Operand)
 |min (x y:Operand)
 |sidx (x i:Operand)
 |app (ty:TypeId) (sz bytes:Nat) (s x:Operand)
 |copy (sz:Nat) (d x:Operand)
 |clr (sz:Nat) (z:List Value) (x:Operand)
 |mkf (f:FuncId) (caps:List Operand)
 |mkm
 |lku (str:Bool) (z:Value) (x k:Operand)
 |mup (str:Bool) (x k v:Operand)
 |rng (x:Operand)
 |nxt (x:Operand)
 |bad
inductive SI where
 |op (s:Zd)
 |call (f:FuncId) (args:List Operand)
 |callv (x:Operand) (args:List Operand)
def XW (t:Nat):List Nat->Bool
 |[]=>aj
 |x::r=>aC x t||XW t r
def Km:List Value->Bool
 |[]=>ai
 |v::r=>v.oneCell'&&Km r
def Fa:Value->AV
 |.agg vs=>if Km vs.toList then .agg (vs.toList.map λv=>.f (.raw v)) else .f (.raw (.agg vs))
 |v=>.f (.raw v)
def mC (e:zR):Operand->Option AV
 |.tmp t=>e.get t
 |.const v=>af (Fa v)
 |.func g=>af (.clo g [])
 |.global g=>match G g with|some cells=>af (.f (.ptr cells 0))|none=>ah
def W7 (e:zR):List Operand->Option (List AV)
 |[]=>af []
 |x::xs=>match mC e x with|some y=>(match W7 e xs with|some I=>af (y::I)|none=>ah)|none=>ah
structure Cb where
 val:AV
 rd:List Nat
 wr:List Nat
 nw:NW
 N:List Nat
def Cb.eff (r:Cb):Br:=⟨r.val,r.rd,r.wr,je r.nw,r.N⟩
def rv (x:AV):Option Cb:=af ⟨x,[],[],[],[]⟩
def raw (v:Value):AV:=.f (.raw v)
def xS:List AV->Option (List FV)
 |[]=>af []
 |.f x::r=>match xS r with|some l=>af (x::l)|none=>ah
 |_::_=>ah
def pl (l:List AV):BC:=match xS l with|some fs=>.fz fs|none=>.mx l
def Mx (l:List AV):AV:=match xS l with|some fs=>.f (.agg fs)|none=>.agg l
def splice {α:Type} (l:List α) (off:Nat) (vs:List α):List α:=l.take off++vs++l.drop (off+vs.length)
def BC.toMx:BC->List AV
 |.fz l=>l.map .f
 |.mx l=>l
 |_=>[]
def gG:List AV->Bool
 |[]=>ai
 |x::r=>x.isCell&&gG r
def BC.put (c:BC) (off:Nat) (vs:List AV):Option BC:=
 if c.isCells&&eJ (off+vs.length) c.len&&gG vs then
  match c,xS vs with
  |.fz l,af I=>af (.fz (splice l off I))
  |c,_=>af (.mx (splice c.toMx off vs))
 else ah
def BC.sub? (c:BC) (off sz:Nat):Bool->Option AV
 |false=>match sz with|1=>c.get off|_=>ah
 |true=>match c with
  |.fz l=>if eJ (off+sz) l.length then af (.f (.agg ((l.drop off).take sz))) else ah
  |.mx l=>if eJ (off+sz) l.length then af (.agg ((l.drop off).take sz)) else ah
  |_=>ah
def AV.cs:AV->List AV
 |.agg l=>l
 |.f (.agg l)=>l.map .f
 |x=>[x]
def DR (h:nV) (sz:Nat) (ag:Bool):AV->Option Cb
 |.ptr id off=>match h.get id with
  |some b=>(match b.c.sub? off sz ag with|some v=>af ⟨v,[id],[],[],[]⟩|none=>ah)
  |none=>ah
 |.f (.ptr cells off)=>(match (BC.fz cells).sub? off sz ag with|some v=>rv v|none=>ah)
 |_=>ah
def Pe (h:nV) (sz:Nat) (v:AV):AV->Option Cb
 |.ptr id off=>match h.get id with
  |some b=>if v.cs.length==sz then (match b.c.put off v.cs with|some c=>af ⟨raw undef,[id],[id],[(id,⟨b.ty,c⟩)],[]⟩|none=>ah) else ah
  |none=>ah
 |_=>ah
def zm (cells:List AV) (e:zR):List (Nat×Nat×Operand)->Option (List AV)
 |[]=>af cells
 |(off,sz,x)::r=>match mC e x with
  |some v=>if v.cs.length==sz&&eJ (off+sz) cells.length&&gG v.cs then zm (splice cells off v.cs) e r else ah
  |none=>ah
def c7 (a b:Int):Bool:=decide (a<=b)
def fO (a b:Int):Bool:=decide (a<b)
def Mg (k:IntKind) (n:Int):Int:=
 match k with
 |.i64=>if c7 (-9223372036854775808) n&&c7 n 9223372036854775807 then n else oO .i64 n
 |.u8=>if c7 0 n&&c7 n 255 then n else oO .u8 n
 |k=>oO k n
def nok:Int->Bool
 |.ofNat k=>aC k k
 |.negSucc k=>aC k k
theorem aln (n:Int):nok n=ai:=by cases n<;>exact uX _
def bk (k:IntKind) (n:Int):Int:=bif nok n then Mg k n else 0
theorem Hr (k:IntKind) (n:Int):bk k n=Mg k n:=by unfold bk;rw[aln];rfl
def rW (a b:ByteArray):Bool:=a.data.toList==b.data.toList
def uT (op:BinOp):Value->Value->Option Value
 |.int k a,.int k' b=>if k==k' then
   match op with
   |.add=>af (.int k (bk k (a+b)))
   |.sub=>af (.int k (bk k (a-b)))
   |.mul=>af (.int k (bk k (a*b)))
   |.rem=>if b==0 then ah else af (.int k (a.tmod b))
   |.quo=>if b==0 then ah else af (.int k (bk k (a.tdiv b)))
   |.eql=>af (.bool (a==b))
   |.neq=>af (.bool (a !=b))
   |.lss=>af (.bool (fO a b))
   |.leq=>af (.bool (c7 a b))
   |.gtr=>af (.bool (fO b a))
   |.geq=>af (.bool (c7 b a))
   |_=>ah
  else ah
 |.string a,.string b=>match op with
   |.eql=>af (.bool (rW a b))
   |.neq=>af (.bool !(rW a b))
   |_=>ah
 |_,_=>ah
def xI:TypeDesc->FV->FV->Option Bool
 |.int _,.raw (.int k a),.raw (.int k' b)=>if k==k' then af (a==b) else ah
 |.bool,.raw (.bool a),.raw (.bool b)=>af (a==b)
 |.string,.raw (.string a),.raw (.string b)=>af (rW a b)
 |_,_,_=>ah
def oX:List TypeDesc->List FV->List FV->Option Bool
 |[],[],[]=>af ai
 |d::ds,x::xs,y::I=>match xI d x y with
  |some ai=>oX ds xs I
  |some aj=>af aj
  |none=>ah
 |_,_,_=>ah
def AV.row? (h:nV) (sz:Nat):AV->Option (List AV×Nat×List Nat)
 |.f (.sl cells n)=>if eJ (n*sz) cells.length then af ((cells.take (n*sz)).map .f,n,[]) else ah
 |.f (.raw (.slice ah 0 0))=>af ([],0,[])
 |.emp=>af ([],0,[])
 |.row id sz' n=>if sz'==sz then (match h.get id with|some b=>if b.c.isCells&&eJ (n*sz) b.c.len then af (b.c.toMx.take (n*sz),n,[id]) else ah|none=>ah) else ah
 |.sl id off n=>match h.get id with|some b=>if b.c.isCells&&eJ (off+n*sz) b.c.len then af ((b.c.toMx.drop off).take (n*sz),n,[id]) else ah|none=>ah
 |_=>ah
def AV.slen:AV->Option Nat
 |.f (.sl _ n)=>af n
 |.f (.raw (.slice _ n _))=>af n
 |.emp=>af 0
 |.row _ _ n=>af n
 |.sl _ _ n=>af n
 |_=>ah
def a_ (n bytes:Nat):Bool:=eJ n 1099511627776&&eJ (n*bytes) 1099511627776
def repl (z:List Value):Nat->List FV
 |0=>[]
 |n+1=>z.map .raw++repl z n
def Ae:Value->Bool
 |.slice ah 0 0=>ai
 |_=>aj
def IH:AV->Bool
 |.emp=>ai
 |.f (.raw v)=>Ae v
 |_=>aj
def tw (k:Value):List (Value×AV)->Option (Option AV)
 |[]=>af ah
 |(k',v)::r=>match uT .eql k k' with
  |some (.bool ai)=>af (af v)
  |some (.bool aj)=>tw k r
  |_=>ah
def yV (k:Value) (v:AV):List (Value×AV)->Option (List (Value×AV))
 |[]=>af [(k,v)]
 |(k',I)::r=>match uT .eql k k' with
  |some (.bool ai)=>af ((k,v)::r)
  |some (.bool aj)=>(match yV k v r with|some J=>af ((k',I)::J)|none=>ah)
  |_=>ah
def yX:Bool->Value->Bool
 |false,.int _ _=>ai
 |true,.string _=>ai
 |_,_=>aj
def eQ (s:Zd) (e:zR) (h:nV) (nx:Nat):Option Cb:=
 match s with
 |.mv x=>match mC e x with|some v=>rv v|none=>ah
 |.pick c a b=>match mC e c with
  |some (.f (.raw (.bool t)))=>(match mC e (if t then a else b) with|some v=>rv v|none=>ah)
  |_=>ah
 |.alloc ty z=>af ⟨.ptr nx 0,[],[nx],[(nx,⟨ty,.fz (z.map .raw)⟩)],[nx]⟩
 |.box ty x=>match mC e x with
  |some v=>if gG v.cs then af ⟨.ptr nx 0,[],[nx],[(nx,⟨ty,pl v.cs⟩)],[nx]⟩ else ah
  |none=>ah
 |.build z parts=>match zm (z.map raw) e parts with|some cs=>rv (Mx cs)|none=>ah
 |.bsl ty sz len z parts=>match zm ((repl z len).map .f) e parts with
  |some cs=>af ⟨if len=0 then .emp else .row nx sz len,[],[nx],[(nx,⟨ty,pl cs⟩)],[nx]⟩
  |none=>ah
 |.load sz ag x=>match mC e x with|some p=>DR h sz ag p|none=>ah
 |.store sz x v=>match mC e x,mC e v with|some p,af y=>Pe h sz y p|_,_=>ah
 |.nilc x=>match mC e x with
  |some (.ptr id off)=>rv (.ptr id off)
  |some (.f (.ptr cells off))=>rv (.f (.ptr cells off))
  |some (.clo g cap)=>rv (.clo g cap)
  |_=>ah
 |.bin op x y=>match mC e x,mC e y with
  |some (.f (.raw u)),af (.f (.raw v))=>(match uT op u v with|some r=>rv (raw r)|none=>ah)
  |_,_=>ah
 |.eqs neg ds x y=>match mC e x,mC e y with
  |some (.f (.agg a)),af (.f (.agg b))=>(match oX ds a b with|some r=>rv (raw (.bool (r !=neg)))|none=>ah)
  |_,_=>ah
 |.eqb neg x y=>match mC e x,mC e y with
  |some (.f (.raw (.bool a))),af (.f (.raw (.bool b)))=>rv (raw (.bool ((a==b) !=neg)))
  |_,_=>ah
 |.isnil neg x=>match mC e x with
  |some (.row _ _ _)=>rv (raw (.bool neg))
  |some (.sl _ _ _)=>rv (raw (.bool neg))
  |some (.f (.sl _ (_+1)))=>rv (raw (.bool neg))
  |some (.f (.sl _ 0))=>rv .anyb
  |some .emp=>rv .anyb
  |some (.f (.raw v))=>if Ae v then rv (raw (.bool !neg)) else ah
  |_=>ah
 |.not x=>match mC e x with|some (.f (.raw (.bool b)))=>rv (raw (.bool !b))|_=>ah
 |.conv k x=>match mC e x with|some (.f (.raw (.int _ n)))=>rv (raw (.int k (bk k n)))|_=>ah
 |.mksl ty sz bytes z l c=>match mC e l,mC e c with
  |some (.f (.raw (.int _ a))),af (.f (.raw (.int _ b)))=>
   if c7 0 a&&c7 a b&&a_ b.toNat bytes then af ⟨.row nx sz a.toNat,[],[nx],[(nx,⟨ty,.fz (repl z a.toNat)⟩)],[nx]⟩ else ah
  |_,_=>ah
 |.slc sz x lo hi mx=>match mC e x with
  |some v=>match lo,hi,mx with
   |none,af (.const (.int _ 0)),af (.const (.int _ 0))=>if v.slen.isSome then rv .emp else ah
   |none,af b,ah=>match v,mC e b with
    |.row id sz' n,af (.f (.raw (.int _ j)))=>if sz'==sz&&c7 0 j&&c7 j n then (match h.get id with
     |some blk=>if blk.c.isCells&&eJ (n*sz) blk.c.len then af ⟨.row nx sz j.toNat,[id],[nx,id],[(nx,⟨blk.ty,pl (blk.c.toMx.take (j.toNat*sz))⟩)],[nx]⟩ else ah
     |none=>ah) else ah
    |.f (.sl cells n),af (.f (.raw (.int _ j)))=>if c7 0 j&&c7 j n&&eJ (n*sz) cells.length then rv (.f (.sl (cells.take (j.toNat*sz)) j.toNat)) else ah
    |_,_=>ah
   |some b,ah,ah=>match v,mC e b with
    |.row id sz' n,af (.f (.raw (.int _ j)))=>if sz'==sz&&c7 0 j&&fO j n then rv (.sl id (j.toNat*sz) (n-j.toNat)) else ah
    |.f (.sl cells n),af (.f (.raw (.int _ j)))=>if c7 0 j&&c7 j n&&eJ (n*sz) cells.length then rv (.f (.sl ((cells.drop (j.toNat*sz)).take ((n-j.toNat)*sz)) (n-j.toNat))) else ah
    |_,_=>ah
   |_,_,_=>ah
  |none=>ah
 |.fad off x=>match mC e x with
  |some (.ptr id o)=>rv (.ptr id (o+off))
  |some (.f (.ptr cells o))=>rv (.f (.ptr cells (o+off)))
  |_=>ah
 |.fld off sz ag x=>match mC e x with
  |some (.agg l)=>(match (BC.mx l).sub? off sz ag with|some v=>rv v|none=>ah)
  |some (.f (.agg l))=>(match (BC.fz l).sub? off sz ag with|some v=>rv v|none=>ah)
  |_=>ah
 |.iad sz x i=>match mC e x,mC e i with
  |some v,af (.f (.raw (.int _ j)))=>match v with
   |.row id sz' n=>if sz'==sz&&c7 0 j&&fO j n then rv (.ptr id (j.toNat*sz)) else ah
   |.sl id off n=>if c7 0 j&&fO j n then rv (.ptr id (off+j.toNat*sz)) else ah
   |.f (.sl cells n)=>if c7 0 j&&fO j n then rv (.f (.ptr cells (j.toNat*sz))) else ah
   |_=>ah
  |_,_=>ah
 |.iada n sz x i=>match mC e x,mC e i with
  |some v,af (.f (.raw (.int _ j)))=>if c7 0 j&&fO j n then (match v with
   |.ptr id off=>rv (.ptr id (off+j.toNat*sz))
   |.f (.ptr cells off)=>rv (.f (.ptr cells (off+j.toNat*sz)))
   |_=>ah) else ah
  |_,_=>ah
 |.idx n sz ag x i=>match mC e x,mC e i with
  |some v,af (.f (.raw (.int _ j)))=>if c7 0 j&&fO j n then (match v with
   |.agg l=>(match (BC.mx l).sub? (j.toNat*sz) sz ag with|some v=>rv v|none=>ah)
   |.f (.agg l)=>(match (BC.fz l).sub? (j.toNat*sz) sz ag with|some v=>rv v|none=>ah)
   |_=>ah) else ah
  |_,_=>ah
 |.ext x i=>match mC e x with|some (.tup l)=>(match l[i]? with|some v=>rv v|none=>ah)|_=>ah
 |.len x=>match mC e x with
  |some v=>(match v.slen with|some n=>rv (raw (.int .i64 n))|none=>ah)
  |none=>ah
 |.lens x=>match mC e x with
  |some (.f (.raw (.string s)))=>rv (raw (.int .i64 s.data.toList.length))
  |_=>ah
 |.lenm x=>match mC e x with
  |some (.mp id)=>(match h.get id with|some ⟨_,.mp es⟩=>af ⟨raw (.int .i64 es.length),[id],[],[],[]⟩|_=>ah)
  |_=>ah
 |.max x y=>match mC e x,mC e y with
  |some (.f (.raw (.int k a))),af (.f (.raw (.int _ b)))=>rv (raw (.int k (if fO a b then b else a)))
  |_,_=>ah
 |.min x y=>match mC e x,mC e y with
  |some (.f (.raw (.int k a))),af (.f (.raw (.int _ b)))=>rv (raw (.int k (if fO b a then b else a)))
  |_,_=>ah
 |.sidx x i=>match mC e x,mC e i with
  |some (.f (.raw (.string s))),af (.f (.raw (.int _ j)))=>if c7 0 j then (match s.data.toList[j.toNat]? with|some b=>rv (raw (.int .u8 b.toNat))|none=>ah) else ah
  |_,_=>ah
 |.app ty sz bytes s x=>match mC e s,mC e x with
  |some b,af y=>match y.row? h sz with
   |some (src,m,rd)=>match b with
    |.row id sz' n=>match h.get id with
     |some blk=>if sz'==sz&& !(XW id rd)&&blk.c.isCells&&eJ (n*sz) blk.c.len&&blk.ty==ty&&a_ (n+m) bytes then
       af ⟨.row nx sz (n+m),id::rd,[nx,id],[(nx,⟨ty,pl (blk.c.toMx.take (n*sz)++src)⟩)],[nx]⟩ else ah
     |none=>ah
    |b=>if IH b&&a_ m bytes then
      (if m==0 then af ⟨b,rd,[],[],[]⟩ else af ⟨.row nx sz m,rd,[nx],[(nx,⟨ty,pl src⟩)],[nx]⟩) else ah
   |none=>ah
  |_,_=>ah
 |.copy sz d x=>match mC e d,mC e x with
  |some (.row id sz' n),af y=>(match h.get id,y.row? h sz with
   |some blk,af (src,m,rd)=>if sz'==sz&& !(XW id rd)&&eJ (n*sz) blk.c.len then
     (match blk.c.put 0 (src.take (iN m n*sz)) with
     |some c=>af ⟨raw (.int .i64 (iN m n)),id::rd,[id],[(id,⟨blk.ty,c⟩)],[]⟩
     |none=>ah) else ah
   |_,_=>ah)
  |_,_=>ah
 |.clr _ z x=>match mC e x with
  |some (.sl id off n)=>(match h.get id with
   |some blk=>if gi 0 n then (match blk.c.put off ((repl z n).map .f) with
    |some c=>af ⟨.tup [],[id],[id],[(id,⟨blk.ty,c⟩)],[]⟩
    |none=>ah) else ah
   |none=>ah)
  |_=>ah
 |.mkf f caps=>match W7 e caps with|some l=>rv (.clo f l)|none=>ah
 |.mkm=>af ⟨.mp nx,[],[nx],[(nx,⟨0,.mp []⟩)],[nx]⟩
 |.lku str z x k=>match mC e x,mC e k with
  |some (.mp id),af (.f (.raw key))=>(match h.get id with
   |some ⟨_,.mp es⟩=>if yX str key then (match tw key es with|some (af v)=>af ⟨v,[id],[],[],[]⟩|some ah=>af ⟨raw z,[id],[],[],[]⟩|none=>ah) else ah
   |_=>ah)
  |_,_=>ah
 |.mup str x k v=>match mC e x,mC e k,mC e v with
  |some (.mp id),af (.f (.raw key)),af y=>(match h.get id with
   |some ⟨ty,.mp es⟩=>if yX str key then (match yV key y es with|some es'=>af ⟨raw undef,[id],[id],[(id,⟨ty,.mp es'⟩)],[]⟩|none=>ah) else ah
   |_=>ah)
  |_,_,_=>ah
 |.rng x=>match mC e x with
  |some (.f (.raw (.string s)))=>af ⟨.ptr nx 0,[],[nx],[(nx,⟨0,.it s 0⟩)],[nx]⟩
  |_=>ah
 |.nxt x=>match mC e x with
  |some (.ptr id 0)=>(match h.get id with
   |some ⟨ty,.it s p⟩=>(match s.data.toList[p]? with
    |some b=>if gi b.toNat 128 then af ⟨.tup [raw (.bool ai),raw (.int .i64 p),raw (.int .i32 b.toNat)],[id],[id],[(id,⟨ty,.it s (p+1)⟩)],[]⟩ else ah
    |none=>af ⟨.tup [raw (.bool aj)],[id],[id],[(id,⟨ty,.it s p⟩)],[]⟩)
   |_=>ah)
  |_=>ah
 |.bad=>ah
structure sC where
 dst:Option Nat
 op:SI
 guard:Option (Nat×Bool)
inductive SC where
 |skip
 |reg (ops:List sC) (prs:List (Nat×Nat))
 |seq (a b:SC)
 |cond (c:Nat) (a b:SC)
 |block (id:Nat) (b:SC)
 |loop (b:SC)
 |exit (id:Nat)
 |ret
 |defer (f:FuncId) (caps:List Operand) (t:Nat)
 |bad
structure aod where
 val:AV
 h:nV
 nx:Nat
 wr:Nat
abbrev XD:=FuncId->List AV->nV->Nat->Option aod
mutual
def AV.ids:AV->Nat->Nat
 |.ptr id _,acc=>acc|||(1<<<id)
 |.sl id _ _,acc=>acc|||(1<<<id)
 |.row id _ _,acc=>acc|||(1<<<id)
 |.mp id,acc=>acc|||(1<<<id)
 |.agg l,acc=>AV.idsL l acc
 |.tup l,acc=>AV.idsL l acc
 |.clo _ l,acc=>AV.idsL l acc
 |.f _,acc=>acc
 |.emp,acc=>acc
 |.anyb,acc=>acc
def AV.idsL:List AV->Nat->Nat
 |[],acc=>acc
 |x::r,acc=>AV.idsL r (AV.ids x acc)
end
mutual
def AV.all (p:Nat->Bool):AV->Bool
 |.ptr id _=>p id
 |.sl id _ _=>p id
 |.row id _ _=>p id
 |.mp id=>p id
 |.agg l=>AV.allL p l
 |.tup l=>AV.allL p l
 |.clo _ l=>AV.allL p l
 |.f _=>ai
 |.emp=>ai
 |.anyb=>ai
def AV.allL (p:Nat->Bool):List AV->Bool
 |[]=>ai
 |x::r=>AV.all p x&&AV.allL p r
end
def BC.ids:BC->Nat->Nat
 |.mx l,acc=>AV.idsL l acc
 |.mp es,acc=>AV.idsL (es.map (·.2)) acc
 |_,acc=>acc
def BC.all (p:Nat->Bool):BC->Bool
 |.mx l=>AV.allL p l
 |.mp es=>AV.allL p (es.map (·.2))
 |_=>ai
def nV.all (p:Nat->Bool) (h:nV):Bool:=PT.all (λi b=>p i&&b.c.all p) 1 0 h
def Wq:Nat->nV->Nat->Nat->Nat
 |0,_,_,K9=>K9
 |n+1,h,todo,K9=>
  if aC todo 0 then K9 else
  match Nat.log2 todo with
  |id=>if aN K9 id then Wq n h (todo ^^^ (1<<<id)) K9 else
   match h.get id with
   |some b=>Wq n h (b.c.ids (todo ^^^ (1<<<id))) (K9|||(1<<<id))
   |none=>Wq n h (todo ^^^ (1<<<id)) K9
section force
variable {α:Type}
def sM (n:Nat) (k:Nat->α):α:=match n with|0=>k 0|m+1=>k (m+1)
def frcI (n:Int) (k:Int->α):α:=match n with|.ofNat m=>sM m λm=>k (.ofNat m)|.negSucc m=>sM m λm=>k (.negSucc m)
def frcB (b:Bool) (k:Bool->α):α:=match b with|true=>k ai|false=>k aj
def frcV (v:Value) (k:Value->α):α:=match v with
 |.int kd n=>frcI n λn=>k (.int kd n)
 |.bool b=>frcB b λb=>k (.bool b)
 |v=>k v
def alv (x:FV) (k:FV->α):α:=match x with
 |.raw v=>frcV v λv=>k (.raw v)
 |.ptr cells off=>sM off λoff=>k (.ptr cells off)
 |.sl cells n=>sM n λn=>k (.sl cells n)
 |.agg l=>k (.agg l)
def aba:List FV->(List FV->α)->α
 |[],k=>k []
 |x::r,k=>alv x λx=>aba r λr=>k (x::r)
def alu (x:FV) (k:FV->α):α:=match x with
 |.agg l=>aba l λl=>k (.agg l)
 |x=>alv x k
def ah1 (x:AV) (k:AV->α):α:=match x with
 |.f x=>alu x λx=>k (.f x)
 |.ptr id off=>sM id λid=>sM off λoff=>k (.ptr id off)
 |.sl id off n=>sM id λid=>sM off λoff=>sM n λn=>k (.sl id off n)
 |.row id sz n=>sM id λid=>sM sz λsz=>sM n λn=>k (.row id sz n)
 |.mp id=>sM id λid=>k (.mp id)
 |x=>k x
def Rf:List AV->(List AV->α)->α
 |[],k=>k []
 |x::r,k=>ah1 x λx=>Rf r λr=>k (x::r)
def alw (x:AV) (k:AV->α):α:=match x with
 |.agg l=>Rf l λl=>k (.agg l)
 |.tup l=>Rf l λl=>k (.tup l)
 |.clo f l=>Rf l λl=>k (.clo f l)
 |x=>ah1 x k
def frcC (c:BC) (k:BC->α):α:=match c with
 |.fz l=>aba l λl=>k (.fz l)
 |.mx l=>Rf l λl=>k (.mx l)
 |.it s p=>sM p λp=>k (.it s p)
 |.mp es=>k (.mp es)
def Re {β:Type}:PT β->(PT β->α)->α
 |.leaf,k=>k .leaf
 |.node v l r,k=>(match v with
  |none=>λ(k:Option β->α)=>k ah
  |some x=>λk=>k (af x)) λv=>Re l λl=>Re r λr=>k (.node v l r)
def TK {β:Type}:Nat->PT β->Nat->Option β->(PT β->α)->α
 |0,t,_,_,k=>k t
 |f+1,t,n,x,k=>match t with
  |.leaf=>(match n with
   |0=>k (.node x .leaf .leaf)
   |m+1=>if aC (m%2) 0 then sM (m/2) λq=>TK f .leaf q x λu=>k (.node ah u .leaf) else sM (m/2) λq=>TK f .leaf q x λu=>k (.node ah .leaf u))
  |.node v l r=>(match n with
   |0=>k (.node x l r)
   |m+1=>if aC (m%2) 0 then sM (m/2) λq=>TK f l q x λu=>k (.node v u r) else sM (m/2) λq=>TK f r q x λu=>k (.node v l u))
theorem OA {β:Type}:∀ (x:PT β) (k:PT β->α),Re x k=k x
 |.leaf,_=>rfl
 |.node v l r,k=>by cases v<;>simp only[Re,OA l,OA r]
end force
structure IS where
 e:zR
 h:nV
 nx:Nat
 wr:Nat
structure ahl where
 val:AV
 rd:Nat
 wr:Nat
 h:nV
 nx:Nat
def bits:List Nat->Nat->Nat
 |[],acc=>acc
 |x::r,acc=>bits r (acc|||(1<<<x))
def ai0 {α:Type} (h:nV) (nw:NW):List Nat->(nV->α)->α
 |[],k=>k h
 |i::r,k=>match je nw i with
  |none=>TK (i+1) h i ah λh=>ai0 h nw r k
  |some ⟨ty,c⟩=>frcC c λc=>TK (i+1) h i (af ⟨ty,c⟩) λh=>ai0 h nw r k
def ah8 (call:XD) (f:FuncId) (args:List AV) (h:nV) (nx:Nat):Option ahl:=
 sM (Wq 1000000 h (AV.idsL args 0) 0) λids=>Re (PT.only ids 1 0 h) λhc=>
 if AV.allL (gi · nx) args&&nV.all (gi · nx) hc then
  match call f args hc nx with
  |some ⟨val,h',nx',wr⟩=>alw val λval=>sM nx' λnx'=>sM wr λwr=>Re (PT.merge wr 1 0 h h') λhm=>af ⟨val,ids,wr,hm,nx'⟩
  |none=>ah
 else ah
def opA (call:XD) (o:SI) (e:zR) (h:nV) (nx:Nat):Option ahl:=
 match o with
 |.call f args=>match W7 e args with|some l=>ah8 call f l h nx|none=>ah
 |.callv x args=>match mC e x,W7 e args with|some (.clo f cap),af l=>ah8 call f (l++cap) h nx|_,_=>ah
 |.op o=>match eQ o e h nx with
  |some ⟨val,rd,wr,nw,N⟩=>alw val λval=>sM (bits rd 0) λrd=>sM (bits wr 0) λI=>sM (nx+N.length) λnx'=>ai0 h nw wr λh=>af ⟨val,rd,I,h,nx'⟩
  |none=>ah
def ald (e:zR):Option (Nat×Bool)->Option Bool
 |none=>af ai
 |some (t,want)=>match e.get t with
  |some (.f (.raw (.bool b)))=>af (b==want)
  |some (.f (.raw (.tuple _)))=>af aj
  |_=>ah
def aia {α:Type} (e:zR) (dst:Option Nat) (v:AV) (k:zR->α):α:=match dst with
 |none=>k e
 |some d=>TK (d+1) e d (af v) k
structure FPm where
 rd:Nat
 wr:Nat
def TU (call:XD):List sC->IS->Option (IS×List FPm)
 |[],s=>af (s,[])
 |o::r,⟨e,h,nx,wr⟩=>
  match ald e o.guard with
  |some ai=>(match opA call o.op e h nx with
   |some ⟨val,rd,w,h',nx'⟩=>aia e o.dst val λe'=>sM (wr|||w) λwr'=>(match TU call r ⟨e',h',nx',wr'⟩ with
    |some (s',fs)=>af (s',⟨rd,w⟩::fs)
    |none=>ah)
   |none=>ah)
  |some aj=>aia e o.dst (raw undef) λe'=>(match TU call r ⟨e',h,nx,wr⟩ with
   |some (s',fs)=>af (s',⟨0,0⟩::fs)
   |none=>ah)
  |none=>ah
def Yo:List FPm->Nat->Option FPm
 |[],_=>ah
 |f::_,0=>af f
 |_::r,n+1=>Yo r n
def DB (a b:Nat):Bool:=aC (a&&&b) 0
def Fw (fs:List FPm):List (Nat×Nat)->Bool
 |[]=>ai
 |(i,j)::r=>(match Yo fs i,Yo fs j with
  |some a,af b=>DB a.wr b.rd&&DB a.wr b.wr&&DB b.wr a.rd
  |_,_=>aj)&&Fw fs r
inductive Ex where
 |normal
 |exit (id:Nat)
 |ret
def agy (body:IS->Option (Ex×IS)) (e0:zR):Nat->IS->Option (Ex×IS)
 |0,_=>ah
 |n+1,s=>match body s with
  |some (.normal,⟨e,h,nx,wr⟩)=>Re (PT.mask e e0) λe=>agy body e0 n ⟨e,h,nx,wr⟩
  |r=>r
def run (call:XD) (inert:FuncId->Bool) (fuel:Nat):SC->IS->Option (Ex×IS)
 |.skip,s=>af (.normal,s)
 |.reg ops prs,s=>match TU call ops s with
  |some (s',fs)=>if Fw fs prs then af (.normal,s') else ah
  |none=>ah
 |.seq a b,s=>match run call inert fuel a s with
  |some (.normal,s')=>run call inert fuel b s'
  |r=>r
 |.cond c a b,s=>match s.e.get c with
  |some (.f (.raw (.bool ai)))=>run call inert fuel a s
  |some (.f (.raw (.bool aj)))=>run call inert fuel b s
  |_=>ah
 |.block id b,s=>match run call inert fuel b s with
  |some (.exit i,s')=>if aC i id then af (.normal,s') else af (.exit i,s')
  |r=>r
 |.loop b,s=>agy (run call inert fuel b) s.e fuel s
 |.exit id,s=>af (.exit id,s)
 |.ret,s=>af (.ret,s)
 |.defer f caps t,⟨e,h,nx,wr⟩=>match W7 e caps with
  |some l=>if inert f then aia e (af t) (.clo f l) λe'=>af (.normal,⟨e',h,nx,wr⟩) else ah
  |none=>ah
 |.bad,_=>ah
inductive RV where
 |tmp (t:Nat)
 |cell (a:Nat) (sz:Nat) (ag:Bool)
structure SF where
 code:SC
 res:List RV
 nt:Nat
def D':List AV->AV
 |[x]=>x
 |l=>.tup l
def aiy:Value->Value->Bool
 |.bool a,.bool b=>a==b
 |.int k a,.int k' b=>k==k'&&a==b
 |.string a,.string b=>rW a b
 |.slice ah n c,.slice ah I c'=>aC n I&&aC c c'
 |.pointer ah,.pointer ah=>ai
 |.tuple a,.tuple b=>a.isEmpty&&b.isEmpty
 |_,_=>aj
def fw (P:Program) (t:TypeId):Option Nat:=(P.info? t).map (·.size)
def Fe (P:Program) (t:TypeId):Option Nat:=(P.info? t).map (·.bytes)
def sT (P:Program) (t:TypeId):Option (List Value):=((P.info? t).bind (·.zero)).map (·.cells.toList)
def DS (P:Program) (t:TypeId):Option Bool:=(P.underlying t).map λ|.struct _=>ai|.array _ _=>ai|_=>aj
def AO (P:Program) (t:TypeId):Option TypeId:=match P.underlying t with|some (.slice e)=>af e|_=>ah
def Bz (P:Program) (t:TypeId) (i:Nat):Option (Nat×Nat):=match P.underlying t with
 |some (.struct fs)=>(fs[i]?).bind λf=>(fw P f.type).map (f.offset,·)
 |some (.array _ el)=>(fw P el).map λs=>(i*s,s)
 |some (.slice el)=>(fw P el).map λs=>(i*s,s)
 |_=>ah
def xl (P:Program) (t:TypeId):List (Nat×Operand)->Option (List (Nat×Nat×Operand))
 |[]=>af []
 |(i,x)::r=>match Bz P t i,xl P t r with|some (o,s),af l=>af ((o,s,x)::l)|_,_=>ah
def mA (z:List Value):Bool:=z.all λv=>v.oneCell'
def Ih:TypeDesc->Bool
 |.int _=>ai
 |.bool=>ai
 |.string=>ai
 |_=>aj
def rO (P:Program):Nat→List Field→Option (List TypeDesc)
 |_,[]=>af []
 |k,f::r=>match P.underlying f.type,rO P (k+1) r with
  |some d,af ds=>if f.name != "_" &&f.offset==k&&Ih d then af (d::ds) else ah
  |_,_=>ah
def aa3 (P:Program) (t:TypeId):Option (List TypeDesc):=match P.underlying t with
 |some (.struct fs)=>if P.stoodInHeld t then ah else rO P 0 fs.toList
 |_=>ah
def Sk (P:Program) (c:Call):Option Zd:=
 match c.callee with
 |.builtin .len=>(match c.args.toList,c.argTypes.toList with
  |[x],[t]=>(match P.underlying t with
   |some (.slice _)=>af (.len x)
   |some .string=>af (.lens x)
   |some (.map _ _)=>af (.lenm x)
   |_=>ah)
  |_,_=>ah)
 |.builtin .max=>(match c.args.toList with
  |[x,y]=>af (.max x y)
  |_=>ah)
 |.builtin .min=>(match c.args.toList with
  |[x,y]=>af (.min x y)
  |_=>ah)
 |.builtin .copy=>(match c.args.toList,c.argTypes.toList with
  |[d,x],[t,u]=>(match AO P t,AO P u with
   |some el,af _=>(fw P el).bind λsz=>if sz !=0 then af (.copy sz d x) else ah
   |_,_=>ah)
  |_,_=>ah)
 |.builtin .clear=>(match c.args.toList,c.argTypes.toList with
  |[x],[t]=>(AO P t).bind λel=>(sT P el).bind λz=>(fw P el).bind λsz=>if mA z&&z.length==sz&&sz !=0 then af (.clr sz z x) else ah
  |_,_=>ah)
 |.builtin .append=>(match c.args.toList,c.argTypes.toList with
  |[s,x],[t,u]=>(match AO P t,AO P u with
   |some el,af _=>(fw P el).bind λsz=>(Fe P el).bind λb=>(sT P el).bind λz=>if sz !=0&&z.length==sz then af (.app el sz b s x) else ah
   |_,_=>ah)
  |_,_=>ah)
 |_=>ah
def dk (P:Program):Op->Option Zd
 |.move x=>af (.mv x)
 |.assign x=>af (.mv x)
 |.pick c a b=>af (.pick c a b)
 |.alloc t=>(sT P t).bind λz=>if mA z then af (.alloc t z) else ah
 |.box t x=>af (.box t x)
 |.build t ps=>match P.underlying t with
  |some (.struct fs)=>(sT P t).bind λz=>if mA z&&(fs.toList.all λf=>(fw P f.type).isSome) then (xl P t ps.toList).map (.build z) else ah
  |some (.array _ el)=>(sT P t).bind λz=>if mA z&&(fw P el).isSome then (xl P t ps.toList).map (.build z) else ah
  |_=>ah
 |.buildSlice t n ps=>(AO P t).bind λel=>(sT P el).bind λz=>(fw P el).bind λsz=>if mA z&&z.length==sz&&eJ (n*sz) 65536&&sz !=0 then (xl P t ps.toList).map (.bsl el sz n z) else ah
 |.load t x=>(fw P t).bind λsz=>(DS P t).map λag=>.load sz ag x
 |.store t x v=>(fw P t).map λsz=>.store sz x v
 |.nilCheck x=>af (.nilc x)
 |.binOp op t x y _=>match P.underlying t with
  |some (.int _)|some .string=>af (.bin op x y)
  |some .bool=>(match op with|.eql=>af (.eqb aj x y)|.neq=>af (.eqb ai x y)|_=>ah)
  |some (.slice _)=>(match op,y with
   |.eql,.const (.slice ah 0 0)=>af (.isnil aj x)
   |.neq,.const (.slice ah 0 0)=>af (.isnil ai x)
   |_,_=>ah)
  |some (.struct _)=>(aa3 P t).bind λds=>(match op with|.eql=>af (.eqs aj ds x y)|.neq=>af (.eqs ai ds x y)|_=>ah)
  |_=>ah
 |.unOp .not _ x=>af (.not x)
 |.unOp .neg t x=>match P.underlying t with|some (.int k)=>af (.bin .sub (.const (.int k 0)) x)|_=>ah
 |.convert s d x=>match P.underlying s,P.underlying d with|some (.int _),af (.int k)=>af (.conv k x)|_,_=>ah
 |.makeSlice t l c=>(AO P t).bind λel=>(sT P el).bind λz=>(fw P el).bind λsz=>(Fe P el).bind λb=>if mA z&&z.length==sz&&sz !=0 then af (.mksl el sz b z l c) else ah
 |.slice t x lo hi mx=>(AO P t).bind λel=>(fw P el).map λsz=>.slc sz x lo hi mx
 |.fieldAddr t x k=>match P.underlying t with
  |some (.struct fs)=>(fs[k]?).bind λf=>(fw P f.type).bind λsz=>if sz !=0 then af (.fad f.offset x) else ah
  |_=>ah
 |.field t x k=>match P.underlying t with
  |some (.struct fs)=>(fs[k]?).bind λf=>(fw P f.type).bind λsz=>(DS P f.type).map λag=>.fld f.offset sz ag x
  |_=>ah
 |.indexAddr t x i=>match P.underlying t with
  |some (.slice el)=>(fw P el).map λsz=>.iad sz x i
  |some (.array n el)=>(fw P el).map λsz=>.iada n sz x i
  |_=>ah
 |.index t x i=>match P.underlying t with
  |some (.array n el)=>(fw P el).bind λsz=>(DS P el).map λag=>.idx n sz ag x i
  |some .string=>af (.sidx x i)
  |_=>ah
 |.extract x i=>af (.ext x i)
 |.makeFunc (.func f) first caps=>if first.isEmpty then af (.mkf f caps.toList) else ah
 |.makeMap t ah=>match P.underlying t with|some (.map _ _)=>af .mkm|_=>ah
 |.lookup t x k aj=>match P.underlying t with
  |some (.map I el)=>(match P.underlying I,(P.info? el).bind (·.zero) with
   |some (.int _),af z=>if z.oneCell' then af (.lku aj z x k) else ah
   |some .string,af z=>if z.oneCell' then af (.lku ai z x k) else ah
   |_,_=>ah)
  |_=>ah
 |.mapUpdate t m k v=>match P.underlying t with
  |some (.map I _)=>(match P.underlying I with
   |some (.int _)=>af (.mup aj m k v)
   |some .string=>af (.mup ai m k v)
   |_=>ah)
  |_=>ah
 |.range t x=>match P.underlying t with|some .string=>af (.rng x)|_=>ah
 |.next x ai=>af (.nxt x)
 |.call c=>Sk P c
 |_=>ah
def Pb:Op->Option SI
 |.call c=>(match c.callee with
  |.value (.func f)=>af (.call f c.args.toList)
  |.value (.tmp t)=>af (.callv (.tmp t) c.args.toList)
  |_=>ah)
 |_=>ah
def yB (P:Program) (op:Op):SI:=match Pb op with
 |some i=>i
 |none=>(match dk P op with|some s=>.op s|none=>.op .bad)
def Zd.still:Zd->Bool
 |.mv _|.pick _ _ _|.build _ _|.nilc _|.bin _ _ _|.eqs _ _ _ _|.isnil _ _|.eqb _ _ _|.not _|.conv _ _|.fad _ _|.fld _ _ _ _|.iad _ _ _|.iada _ _ _ _|.idx _ _ _ _ _|.ext _ _|.max _ _|.min _ _|.sidx _ _|.mkf _ _|.bad=>ai
 |_=>aj
def SI.still:SI->Bool
 |.op s=>s.still
 |_=>aj
def rV (P:Program) (ops:Array Oper):List Oper->Option (List sC)
 |[]=>af []
 |o::r=>match rV P ops r with
  |some l=>(match o.guard with
   |none=>af (⟨o.dst,yB P o.op,ah⟩::l)
   |some (j,want)=>(match (ops[j]?).bind (·.dst) with
    |some t=>af (⟨o.dst,yB P o.op,af (t,want)⟩::l)
    |none=>ah))
  |none=>ah
def Mt (ops:Array Oper) (l:List sC):Option (List (Nat×Nat)):=
 let B:=Kq ops.toList []
 if (c4 ops.size).all λj=>((ops[j]?).all λoj=>oj.after.toList.all λe=> !zU .any e||decide (e.on<j))&&
     (c4 j).all λi=>aN (B.getD j 0) i||(match ops[i]?,ops[j]? with|some oi,af oj=>oi.apart ops oj|_,_=>aj)
 then af ((c4 ops.size).flatMap λj=>(c4 j).filterMap λi=>
  if aN (B.getD j 0) i||(match l[i]?,l[j]? with|some a,af b=>a.op.still||b.op.still|_,_=>aj) then ah else af (i,j))
 else ah
def DE (ops:Array Oper) (I:Bool):Option (FuncId×List Operand×Nat):=match ops.toList,I with
 |[p,q],aj=>(match p.op,p.guard,p.dst,q.op,q.guard,q.dst with
  |.makeFunc (.func f) first caps,ah,af t,.defer c,ah,ah=>(match c.callee,c.args.toList with
   |.value (.tmp t'),[]=>if aC t t'&&first.isEmpty then af (f,caps.toList,t) else ah
   |_,_=>ah)
  |_,_,_,_,_,_=>ah)
 |_,_=>ah
def cq (P:Program) (nt:Nat):Code->SC
 |.skip=>.skip
 |.region _ ops I=>if ops.toList.all λo=>match o.dst with|some d=>decide (d<nt)|none=>ai then
   (match DE ops I with
   |some (f,caps,t)=>.defer f caps t
   |none=>(match rV P ops ops.toList with
    |some l=>(match Mt ops l with|some prs=>.reg l prs|none=>.bad)
    |none=>.bad)) else .bad
 |.seq a b=>.seq (cq P nt a) (cq P nt b)
 |.cond (.tmp c) a b=>.cond c (cq P nt a) (cq P nt b)
 |.cond (.const (.bool ai)) a _=>cq P nt a
 |.cond (.const (.bool aj)) _ b=>cq P nt b
 |.block id b=>.block id (cq P nt b)
 |.loop b=>.loop (cq P nt b)
 |.exit id=>.exit id
 |.ret=>.ret
 |_=>.bad
def vA (P:Program):List ResultVar->Option (List RV)
 |[]=>af []
 |.tmp t::r=>match vA P r with|some l=>af (.tmp t::l)|none=>ah
 |.cell a t::r=>match vA P r,fw P t,DS P t with|some l,af sz,af ag=>af (.cell a sz ag::l)|_,_,_=>ah
def zJ (P:Program) (f:FuncId):Option SF:=
 match P.funcs[f]? with
 |some fn=>if fn.name== "runtime.NumGoroutine" then ah else (match fn.body,vA P fn.results.toList with
  |some c,af r=>af ⟨cq P fn.ntmps c,r,fn.ntmps⟩
  |_,_=>ah)
 |none=>ah
inductive Xp where
 |mk (op n:Int) (name:List UInt8) (l:List Xp)
inductive Sx where
 |mk (op line:Int) (name arg:List UInt8) (index:List Xp) (expr:Xp) (body els:List Sx)
def Xp.op:Xp->Int|.mk a _ _ _=>a
def Xp.n:Xp->Int|.mk _ a _ _=>a
def Xp.name:Xp->List UInt8|.mk _ _ a _=>a
def Xp.l:Xp->List Xp|.mk _ _ _ a=>a
def Sx.op:Sx->Int|.mk a _ _ _ _ _ _ _=>a
def Sx.line:Sx->Int|.mk _ a _ _ _ _ _ _=>a
def Sx.name:Sx->List UInt8|.mk _ _ a _ _ _ _ _=>a
def Sx.arg:Sx->List UInt8|.mk _ _ _ a _ _ _ _=>a
def Sx.index:Sx->List Xp|.mk _ _ _ _ a _ _ _=>a
def Sx.expr:Sx->Xp|.mk _ _ _ _ _ a _ _=>a
def Sx.body:Sx->List Sx|.mk _ _ _ _ _ _ a _=>a
def Sx.els:Sx->List Sx|.mk _ _ _ _ _ _ _ a=>a
inductive Ty where
 |int (k:IntKind)
 |bool
 |str
 |sl (t:Ty)
 |st (t:Ty)
 |pr (a b:Ty)
 |un
 |ex
 |sm
 deriving DecidableEq
@[reducible] def Ty.den:Ty->Type
  |.int _=>Int
  |.bool=>Bool
  |.str=>List UInt8
  |.sl t=>List t.den
  |.st t=>t.den
  |.pr a b=>a.den×b.den
  |.un=>Unit
  |.ex=>Xp
  |.sm=>Sx
def Ty.size:Ty->Nat
 |.st t=>t.size
 |.pr a b=>a.size+b.size
 |.un=>0
 |.ex=>4
 |.sm=>11
 |_=>1
def Ty.zero:(t:Ty)->t.den
 |.int _=>(0:Int)
 |.bool=>aj
 |.str=>[]
 |.sl _=>[]
 |.st t=>t.zero
 |.pr a b=>(a.zero,b.zero)
 |.un=>()
 |.ex=>.mk 0 0 [] []
 |.sm=>.mk 0 0 [] [] [] (.mk 0 0 [] []) [] []
def Ty.one:Ty->Bool
 |.int _=>ai
 |.bool=>ai
 |.str=>ai
 |.sl _=>ai
 |_=>aj
def MO:Ty:=.pr (.int .i64) (.pr (.int .i64) (.pr .str (.sl .ex)))
def Mo:Ty:=.pr (.int .i64) (.pr (.int .i64) (.pr .str (.pr .str (.pr (.sl .ex) (.pr .ex (.pr (.sl .sm) (.sl .sm)))))))
def Nz (e:Xp):MO.den:=(e.op,e.n,e.name,e.l)
def dZ (x:MO.den):Xp:=.mk x.1 x.2.1 x.2.2.1 x.2.2.2
def Ny (e:Sx):Mo.den:=(e.op,e.line,e.name,e.arg,e.index,e.expr,e.body,e.els)
def nJ (x:Mo.den):Sx:=.mk x.1 x.2.1 x.2.2.1 x.2.2.2.1 x.2.2.2.2.1 x.2.2.2.2.2.1 x.2.2.2.2.2.2.1 x.2.2.2.2.2.2.2
mutual
def wJ:Xp->List FV
 |.mk op n name l=>[.raw (.int .i64 op),.raw (.int .i64 n),.raw (.string ⟨name.toArray⟩),.sl (Jt l) l.length]
def Jt:List Xp->List FV
 |[]=>[]
 |x::r=>wJ x++Jt r
end
mutual
def yi:Sx->List FV
 |.mk op line name arg index expr body els=>[.raw (.int .i64 op),.raw (.int .i64 line),.raw (.string ⟨name.toArray⟩),.raw (.string ⟨arg.toArray⟩),.sl (Jt index) index.length]++wJ expr++[.sl (Js body) body.length,.sl (Js els) els.length]
def Js:List Sx->List FV
 |[]=>[]
 |x::r=>yi x++Js r
end
def bS:(T:Ty)->T.den->List FV
 |.int k,n=>[.raw (.int k n)]
 |.bool,b=>[.raw (.bool b)]
 |.str,s=>[.raw (.string ⟨s.toArray⟩)]
 |.sl t,xs=>[.sl (List.flatMap (bS t) xs) (al xs)]
 |.st t,v=>bS t v
 |.pr a b,v=>bS a v.1++bS b v.2
 |.un,_=>[]
 |.ex,v=>wJ v
 |.sm,v=>yi v
def gJ:(T:Ty)->T.den->FV
 |.int k,n=>.raw (.int k n)
 |.bool,b=>.raw (.bool b)
 |.str,s=>.raw (.string ⟨s.toArray⟩)
 |.sl t,xs=>.sl (List.flatMap (bS t) xs) (al xs)
 |.st t,v=>.agg (bS t v)
 |.pr a b,v=>.agg (bS a v.1++bS b v.2)
 |.un,_=>.agg []
 |.ex,v=>.agg (wJ v)
 |.sm,v=>.agg (yi v)
def PD:(T:Ty)->T.den->T.den->Bool
 |.int _,a,b=>decide ((a:Int)=b)
 |.bool,a,b=>(a:Bool)==b
 |.str,a,b=>decide ((a:List UInt8)=b)
 |.st t,a,b=>PD t a b
 |.pr x y,a,b=>PD x a.1 b.1&&PD y a.2 b.2
 |_,_,_=>ai
def wT {S:Ty} (T:Ty) (v:S.den):Option T.den:=if h:S=T then af (h▸v) else ah
def fe (j:Int) (n:Nat):Bool:=c7 0 j&&fO j n
def aJ {T:Ty} (xs:List T.den) (j:Int):T.den:=xs.getD j.toNat T.zero
def cQ {α:Type} (xs:List α) (j:Int) (x:α):List α:=xs.set j.toNat x
def Ts {α:Type} (xs I:List α):List α:=I.take xs.length++xs.drop I.length
def ik (a b:Int):Int:=if fO a b then b else a
def GW (a b:Int):Int:=if fO b a then b else a
def Ao (s:List UInt8) (j:Int):Int:=aO (s.getD j.toNat 0).toNat
def bcase {R:Type} (b:Bool) (t f:Option R):Option R:=match b with|true=>t|false=>f
def chk {R:Type} (b:Bool) (k:b=ai->Option R):Option R:=match b,k with|true,k=>k rfl|false,_=>ah
open Classical in
def Ff {R:Type} (a b:Option R):Option R:=if a=b then a else ah
open Classical in
def same {α R:Type} (a b:α) (r:Option R):Option R:=if a=b then r else ah
def obind {α R:Type} (o:Option α) (k:α->Option R):Option R:=match o with|some x=>k x|none=>ah
def lt {α R:Type} (x:α) (k:α->Option R):Option R:=k x
def jn {α R:Type} (o:Option (R⊕α)) (k:α->Option R):Option R:=match o with|some (.inr x)=>k x|some (.inl r)=>af r|none=>ah
def iterN {σ R:Type} (step:σ->Option (σ⊕R)):Nat->σ->Option R
 |0,_=>ah
 |n+1,x=>match step x with
  |some (.inl y)=>iterN step n y
  |some (.inr r)=>af r
  |none=>ah
open Classical in
def iter {σ R:Type} (step:σ->Option (σ⊕R)) (x:σ):Option R:=
 if h:∃ n,(iterN step n x).isSome=ai then iterN step (Classical.choose h) x else ah
def fH {σ R:Type} (step:σ->Option (σ⊕R)) (x:σ):Option R:=iterN step 18446744073709551616 x
abbrev xU:Type 1:=∀ σ R:Type,(σ->Option (σ⊕R))->σ->Option R
def kA {R:Type} (a b:Option R):Prop:=∀ y,a=af y->b=af y
theorem kA.rfl {R:Type} {a:Option R}:kA a a:=λ_ h=>h
theorem kA.bcase {R:Type} {b:Bool} {t f t' f':Option R} (h1:kA t t') (h2:kA f f'):kA (AI.bcase b t f) (AI.bcase b t' f'):=by cases b<;>assumption
theorem kA.chk {R:Type} {b:Bool} {k k':Option R} (h:kA k k'):kA (AI.chk b λ_=>k) (AI.chk b λ_=>k'):=by
 cases b with
 |true=>exact h
 |false=>exact λ_ h=>by cases h
theorem kA.obind {α R:Type} {o o':Option α} {k k':α->Option R} (h:kA o o') (hk:∀ x,kA (k x) (k' x)):kA (AI.obind o k) (AI.obind o' k'):=by
 intro y I;cases o with
 |none=>cases I
 |some x=>rw[h x (by exact Eq.refl _)];exact hk x y I
theorem kA.lt {α R:Type} {x:α} {k k':α->Option R} (h:∀ y,kA (k y) (k' y)):kA (AI.lt x k) (AI.lt x k'):=h x
theorem kA.jn {α R:Type} {o o':Option (R⊕α)} {k k':α->Option R} (h:kA o o') (hk:∀ x,kA (k x) (k' x)):kA (AI.jn o k) (AI.jn o' k'):=by
 intro y I;cases o with
 |none=>cases I
 |some x=>
  rw[h x (by exact Eq.refl _)];cases x with
  |inl r=>exact I
  |inr a=>exact hk a y I
theorem kA.iterN {σ R:Type} {f g:σ->Option (σ⊕R)} (h:∀ x,kA (f x) (g x)):∀ (n:Nat) (x:σ),kA (AI.iterN f n x) (AI.iterN g n x)
 |0,_=>λ_ h=>by cases h
 |n+1,x=>by
  intro y I;cases hf:f x with
  |none=>rw[AI.iterN,hf] at I;cases I
  |some s=>
   rw[AI.iterN,hf] at I;rw[AI.iterN,h x s hf];cases s with
   |inl z=>exact kA.iterN h n z y I
   |inr r=>exact I
theorem IG {σ R:Type} {f:σ->Option (σ⊕R)}:∀ {n:Nat} {x:σ} {r:R},iterN f n x=af r->iterN f (n+1) x=af r
 |0,x,r,h=>by cases h
 |n+1,x,r,h=>by
  cases hf:f x with
  |none=>rw[iterN,hf] at h;cases h
  |some s=>
   cases s with
   |inl y=>rw[iterN,hf] at h;rw[iterN,hf];exact IG h
   |inr q=>rw[iterN,hf] at h;rw[iterN,hf];exact h
theorem yZ {σ R:Type} {f:σ->Option (σ⊕R)} {n m:Nat} {x:σ} {r:R} (h:iterN f n x=af r) (hle:n<=m):iterN f m x=af r:=by
 induction hle with
 |refl=>exact h
 |step _ I=>exact IG I
theorem yY {σ R:Type} {f:σ->Option (σ⊕R)} {n:Nat} {x:σ} {r:R} (h:iterN f n x=af r):iter f x=af r:=by
 have J:∃ n,(iterN f n x).isSome=ai:=⟨n,by rw[h];exact Eq.refl _⟩
 unfold iter;rw[dif_pos J];have hc:=Classical.choose_spec J;obtain⟨M,I⟩:=iH.1 hc;rw[I];rcases Nat.le_total n (Classical.choose J) with hl|hl
 .rw[yZ h hl] at I;exact I.symm
 .rw[yZ I hl] at h;exact h
theorem kA.iter {σ R:Type} {f g:σ->Option (σ⊕R)} {x:σ} (h:∀ x,kA (f x) (g x)):kA (fH f x) (AI.iter g x):=λy I=>yY (kA.iterN h _ x y I)
def orE {R:Type} (a b:Option R):Option R:=match a with|some y=>af y|none=>b
def fuel:Nat:=Classical.choose (⟨100000,rfl⟩:∃ n:Nat,n=100000)
theorem jP:fuel=100000:=Classical.choose_spec (⟨100000,rfl⟩:∃ n:Nat,n=100000)
def GG (a:Ty):Ty->Ty
 |.un=>a
 |.int k=>.pr a (.int k)
 |.bool=>.pr a .bool
 |.str=>.pr a .str
 |.sl t=>.pr a (.sl t)
 |.st t=>.pr a (.st t)
 |.pr x y=>.pr a (.pr x y)
 |.ex=>.pr a .ex
 |.sm=>.pr a .sm
def spr:Ty->Ty->Ty
 |.un,b=>b
 |.int k,b=>GG (.int k) b
 |.bool,b=>GG .bool b
 |.str,b=>GG .str b
 |.sl t,b=>GG (.sl t) b
 |.st t,b=>GG (.st t) b
 |.pr x y,b=>GG (.pr x y) b
 |.ex,b=>GG .ex b
 |.sm,b=>GG .sm b
def Qq (a:Ty):(b:Ty)->a.den->b.den->(GG a b).den
 |.un,x,_=>x
 |.int _,x,y=>(x,y)
 |.bool,x,y=>(x,y)
 |.str,x,y=>(x,y)
 |.sl _,x,y=>(x,y)
 |.st _,x,y=>(x,y)
 |.pr _ _,x,y=>(x,y)
 |.ex,x,y=>(x,y)
 |.sm,x,y=>(x,y)
def fsN (a:Ty):(b:Ty)->(GG a b).den->a.den
 |.un,z=>z
 |.int _,z=>z.1
 |.bool,z=>z.1
 |.str,z=>z.1
 |.sl _,z=>z.1
 |.st _,z=>z.1
 |.pr _ _,z=>z.1
 |.ex,z=>z.1
 |.sm,z=>z.1
def snN (a:Ty):(b:Ty)->(GG a b).den->b.den
 |.un,_=>()
 |.int _,z=>z.2
 |.bool,z=>z.2
 |.str,z=>z.2
 |.sl _,z=>z.2
 |.st _,z=>z.2
 |.pr _ _,z=>z.2
 |.ex,z=>z.2
 |.sm,z=>z.2
def Ub:(a b:Ty)->a.den->b.den->(spr a b).den
 |.un,_,_,y=>y
 |.int k,b,x,y=>Qq (.int k) b x y
 |.bool,b,x,y=>Qq .bool b x y
 |.str,b,x,y=>Qq .str b x y
 |.sl t,b,x,y=>Qq (.sl t) b x y
 |.st t,b,x,y=>Qq (.st t) b x y
 |.pr u v,b,x,y=>Qq (.pr u v) b x y
 |.ex,b,x,y=>Qq .ex b x y
 |.sm,b,x,y=>Qq .sm b x y
def Oz:(a b:Ty)->(spr a b).den->a.den
 |.un,_,_=>()
 |.int k,b,z=>fsN (.int k) b z
 |.bool,b,z=>fsN .bool b z
 |.str,b,z=>fsN .str b z
 |.sl t,b,z=>fsN (.sl t) b z
 |.st t,b,z=>fsN (.st t) b z
 |.pr u v,b,z=>fsN (.pr u v) b z
 |.ex,b,z=>fsN .ex b z
 |.sm,b,z=>fsN .sm b z
def K6:(a b:Ty)->(spr a b).den->b.den
 |.un,_,z=>z
 |.int k,b,z=>snN (.int k) b z
 |.bool,b,z=>snN .bool b z
 |.str,b,z=>snN .str b z
 |.sl t,b,z=>snN (.sl t) b z
 |.st t,b,z=>snN (.st t) b z
 |.pr u v,b,z=>snN (.pr u v) b z
 |.ex,b,z=>snN .ex b z
 |.sm,b,z=>snN .sm b z
theorem tH (a b:Ty) (x:a.den) (y:b.den):Oz a b (Ub a b x y)=x:=by cases a<;>cases b<;>rfl
theorem ve (a b:Ty) (x:a.den) (y:b.den):K6 a b (Ub a b x y)=y:=by cases a<;>cases b<;>rfl
inductive TV where
 |f (T:Ty) (v:T.den)
 |fel (T:Ty) (xs:List T.den) (j:Int) (h:fe j xs.length=ai) (off:Nat)
 |pel (id sz:Nat) (j:Int) (off:Nat)
 |ptr (id off:Nat)
 |row (id:Nat)
 |csl (id sz n:Nat)
 |emp
 |nil
 |mp (id:Nat)
 |agg (l:List TV)
 |tup (l:List TV)
 |clo (g:FuncId) (l:List TV)
 |undef
 |np
 |anyb
 |rtl (id:Nat) (j:Int)
inductive io where
 |rows (ty:TypeId) (p:Bool) (T:Ty) (xs:List T.den)
 |cells (ty:TypeId) (l:List TV)
 |dead (p:Bool) (sz n:Nat)
 |mp (K V:Ty) (es:List (K.den×V.den))
abbrev iJ:=PT TV
abbrev bh:=PT io
def cst:Value->Option TV
 |.int k n=>af (.f (.int k) n)
 |.bool b=>af (.f .bool b)
 |.string s=>af (.f .str s.data.toList)
 |.slice ah 0 0=>af .nil
 |.pointer ah=>af .np
 |_=>ah
def J7:List Value->Option (List TV)
 |[]=>af []
 |v::r=>match cst v,J7 r with|some x,af l=>af (x::l)|_,_=>ah
def aip:Value->Option TV
 |.agg vs=>if Km vs.toList then (match J7 vs.toList with|some l=>af (.agg l)|none=>ah) else ah
 |v=>cst v
def cellsOf:Nat->(T:Ty)->T.den->Option (List TV)
 |0,_,_=>ah
 |n+1,.st t,v=>cellsOf n t v
 |n+1,.pr a b,v=>match cellsOf n a v.1,cellsOf n b v.2 with|some x,af y=>af (x++y)|_,_=>ah
 |_+1,.un,_=>af []
 |n+1,.ex,v=>cellsOf n MO (Nz v)
 |n+1,.sm,v=>cellsOf n Mo (Ny v)
 |_+1,.int k,v=>af [.f (.int k) v]
 |_+1,.bool,v=>af [.f .bool v]
 |_+1,.str,v=>af [.f .str v]
 |_+1,.sl t,v=>af [.f (.sl t) v]
def TV.isC:TV->Bool
 |.f T _=>T.one
 |.fel _ _ _ _ _=>ai
 |.pel _ _ _ _=>ai
 |.ptr _ _=>ai
 |.row _=>ai
 |.csl _ _ _=>ai
 |.emp=>ai
 |.nil=>ai
 |.np=>ai
 |.mp _=>ai
 |.clo _ _=>ai
 |_=>aj
def ku:List TV->Bool
 |[]=>ai
 |x::r=>x.isC&&ku r
def TV.cs (v:TV):Option (List TV):=match v with
 |.agg l=>if ku l then af l else ah
 |.f T x=>cellsOf 40 T x
 |x=>if x.isC then af [x] else ah
def k_ (i:Nat):Nat:=1<<<i
def iF (h:bh) (T:Ty):TV->Option (T.den×Nat)
 |.f _ v=>match wT T v with|some x=>af (x,0)|none=>ah
 |.emp=>(match T with|.sl _=>af ([],0)|_=>ah)
 |.nil=>(match T with|.sl _=>af ([],0)|_=>ah)
 |.row id=>match h.get id with
  |some (.rows _ _ S xs)=>(match wT (S:=.sl S) T xs with|some x=>af (x,k_ id)|none=>ah)
  |_=>ah
 |_=>ah
def eX (h:bh):Nat->(T:Ty)->List TV->Option (T.den×Nat×List TV)
 |0,_,_=>ah
 |n+1,.st t,l=>eX h n t l
 |n+1,.pr a b,l=>match eX h n a l with
  |some (x,m,r)=>(match eX h n b r with|some (y,m',I)=>af ((x,y),m|||m',I)|none=>ah)
  |none=>ah
 |_+1,.un,l=>af ((),0,l)
 |n+1,.ex,l=>match eX h n MO l with|some (x,m,r)=>af (dZ x,m,r)|none=>ah
 |n+1,.sm,l=>match eX h n Mo l with|some (x,m,r)=>af (nJ x,m,r)|none=>ah
 |_+1,.int k,l=>match l with|c::r=>(match iF h (.int k) c with|some (x,m)=>af (x,m,r)|none=>ah)|[]=>ah
 |_+1,.bool,l=>match l with|c::r=>(match iF h .bool c with|some (x,m)=>af (x,m,r)|none=>ah)|[]=>ah
 |_+1,.str,l=>match l with|c::r=>(match iF h .str c with|some (x,m)=>af (x,m,r)|none=>ah)|[]=>ah
 |_+1,.sl t,l=>match l with|c::r=>(match iF h (.sl t) c with|some (x,m)=>af (x,m,r)|none=>ah)|[]=>ah
def DQ (h:bh) (T:Ty) (v:TV):Option (T.den×Nat):=match v with
 |.agg l=>if T.one then ah else (match eX h 40 T l with|some (x,m,[])=>af (x,m)|_=>ah)
 |x=>iF h T x
def nX:Nat->(T:Ty)->T.den->Nat->Nat->Bool->Option TV
 |0,_,_,_,_,_=>ah
 |n+1,.st t,v,off,sz,ag=>if aC off 0&&aC sz t.size&&ag then af (.f (.st t) v) else nX n t v off sz ag
 |n+1,.pr a b,v,off,sz,ag=>if gi off a.size then nX n a v.1 off sz ag else nX n b v.2 (off-a.size) sz ag
 |_+1,.un,_,_,_,_=>ah
 |n+1,.ex,v,off,sz,ag=>if aC off 0&&aC sz 4&&ag then af (.f .ex v) else nX n MO (Nz v) off sz ag
 |n+1,.sm,v,off,sz,ag=>if aC off 0&&aC sz 11&&ag then af (.f .sm v) else nX n Mo (Ny v) off sz ag
 |_+1,.int k,v,off,sz,ag=>if aC off 0&&aC sz 1&& !ag then af (.f (.int k) v) else ah
 |_+1,.bool,v,off,sz,ag=>if aC off 0&&aC sz 1&& !ag then af (.f .bool v) else ah
 |_+1,.str,v,off,sz,ag=>if aC off 0&&aC sz 1&& !ag then af (.f .str v) else ah
 |_+1,.sl t,v,off,sz,ag=>if aC off 0&&aC sz 1&& !ag then af (.f (.sl t) v) else ah
def gP (h:bh) (x:TV):Nat->(T:Ty)->T.den->Nat->Nat->Option (T.den×Nat)
 |0,_,_,_,_=>ah
 |n+1,.st t,v,off,sz=>match (if aC off 0&&aC sz t.size then DQ h (.st t) x else ah) with
  |some y=>af y
  |none=>gP h x n t v off sz
 |n+1,.pr a b,v,off,sz=>if gi off a.size then (match gP h x n a v.1 off sz with|some (y,m)=>af ((y,v.2),m)|none=>ah) else (match gP h x n b v.2 (off-a.size) sz with|some (y,m)=>af ((v.1,y),m)|none=>ah)
 |_+1,.un,_,_,_=>ah
 |n+1,.ex,v,off,sz=>match (if aC off 0&&aC sz 4 then DQ h .ex x else ah) with
  |some y=>af y
  |none=>(match gP h x n MO (Nz v) off sz with|some (y,m)=>af (dZ y,m)|none=>ah)
 |n+1,.sm,v,off,sz=>match (if aC off 0&&aC sz 11 then DQ h .sm x else ah) with
  |some y=>af y
  |none=>(match gP h x n Mo (Ny v) off sz with|some (y,m)=>af (nJ y,m)|none=>ah)
 |_+1,.int k,_,off,sz=>if aC off 0&&aC sz 1 then iF h (.int k) x else ah
 |_+1,.bool,_,off,sz=>if aC off 0&&aC sz 1 then iF h .bool x else ah
 |_+1,.str,_,off,sz=>if aC off 0&&aC sz 1 then iF h .str x else ah
 |_+1,.sl t,_,off,sz=>if aC off 0&&aC sz 1 then iF h (.sl t) x else ah
def yO (h:bh) (T:Ty):Nat->List TV->Option (List T.den×Nat)
 |0,[]=>af ([],0)
 |0,_::_=>ah
 |n+1,l=>match eX h 40 T l with
  |some (x,m,r)=>(match yO h T n r with|some (xs,m')=>af (x::xs,m|||m')|none=>ah)
  |none=>ah
def sS:Ty->List Value
 |.int k=>[.int k 0]
 |.bool=>[.bool aj]
 |.str=>[.string ⟨#[]⟩]
 |.sl _=>[.slice ah 0 0]
 |.st t=>sS t
 |.pr a b=>sS a++sS b
 |.un=>[]
 |.ex=>[.int .i64 0,.int .i64 0,.string ⟨#[]⟩,.slice ah 0 0]
 |.sm=>[.int .i64 0,.int .i64 0,.string ⟨#[]⟩,.string ⟨#[]⟩,.slice ah 0 0,.int .i64 0,.int .i64 0,.string ⟨#[]⟩,.slice ah 0 0,.slice ah 0 0,.slice ah 0 0]
def Ss:List Value->List Value->Bool
 |[],[]=>ai
 |x::xs,y::I=>aiy x y&&Ss xs I
 |_,_=>aj
def Ty.flat:Ty->Bool
 |.int _=>ai
 |.bool=>ai
 |.str=>ai
 |.st t=>t.flat
 |.pr a b=>a.flat&&b.flat
 |.un=>ai
 |_=>aj
def qW:List TypeDesc->Option Ty
 |[]=>af .un
 |.int k::r=>match qW r with|some t=>af (.pr (.int k) t)|none=>ah
 |.bool::r=>match qW r with|some t=>af (.pr .bool t)|none=>ah
 |.string::r=>match qW r with|some t=>af (.pr .str t)|none=>ah
 |_=>ah
inductive PV where
 |d (T:Ty)
 |ptr (id off:Nat)
 |row (id:Nat)
 |csl (id sz n:Nat)
 |mp (id:Nat)
 |nil
 |emp
 |clo (q:FuncId) (id off:Nat)
 |agg (l:List PV)
inductive PB where
 |rows (ty:TypeId) (p:Bool) (T:Ty)
 |rowsP (ty:TypeId) (T:Ty)
 |cells (ty:TypeId) (l:List PV)
 |mp (K V:Ty)
 |gone
mutual
def PV.ty:PV->Ty
 |.d T=>T
 |.agg l=>PV.tyL l
 |.ptr _ _=>.un
 |.row _=>.un
 |.csl _ _ _=>.un
 |.clo _ _ _=>.un
 |.mp _=>.un
 |.nil=>.un
 |.emp=>.un
def PV.tyL:List PV->Ty
 |[]=>.un
 |p::r=>spr p.ty (PV.tyL r)
end
def PB.ty:PB->Ty
 |.rows _ _ T=>.sl T
 |.rowsP _ T=>.pr .bool (.sl T)
 |.cells _ l=>PV.tyL l
 |.mp K V=>.sl (.pr K V)
 |.gone=>.un
def PB.tyL:List PB->Ty
 |[]=>.un
 |p::r=>spr p.ty (PB.tyL r)
structure Tm where
 vs:List PV
 bs:List PB
def Tm.ty (t:Tm):Ty:=spr (PV.tyL t.vs) (PB.tyL t.bs)
mutual
def pm (g:Nat->Nat) (h:bh):(p:PV)->List TV->Option (p.ty.den×Nat×List TV)
 |.d T,l=>eX h 40 T l
 |.ptr i o,l=>match l with|.ptr i' o'::r=>if aC (g i) i'&&aC o o' then af ((),0,r) else ah|_=>ah
 |.row i,l=>match l with|.row i'::r=>if aC (g i) i' then af ((),0,r) else ah|_=>ah
 |.csl i s n,l=>match l with|.csl i' s' n'::r=>if aC (g i) i'&&aC s s'&&aC n n' then af ((),0,r) else ah|_=>ah
 |.clo q i o,l=>match l with|.clo q' [.ptr i' o']::r=>if aC q q'&&aC (g i) i'&&aC o o' then af ((),0,r) else ah|_=>ah
 |.mp i,l=>match l with|.mp i'::r=>if aC (g i) i' then af ((),0,r) else ah|_=>ah
 |.nil,l=>match l with|.nil::r=>af ((),0,r)|_=>ah
 |.emp,l=>match l with|.nil::r=>af ((),0,r)|.emp::r=>af ((),0,r)|_=>ah
 |.agg ps,l=>zh g h ps l
def zh (g:Nat->Nat) (h:bh):(ps:List PV)->List TV->Option ((PV.tyL ps).den×Nat×List TV)
 |[],l=>af ((),0,l)
 |p::r,l=>match pm g h p l with
  |some (x,m,l')=>(match zh g h r l' with|some (y,m',l'')=>af (Ub p.ty (PV.tyL r) x y,m|||m',l'')|none=>ah)
  |none=>ah
end
def xD (g:Nat->Nat) (h:bh):(p:PV)->TV->Option (p.ty.den×Nat)
 |.d T,v=>DQ h T v
 |.agg ps,v=>if v.isC then ah else (match v.cs with
  |some l=>(match zh g h ps l with|some (x,m,[])=>af (x,m)|_=>ah)
  |none=>ah)
 |.ptr i o,v=>match pm g h (.ptr i o) [v] with|some (x,m,_)=>af (x,m)|none=>ah
 |.row i,v=>match pm g h (.row i) [v] with|some (x,m,_)=>af (x,m)|none=>ah
 |.csl i s n,v=>match pm g h (.csl i s n) [v] with|some (x,m,_)=>af (x,m)|none=>ah
 |.clo q i o,v=>match pm g h (.clo q i o) [v] with|some (x,m,_)=>af (x,m)|none=>ah
 |.mp i,v=>match pm g h (.mp i) [v] with|some (x,m,_)=>af (x,m)|none=>ah
 |.nil,v=>match pm g h .nil [v] with|some (x,m,_)=>af (x,m)|none=>ah
 |.emp,v=>match pm g h .emp [v] with|some (x,m,_)=>af (x,m)|none=>ah
def ye (g:Nat->Nat) (h:bh):(ps:List PV)->List TV->Option ((PV.tyL ps).den×Nat)
 |[],[]=>af ((),0)
 |p::r,v::vs=>match xD g h p v with
  |some (x,m)=>(match ye g h r vs with|some (y,m')=>af (Ub p.ty (PV.tyL r) x y,m|||m')|none=>ah)
  |none=>ah
 |[],_::_=>ah
 |_::_,[]=>ah
def ER (g:Nat->Nat) (h:bh) (i:Nat):(b:PB)->Option (b.ty.den×Nat)
 |.rows ty p T=>match h.get (g i) with
  |some (.rows ty' I S xs)=>if ty==ty'&&p==I then (match wT (S:=.sl S) (.sl T) xs with|some x=>af (x,0)|none=>ah) else ah
  |_=>ah
 |.rowsP ty T=>match h.get (g i) with
  |some (.rows ty' I S xs)=>if ty==ty' then (match wT (S:=.sl S) (.sl T) xs with|some x=>af ((I,x),0)|none=>ah) else ah
  |_=>ah
 |.cells ty ps=>match h.get (g i) with
  |some (.cells ty' l)=>if ty==ty' then (match zh g h ps l with|some (x,m,[])=>af (x,m)|_=>ah) else ah
  |_=>ah
 |.mp K V=>match h.get (g i) with
  |some (.mp K' V' es)=>(match wT (S:=.sl (.pr K' V')) (.sl (.pr K V)) es with|some x=>af (x,0)|none=>ah)
  |_=>ah
 |.gone=>af ((),0)
def AM (g:Nat->Nat) (h:bh):Nat->(bs:List PB)->Option ((PB.tyL bs).den×Nat)
 |_,[]=>af ((),0)
 |i,b::r=>match ER g h i b with
  |some (x,m)=>(match AM g h (i+1) r with|some (y,m')=>af (Ub b.ty (PB.tyL r) x y,m|||m')|none=>ah)
  |none=>ah
mutual
def pP (g:Nat->Nat):(p:PV)->p.ty.den->Option (List TV)
 |.d T,x=>cellsOf 40 T x
 |.ptr i o,_=>af [.ptr (g i) o]
 |.row i,_=>af [.row (g i)]
 |.csl i s n,_=>af [.csl (g i) s n]
 |.mp i,_=>af [.mp (g i)]
 |.clo q i o,_=>af [.clo q [.ptr (g i) o]]
 |.nil,_=>af [.nil]
 |.emp,_=>af [.emp]
 |.agg ps,x=>qV g ps x
def qV (g:Nat->Nat):(ps:List PV)->(PV.tyL ps).den->Option (List TV)
 |[],_=>af []
 |p::r,x=>match pP g p (Oz p.ty (PV.tyL r) x) with
  |some a=>(match qV g r (K6 p.ty (PV.tyL r) x) with|some b=>af (a++b)|none=>ah)
  |none=>ah
end
def tj (g:Nat->Nat):(p:PV)->p.ty.den->Option TV
 |.d T,x=>af (.f T x)
 |.ptr i o,_=>af (.ptr (g i) o)
 |.row i,_=>af (.row (g i))
 |.csl i s n,_=>af (.csl (g i) s n)
 |.mp i,_=>af (.mp (g i))
 |.clo q i o,_=>af (.clo q [.ptr (g i) o])
 |.nil,_=>af .nil
 |.emp,_=>af .emp
 |.agg ps,x=>match qV g ps x with|some l=>af (.agg l)|none=>ah
def pY (g:Nat->Nat):(ps:List PV)->(PV.tyL ps).den->Option (List TV)
 |[],_=>af []
 |p::r,x=>match tj g p (Oz p.ty (PV.tyL r) x) with
  |some a=>(match pY g r (K6 p.ty (PV.tyL r) x) with|some b=>af (a::b)|none=>ah)
  |none=>ah
def CF (g:Nat->Nat):(b:PB)->b.ty.den->Option (Option io)
 |.rows ty p T,x=>af (af (.rows ty p T x))
 |.rowsP ty T,x=>af (af (.rows ty x.1 T x.2))
 |.cells ty ps,x=>match qV g ps x with|some l=>af (af (.cells ty l))|none=>ah
 |.mp K V,x=>af (af (.mp K V x))
 |.gone,_=>af ah
def vk:io->io
 |.rows _ p T xs=>.dead p T.size xs.length
 |.cells _ _=>.dead ai 0 0
 |.mp _ _ _=>.dead ai 0 0
 |.dead p sz n=>.dead p sz n
def kill (h:bh) (i:Nat):bh:=match h.get i with
 |some b=>h.set i (af (vk b))
 |none=>h
def ov (g:Nat->Nat):(bs:List PB)->(PB.tyL bs).den->Option (List (Option io))
 |[],_=>af []
 |b::r,x=>match CF g b (Oz b.ty (PB.tyL r) x) with
  |some c=>(match ov g r (K6 b.ty (PB.tyL r) x) with|some l=>af (c::l)|none=>ah)
  |none=>ah
def Av (g:Nat->Nat):Nat->List (Option io)->bh->bh
 |_,[],h=>h
 |i,af c::r,h=>Av g (i+1) r (h.set (g i) (af c))
 |i,ah::r,h=>Av g (i+1) r (kill h (g i))
def Ms (g:Nat->Nat) (bs:List PB) (x:(PB.tyL bs).den) (h:bh):Option bh:=match ov g bs x with
 |some l=>af (Av g 0 l h)
 |none=>ah
def Qt {K V:Ty} (k:K.den):List (K.den×V.den)->Option V.den
 |[]=>ah
 |(k',v)::r=>if PD K k k' then af v else Qt k r
def N0 {K V:Ty} (k:K.den) (v:V.den):List (K.den×V.den)->List (K.den×V.den)
 |[]=>[(k,v)]
 |(k',I)::r=>if PD K k k' then (k,v)::r else (k',I)::N0 k v r
def It {K V:Ty} (k:K.den) (es:List (K.den×V.den)) (z:V.den):V.den:=match Qt k es with|some v=>v|none=>z
def alj (T:Ty):Nat->Ty
 |0=>.un
 |1=>T
 |n+2=>.pr T (alj T (n+1))
def kwT:Ty:=.st (alj .str 22)
def kwV:kwT.den:=([118,97,114],[118,111,108,97,116,105,108,101],[109,117,116,101,120],[114,119,108,111,99,107],[99,111,110,100],[102,117,116,117,114,101],[116,104,114,101,97,100],[105,102],[101,108,115,101],[119,104,105,108,101],[108,111,99,107],[114,101,97,100],[119,114,105,116,101],[116,114,97,110,115,97,99,116,105,111,110],[97,116,111,109,105,99],[119,97,105,116],[110,111,116,105,102,121],[110,111,116,105,102,121,97,108,108],[115,112,97,119,110],[106,111,105,110],[115,101,116],[103,101,116])
@[simp] theorem cU {R:Type} (t f:Option R):bcase ai t f=t:=Eq.trans rfl rfl
@[simp] theorem cN {R:Type} (t f:Option R):bcase aj t f=f:=Eq.trans rfl rfl
@[simp] theorem chk_t {R:Type} (k:ai=ai->Option R):chk ai k=k rfl:=Eq.trans rfl rfl
theorem cj {R:Type} {b:Bool} (h:b=ai) (k:Option R):chk b (λ_=>k)=k:=by cases b with|true=>rfl|false=>cases h
@[simp] theorem cJ {α R:Type} (x:α) (k:α->Option R):obind (af x) k=k x:=Eq.trans rfl rfl
@[simp] theorem jb {α R:Type} (x:α) (k:α->Option R):jn (af (.inr x)) k=k x:=Eq.trans rfl rfl
@[simp] theorem jn_l {α R:Type} (r:R) (k:α->Option R):jn (af (.inl r)) k=af r:=Eq.trans rfl rfl
theorem aec {σ R:Type} {f:σ->Option (σ⊕R)} {n:Nat} {x:σ} {r:R} (h:iterN f n x=af r) (hn:n<=18446744073709551616):fH f x=af r:=yZ h hn
theorem sk {σ R:Type} {f:σ->Option (σ⊕R)} (n:Nat) (hn:n<18446744073709551616) (st:Nat->σ) {r:R} (h0:∀ i,i<n->f (st i)=af (.inl (st (i+1)))) (h1:f (st n)=af (.inr r)):fH f (st 0)=af r:=by
 have key:∀ k i,i+k=n->iterN f (k+1) (st i)=af r:=by
  intro k;induction k with
  |zero=>intro i hi;have:i=n:=by omega
         subst this;simp only[iterN,h1]
  |succ k I=>intro i hi;rw[iterN,h0 i (by omega)];exact I (i+1) (by omega)
 exact aec (key n 0 (by omega)) (by omega)
@[simp] theorem aau {a b:Int}:c7 a b=ai↔a<=b:=by unfold c7;simp
@[simp] theorem aat {a b:Int}:fO a b=ai↔a<b:=by unfold fO;simp
theorem qr {a b:Int} (h:a<=b):c7 a b=ai:=aau.2 h
theorem sV {a b:Int} (h:a<b):fO a b=ai:=aat.2 h
theorem MF {a b:Int} (h:b<a):c7 a b=aj:=by unfold c7;simp;omega
theorem sW {a b:Int} (h:b<=a):fO a b=aj:=by unfold fO;simp;omega
theorem alq {j:Int} {n:Nat} (h0:0<=j) (h1:j<n):fe j n=ai:=by unfold fe;rw[qr h0,sV h1];rfl
theorem cS {j n:Nat} (h1:j<n):fe (j:Int) n=ai:=alq (by omega) (by omega)
theorem s_ {n b:Nat} (h0:n<=1099511627776) (h1:n*b<=1099511627776):a_ n b=ai:=by
 unfold a_;rw[bI h0,bI h1];rfl
theorem ZM {n:Int} (h0: -9223372036854775808<=n) (h1:n<=9223372036854775807):bk .i64 n=n:=by
 rw[Hr];unfold Mg;simp only[];rw[qr h0,qr h1];rfl
theorem nA {i n:Nat} (h:i<n) (hn:n<=1099511627776):bk .i64 ((i:Int)+1)=((i+1:Nat):Int):=by
 rw[ZM (by omega) (by omega)];omega
theorem ur (a b:Nat):ik (aO a) (aO b)=((max a b:Nat):Int):=by
 unfold ik;by_cases h:a<b
 .rw[sV (by simp;omega),aF rfl];simp;omega
 .rw[sW (by simp;omega)];simp;omega
theorem sr {T:Ty} (xs:List T.den) (i:Nat):aJ xs (i:Int)=xs.getD i T.zero:=by unfold aJ;simp
theorem qA (xs:List (List Int)) (i:Nat):aJ (T:=.sl (.int .i64)) xs (i:Int)=xs.getD i []:=sr (T:=.sl (.int .i64)) xs i
theorem aij (xs:List Int) (i:Nat):aJ (T:=.int .i64) xs (i:Int)=xs.getD i 0:=sr (T:=.int .i64) xs i
theorem gf {α:Type} (xs:List α) (i:Nat) (x:α):cQ xs (i:Int) x=xs.set i x:=by unfold cQ;simp
structure cf where
 pre:Tm
 post:Tm
 m:pre.ty.den->Option post.ty.den
mutual
def aha:PV->List TV->PT Nat->PT Nat×List TV
 |.d T,l,σ=>(σ,l.drop T.size)
 |.ptr i _,l,σ=>match l with|.ptr a _::r=>(σ.set i (af a),r)|l=>(σ,l.drop 1)
 |.row i,l,σ=>match l with|.row a::r=>(σ.set i (af a),r)|l=>(σ,l.drop 1)
 |.csl i _ _,l,σ=>match l with|.csl a _ _::r=>(σ.set i (af a),r)|l=>(σ,l.drop 1)
 |.mp i,l,σ=>match l with|.mp a::r=>(σ.set i (af a),r)|l=>(σ,l.drop 1)
 |.clo _ i _,l,σ=>match l with|.clo _ [.ptr a _]::r=>(σ.set i (af a),r)|l=>(σ,l.drop 1)
 |.nil,l,σ=>(σ,l.drop 1)
 |.emp,l,σ=>(σ,l.drop 1)
 |.agg ps,l,σ=>VK ps l σ
def VK:List PV->List TV->PT Nat->PT Nat×List TV
 |[],l,σ=>(σ,l)
 |p::r,l,σ=>match aha p l σ with|(σ',l')=>VK r l' σ'
end
def amd (p:PV) (v:TV) (σ:PT Nat):PT Nat:=match p with
 |.d _=>σ
 |p=>match v.cs with|some l=>(aha p l σ).1|none=>σ
def ac1:List PV->List TV->PT Nat->PT Nat
 |p::r,v::vs,σ=>ac1 r vs (amd p v σ)
 |_,_,σ=>σ
def VM (h:bh):Nat->List PB->PT Nat->PT Nat
 |_,[],σ=>σ
 |i,b::r,σ=>VM h (i+1) r (match b with
  |.cells _ ps=>(match σ.get i with
   |some a=>(match h.get a with|some (.cells _ l)=>(VK ps l σ).1|_=>σ)
   |none=>σ)
  |_=>σ)
def h_ (σ:PT Nat) (i:Nat):Nat:=match σ.get i with|some a=>a|none=>0
def Z3 (σ:PT Nat):Nat->Nat->Nat->Option Nat
 |0,_,acc=>af acc
 |n+1,i,acc=>match σ.get i with
  |some a=>if aN acc a then ah else Z3 σ n (i+1) (acc|||k_ a)
  |none=>ah
def idn:Nat->PT Nat
 |0=>.leaf
 |n+1=>(idn n).set n (af n)
def W3 (σ:PT Nat):Nat->Bool
 |0=>ai
 |n+1=>(match σ.get n with|some a=>aC a n|none=>aj)&&W3 σ n
structure ahn (t:Tm) where
 x:t.ty.den
 m:Nat
 σ:PT Nat
 sm:Nat
def Es (np:Nat) (t:Tm) (vs:List TV) (h:bh):Option (ahn t):=
 Re (VM h 0 t.bs (VM h 0 t.bs (ac1 t.vs vs (idn np)))) λσ=>
 match Z3 σ t.bs.length 0 0 with
 |some sm=>(match ye (h_ σ) h t.vs vs with
  |some (x,m)=>(match AM (h_ σ) h 0 t.bs with
   |some (y,m')=>if DB (m|||m') sm&&W3 σ np then af ⟨Ub _ _ x y,m|||m',σ,sm⟩ else ah
   |none=>ah)
  |none=>ah)
 |none=>ah
def PT.updI {α:Type} (f:Nat->α->α):Nat->Nat->PT α->PT α
 |_,_,.leaf=>.leaf
 |a,b,.node v l r=>.node (match v with|some x=>af (f b x)|none=>ah) (PT.updI f (2*a) (a+b) l) (PT.updI f (2*a) (2*a+b) r)
def eM (m:Nat) (h:bh):bh:=if aC m 0 then h else PT.updI (λi b=>if aN m i then vk b else b) 1 0 h
def Ui:Operand->Bool
 |.const (.agg _)=>ai
 |_=>aj
def fJ (e:iJ):Operand->Option TV
 |.tmp t=>e.get t
 |.const v=>aip v
 |.func g=>af (.clo g [])
 |.global g=>match G g with|some _=>af (.fel kwT [kwV] 0 (Eq.refl ai) 0)|none=>ah
def Fx (e:iJ):List Operand->Option (List TV)
 |[]=>af []
 |x::xs=>match fJ e x with|some y=>(match Fx e xs with|some I=>af (y::I)|none=>ah)|none=>ah
def Jj (cells:List TV) (e:iJ):List (Nat×Nat×Operand)->Option (List TV)
 |[]=>af cells
 |(off,sz,x)::r=>match fJ e x with
  |some v=>(match v.cs with
   |some cs=>if cs.length==sz&&eJ (off+sz) cells.length then Jj (splice cells off cs) e r else ah
   |none=>ah)
  |none=>ah
def TE (l:List TV) (off sz:Nat):Bool->Option TV
 |false=>if aC sz 1 then l[off]? else ah
 |true=>if eJ (off+sz) l.length then af (.agg ((l.drop off).take sz)) else ah
def eC (h:bh) (id:Nat):Option (Bool×Nat×Nat):=match h.get id with
 |some (.rows _ p T xs)=>af (p,T.size,xs.length)
 |some (.dead p sz n)=>af (p,sz,n)
 |_=>ah
def lenOf (h:bh):TV->Option Nat
 |.f (.sl _) xs=>af (al xs)
 |.emp=>af 0
 |.nil=>af 0
 |.row id=>match eC h id with|some (_,_,n)=>af n|none=>ah
 |.csl _ _ n=>af n
 |_=>ah
mutual
def Ld (h:bh):TV->Bool
 |.row id=>(eC h id).isSome
 |.rtl id _=>(eC h id).isSome
 |.agg l=>kO h l
 |.tup l=>kO h l
 |.clo _ l=>kO h l
 |.f _ _=>ai
 |.fel _ _ _ _ _=>ai
 |.pel _ _ _ _=>ai
 |.ptr _ _=>ai
 |.csl _ _ _=>ai
 |.emp=>ai
 |.nil=>ai
 |.mp _=>ai
 |.undef=>ai
 |.np=>ai
 |.anyb=>ai
def kO (h:bh):List TV->Bool
 |[]=>ai
 |x::r=>Ld h x&&kO h r
end
mutual
def Lg (n:Nat):TV->Bool
 |.row id=>gi id n
 |.rtl id _=>gi id n
 |.pel id _ _ _=>gi id n
 |.ptr id _=>gi id n
 |.csl id _ _=>gi id n
 |.mp id=>gi id n
 |.agg l=>rB n l
 |.tup l=>rB n l
 |.clo _ l=>rB n l
 |.f _ _=>ai
 |.fel _ _ _ _ _=>ai
 |.emp=>ai
 |.nil=>ai
 |.undef=>ai
 |.np=>ai
 |.anyb=>ai
def rB (n:Nat):List TV->Bool
 |[]=>ai
 |x::r=>Lg n x&&rB n r
end
def CW (t:Tm) (x:t.ty.den):Option (List TV×bh):=
 match pY (λi=>i) t.vs (Oz _ _ x) with
 |some vs=>(match Ms (λi=>i) t.bs (K6 _ _ x) PT.leaf with
  |some h=>if kO h vs&&rB t.bs.length vs&&PT.all (λ_ b=>match b with|.cells _ l=>kO h l&&rB t.bs.length l|_=>ai) 1 0 h then af (vs,h) else ah
  |none=>ah)
 |none=>ah
abbrev KO (R:Type):=TV->Nat->Nat->bh->Nat->Option R
def Qa:List TV->TV
 |[x]=>x
 |l=>.tup l
def BH:List PB->Bool
 |[]=>ai
 |.gone::_=>aj
 |_::r=>BH r
def HQ:List PB->Bool
 |[]=>ai
 |.rows _ _ _::r=>HQ r
 |_::_=>aj
def t7 (h h2:bh) (g:Nat->Nat):Nat->Bool
 |0=>ai
 |n+1=>(match eC h (g n) with
  |some (p,s,k)=>(match eC h2 (g n) with|some (I,s',k')=>(p==I)&&aC s s'&&aC k k'|none=>aj)
  |none=>ai)&&t7 h h2 g n
def Xm {R:Type} (con:FuncId->Option cf) (f:FuncId) (l:List TV) (h:bh) (nx:Nat) (K:KO R):Option R:=
 match con f with
 |some c=>(match Es 0 c.pre l h with
  |some ⟨x,m,σ,sm⟩=>(match CW c.pre x with
   |some _=>obind (c.m x) λy=>(match CW c.post y with
    |some _=>if eJ c.pre.bs.length c.post.bs.length&&BH c.pre.bs then
      let np:=c.pre.bs.length
      let I:=c.post.bs.length-np
      let g:=λi=>if gi i np then h_ σ i else nx+(i-np)
      (match pY g c.post.vs (Oz _ _ y) with
      |some rs=>if !(aC m 0)&&aC c.post.bs.length 0&&(PV.tyL c.post.vs).flat then K (Qa rs) m 0 h nx else
       (match Ms g c.post.bs (K6 _ _ y) (eM m h) with
       |some h2=>chk (t7 h h2 g np) λ_=>K (Qa rs) (sm|||m) (sm|||m|||(((1<<<I)-1)<<<nx)) h2 (nx+I)
       |none=>ah)
      |none=>ah) else if aC c.post.bs.length 0&&HQ c.pre.bs then
      let np:=c.pre.bs.length
      let g:=λi=>if gi i np then h_ σ i else nx+(i-np)
      (match pY g c.post.vs (Oz _ _ y) with
      |some rs=>(match Ms g c.pre.bs (K6 _ _ x) (eM m h) with
       |some h2=>K (Qa rs) (sm|||m) m h2 nx
       |none=>ah)
      |none=>ah) else ah
    |none=>ah)
   |none=>ah)
  |none=>ah)
 |none=>ah
def aiw {R:Type} (op:BinOp) (x y:TV) (q:TV->Option R):Option R:=
 match x,y with
 |.f (.int k) a,.f (.int k') b=>if k==k' then
   (match op with
   |.add=>q (.f (.int k) (bk k (a+b)))
   |.sub=>q (.f (.int k) (bk k (a-b)))
   |.mul=>q (.f (.int k) (bk k (a*b)))
   |.rem=>chk (!decide ((b:Int)=0)) λ_=>q (.f (.int k) (zY a b))
   |.quo=>chk (!decide ((b:Int)=0)) λ_=>q (.f (.int k) (bk k (Int.tdiv a b)))
   |.eql=>q (.f .bool (decide ((a:Int)=b)))
   |.neq=>q (.f .bool (!decide ((a:Int)=b)))
   |.lss=>q (.f .bool (fO a b))
   |.leq=>q (.f .bool (c7 a b))
   |.gtr=>q (.f .bool (fO b a))
   |.geq=>q (.f .bool (c7 b a))
   |_=>ah)
  else ah
 |.f .str a,.f .str b=>match op with
   |.eql=>q (.f .bool (decide ((a:List UInt8)=b)))
   |.neq=>q (.f .bool (!decide ((a:List UInt8)=b)))
   |_=>ah
 |_,_=>ah
def XX:Bool->Ty->Bool
 |false,.int _=>ai
 |true,.str=>ai
 |_,_=>aj
abbrev itK:Ty:=.st (.pr .str (.int .i64))
def isIt:Ty->Bool
 |.st (.pr .str (.int .i64))=>ai
 |_=>aj
def T_ (K:Ty):Bool:= !isIt K
def PC:List ((List UInt8×Int)×Unit)->List UInt8
 |[]=>[]
 |e::_=>e.1.1
def N8:List ((List UInt8×Int)×Unit)->Nat
 |[]=>0
 |e::_=>aT e.1.2
def itE:(K V:Ty)->List (K.den×V.den)->Option (List UInt8×Nat)
 |.st (.pr .str (.int .i64)),.un,es=>af (PC es,N8 es)
 |_,_,_=>ah
def mpE:(K V:Ty)->List (K.den×V.den)->Bool
 |.un,.un,[]=>ai
 |_,_,_=>aj
def yH (T:Ty):List TV->Option (List T.den)
 |[]=>af []
 |.f S v::r=>match wT (S:=S) T v with
  |some x=>(match yH T r with|some l=>af (x::l)|none=>ah)
  |none=>ah
 |_::_=>ah
def ac5:List TV->Option ((T:Ty)×List T.den)
 |.f T v::r=>match yH T (.f T v::r) with|some l=>af ⟨T,l⟩|none=>ah
 |_=>ah
def als (n sz:Nat) (v:TV):Bool->Option ((T:Ty)×List T.den)
 |true=>ah
 |false=>if aC sz 1&& !v.isC then (match v.cs with|some l=>if aC l.length n then ac5 l else ah|none=>ah) else ah
def arrB (n sz off:Nat):Option io->Option ((T:Ty)×List T.den)
 |some (.cells _ l)=>if aC sz 1&&aC off 0&&aC l.length n then ac5 l else ah
 |_=>ah
def ah3:Ty->Nat
 |.pr .un t=>ah3 t+1
 |_=>0
def DJ:Option Ty->Option Nat
 |some (.pr .un t)=>af (ah3 t)
 |_=>ah
def ah7 {R:Type} (ty:TypeId) (sz bytes:Nat) (b y:TV) (h:bh) (nx:Nat) (K:KO R):Option R:=match y with
 |.csl id2 sz2 m=>(match h.get id2 with
  |some (.cells _ l2)=>if aC sz2 sz&&aC l2.length (m*sz)&& !(aC m 0) then (match b with
   |.csl id sz1 n=>(match h.get id with
    |some (.cells ty1 l)=>if aC sz1 sz&&ty1==ty&&aC l.length (n*sz)&& !(aC id id2) then
      chk (a_ (n+m) bytes) λ_=>K (.csl nx sz (n+m)) (k_ id|||k_ id2) (k_ id|||k_ nx) ((h.set id (af (.dead ai 0 0))).set nx (af (.cells ty (l++l2)))) (nx+1) else ah
    |_=>ah)
   |.nil=>chk (a_ m bytes) λ_=>K (.csl nx sz m) (k_ id2) (0|||k_ nx) ((eM 0 h).set nx (af (.cells ty l2))) (nx+1)
   |_=>ah) else ah
  |_=>ah)
 |_=>ah
def dV {R:Type} (con:FuncId->Option cf) (bV:TypeId->Option Ty) (o:SI) (e:iJ) (h:bh) (nx:Nat) (K:KO R):Option R:=
 match o with
 |.call f args=>match Fx e args with|some l=>Xm con f l h nx K|none=>ah
 |.callv x args=>match fJ e x,Fx e args with
  |some (.clo f cap),af l=>Xm con f (l++cap) h nx K
  |_,_=>ah
 |.op s=>match s with
  |.mksl ty sz bytes z l c=>match DJ (bV ty) with
   |some n=>(match J7 z,fJ e l,fJ e c with
    |some J,af (.f (.int _) a),af (.f (.int _) b)=>chk (c7 0 a&&c7 a b&&a_ (aT b) bytes&&decide ((a:Int)=aO n)) λ_=>K (.csl nx sz n) 0 (0|||k_ nx) ((eM 0 h).set nx (af (.cells ty (aG n J).flatten))) (nx+1)
    |_,_,_=>ah)
   |none=>match bV ty,fJ e l,fJ e c with
   |some T,af (.f (.int _) a),af (.f (.int _) b)=>if aC sz T.size&&Ss z (sS T) then
     chk (c7 0 a&&c7 a b&&a_ (aT b) bytes) λ_=>K (.row nx) 0 (k_ nx) (h.set nx (af (.rows ty aj T (aG (aT a) T.zero)))) (nx+1) else ah
   |_,_,_=>ah
  |.bsl ty sz len z parts=>match DJ (bV ty) with
   |some _=>(match J7 z with
    |some J=>(match Jj ((aG len J).flatten) e parts with
     |some cs=>if aC len 0 then ah else K (.csl nx sz len) 0 (0|||k_ nx) ((eM 0 h).set nx (af (.cells ty cs))) (nx+1)
     |none=>ah)
    |none=>ah)
   |none=>match bV ty,J7 z with
   |some T,af J=>if aC sz T.size then (match Jj ((aG len J).flatten) e parts with
    |some cs=>(match yO h T len cs with
     |some (xs,m)=>K (.row nx) m (m|||k_ nx) ((eM m h).set nx (af (.rows ty (aC len 0) T xs))) (nx+1)
     |none=>ah)
    |none=>ah) else ah
   |_,_=>ah
  |.app ty sz bytes s x=>match DJ (bV ty) with
   |some _=>(match fJ e s,fJ e x with
    |some b,af y=>ah7 ty sz bytes b y h nx K
    |_,_=>ah)
   |none=>match bV ty,fJ e s,fJ e x with
   |some T,af b,af y=>if aC sz T.size then (match DQ h (.sl T) y with
    |some (I,m)=>(match b with
     |.row id=>(match h.get id with
      |some (.rows ty' p S xs)=>(match wT (S:=.sl S) (.sl T) xs with
       |some xs=>if ty'==ty&& !(aN m id) then
         chk (a_ (al xs+al I) bytes) λ_=>K (.row nx) (k_ id|||m) (k_ id|||k_ nx) ((h.set id (af (.dead p sz (al xs)))).set nx (af (.rows ty p T (xs++I)))) (nx+1)
        else ah
       |none=>ah)
      |_=>ah)
     |.emp=>chk (a_ (al I) bytes) λ_=>K (.row nx) m (k_ nx) (h.set nx (af (.rows ty ai T I))) (nx+1)
     |.nil=>chk (a_ (al I) bytes) λ_=>K (.row nx) m (k_ nx) (h.set nx (af (.rows ty ai T I))) (nx+1)
     |_=>ah)
    |none=>ah) else ah
   |_,_,_=>ah
  |.copy sz d x=>match fJ e d,fJ e x with
   |some (.row id),af y=>(match h.get id with
    |some (.rows ty p T xs)=>if aC sz T.size then (match DQ h (.sl T) y with
     |some (I,m)=>if !(aN m id)&& !p then
       K (.f (.int .i64) (aO (iN (al I) (al xs)))) (k_ id|||m) (k_ id) (h.set id (af (.rows ty p T (Ts xs I)))) nx else ah
     |none=>ah) else ah
    |_=>ah)
   |_,_=>ah
  |.clr sz z x=>match fJ e x with
   |some (.rtl id j)=>(match h.get id with
    |some (.rows ty p T xs)=>if (aC sz T.size&&Ss z (sS T))&&mA z then
      chk (c7 0 j&&fO j (al xs)) λ_=>K (.tup []) (k_ id) (0|||k_ id) ((eM 0 h).set id (af (.rows ty p T (dO (aT j) xs++aG (al xs-aT j) T.zero)))) nx
     else ah
    |_=>ah)
   |_=>ah
  |.mv x=>match fJ e x with|some v=>K v 0 0 h nx|none=>ah
  |.pick c a b=>match fJ e c with
   |some (.f .bool t)=>bcase t (match fJ e a with|some v=>K v 0 0 h nx|none=>ah) (match fJ e b with|some v=>K v 0 0 h nx|none=>ah)
   |_=>ah
  |.alloc ty z=>match J7 z with
   |some l=>K (.ptr nx 0) 0 (k_ nx) (h.set nx (af (.cells ty l))) (nx+1)
   |none=>ah
  |.box ty x=>match fJ e x with
   |some v=>(match v.cs with|some l=>K (.ptr nx 0) 0 (k_ nx) (h.set nx (af (.cells ty l))) (nx+1)|none=>ah)
   |none=>ah
  |.build z parts=>match J7 z with
   |some l=>(match Jj l e parts with|some cs=>K (.agg cs) 0 0 h nx|none=>ah)
   |none=>ah
  |.load sz ag x=>match fJ e x with
   |some (.ptr id off)=>(match h.get id with
    |some (.cells _ l)=>(match TE l off sz ag with|some v=>K v (k_ id) 0 h nx|none=>ah)
    |_=>ah)
   |some (.pel id sz' j off)=>(match h.get id with
    |some (.rows _ _ T xs)=>if aC sz' T.size then chk (fe j xs.length) λ_=>(match nX 40 T (aJ xs j) off sz ag with|some v=>K v (k_ id) 0 h nx|none=>ah) else ah
    |some (.cells _ l)=>(match ag with
     |true=>ah
     |false=>if aC sz 1&&aC sz' 1&&aC off 0 then (match ac5 l with
      |some ⟨T,xs⟩=>chk (fe j l.length) λ_=>K (.f T (aJ xs j)) (k_ id) 0 h nx
      |none=>ah) else ah)
    |_=>ah)
   |some (.fel T xs j _ off)=>(match nX 40 T (aJ xs j) off sz ag with|some v=>K v 0 0 h nx|none=>ah)
   |_=>ah
  |.store sz x v=>match fJ e x,fJ e v with
   |some (.ptr id off),af y=>(match h.get id with
    |some (.cells ty l)=>(match y.cs with
     |some cs=>if cs.length==sz&&eJ (off+sz) l.length then K .undef (k_ id) (k_ id) (h.set id (af (.cells ty (splice l off cs)))) nx else ah
     |none=>ah)
    |_=>ah)
   |some (.pel id sz' j off),af y=>(match h.get id with
    |some (.rows ty p T xs)=>if aC sz' T.size then chk (fe j xs.length) λ_=>(match gP h y 40 T (aJ xs j) off sz with
     |some (z,m)=>if aN m id then ah else K .undef (m|||k_ id) (m|||k_ id) ((eM m h).set id (af (.rows ty p T (cQ xs j z)))) nx
     |none=>ah) else ah
    |_=>ah)
   |_,_=>ah
  |.nilc x=>match fJ e x with
   |some (.ptr id off)=>K (.ptr id off) 0 0 h nx
   |some (.pel id sz j off)=>K (.pel id sz j off) 0 0 h nx
   |some (.fel T xs j hj off)=>K (.fel T xs j hj off) 0 0 h nx
   |some (.clo g cap)=>K (.clo g cap) 0 0 h nx
   |_=>ah
  |.bin op x y=>match fJ e x,fJ e y with
   |some u,af v=>aiw op u v λr=>K r 0 0 h nx
   |_,_=>ah
  |.eqs neg ds x y=>match qW ds,fJ e x,fJ e y with
   |some T,af u,af v=>if u.isC||v.isC||Ui x||Ui y then ah else (match u.cs,v.cs with
    |some lu,af lv=>(match eX PT.leaf 40 T lu,eX PT.leaf 40 T lv with
     |some (a,_,[]),af (b,_,[])=>K (.f .bool (PD T a b !=neg)) 0 0 h nx
     |_,_=>ah)
    |_,_=>ah)
   |_,_,_=>ah
  |.isnil neg x=>match fJ e x with
   |some .nil=>K (.f .bool (!neg)) 0 0 h nx
   |some .emp=>K .anyb 0 0 h nx
   |some (.f (.sl _) xs)=>bcase (aC (al xs) 0) (K .anyb 0 0 h nx) (K (.f .bool neg) 0 0 h nx)
   |some (.row id)=>(match h.get id with
    |some (.rows _ aj _ _)=>K (.f .bool neg) 0 0 h nx
    |_=>ah)
   |_=>ah
  |.eqb neg x y=>match fJ e x,fJ e y with
   |some (.f .bool a),af (.f .bool b)=>K (.f .bool ((a==b) !=neg)) 0 0 h nx
   |_,_=>ah
  |.not x=>match fJ e x with|some (.f .bool b)=>K (.f .bool (!b)) 0 0 h nx|_=>ah
  |.conv k x=>match fJ e x with|some (.f (.int _) n)=>K (.f (.int k) (bk k n)) 0 0 h nx|_=>ah
  |.slc sz x lo hi mx=>match fJ e x with
   |some v=>(match lo,hi,mx with
    |none,af (.const (.int _ 0)),af (.const (.int _ 0))=>if (lenOf h v).isSome then K .emp 0 0 h nx else ah
    |none,af b,ah=>(match v,fJ e b with
     |.f (.sl T) xs,af (.f (.int _) j)=>if aC sz T.size then chk (c7 0 j&&c7 j (al xs)) λ_=>K (.f (.sl T) (dO (aT j) xs)) 0 0 h nx else ah
     |.row id,af (.f (.int _) j)=>(match h.get id with
      |some (.rows ty p T xs)=>if aC sz T.size then
        chk (c7 0 j&&fO j (al xs)) λ_=>K (.row nx) (k_ id) (k_ id|||k_ nx) ((h.set id (af (.dead p sz (al xs)))).set nx (af (.rows ty aj T (dO (aT j) xs)))) (nx+1)
       else ah
      |_=>ah)
     |_,_=>ah)
    |some b,ah,ah=>(match v,fJ e b with
     |.f (.sl T) xs,af (.f (.int _) j)=>if aC sz T.size then chk (c7 0 j&&c7 j (al xs)) λ_=>K (.f (.sl T) (List.drop (aT j) xs)) 0 0 h nx else ah
     |.row id,af (.f (.int _) j)=>(match h.get id with
      |some (.rows _ _ T xs)=>if aC sz T.size then chk (c7 0 j&&fO j (al xs)) λ_=>K (.rtl id j) 0 0 h nx else ah
      |_=>ah)
     |_,_=>ah)
    |_,_,_=>ah)
   |none=>ah
  |.fad off x=>match fJ e x with
   |some (.ptr id o)=>K (.ptr id (o+off)) 0 0 h nx
   |some (.pel id sz j o)=>K (.pel id sz j (o+off)) 0 0 h nx
   |some (.fel T xs j hj o)=>K (.fel T xs j hj (o+off)) 0 0 h nx
   |_=>ah
  |.fld off sz ag x=>match fJ e x with
   |some (.agg l)=>(match TE l off sz ag with|some v=>K v 0 0 h nx|none=>ah)
   |some (.f T v)=>if T.one then ah else (match nX 40 T v off sz ag with|some v=>K v 0 0 h nx|none=>ah)
   |_=>ah
  |.iad sz x i=>match fJ e x,fJ e i with
   |some (.row id),af (.f (.int _) j)=>(match h.get id with
    |some (.rows _ _ T xs)=>if aC sz T.size then chk (fe j xs.length) λ_=>K (.pel id sz j 0) 0 0 h nx else ah
    |_=>ah)
   |some (.f (.sl T) xs),af (.f (.int _) j)=>if aC sz T.size then chk (fe j (al xs)) λhj=>K (.fel T xs j hj 0) 0 0 h nx else ah
   |some (.csl id sz' n),af (.f (.int _) j)=>if aC sz' sz then chk (c7 0 j&&fO j n) λ_=>K (.ptr id (aT j*sz)) 0 0 h nx else ah
   |_,_=>ah
  |.iada n sz x i=>match fJ e x,fJ e i with
   |some (.ptr id off),af (.f (.int _) j)=>(match arrB n sz off (h.get id) with
    |some _=>chk (c7 0 j&&fO j n) λ_=>K (.pel id sz j off) 0 0 h nx
    |none=>chk (c7 0 j&&fO j n) λ_=>K (.ptr id (off+aT j*sz)) 0 0 h nx)
   |_,_=>ah
  |.idx n sz ag x i=>match fJ e x,fJ e i with
   |some v,af (.f (.int _) j)=>(match als n sz v ag with
    |some ⟨T,xs⟩=>chk (c7 0 j&&fO j n) λ_=>K (.f T (aJ xs j)) 0 0 h nx
    |none=>(match v with
     |.agg l=>chk (c7 0 j&&fO j n) λ_=>(match TE l (aT j*sz) sz ag with|some v=>K v 0 0 h nx|none=>ah)
     |.f T v=>if T.one then ah else chk (c7 0 j&&fO j n) λ_=>(match nX 40 T v (aT j*sz) sz ag with|some v=>K v 0 0 h nx|none=>ah)
     |_=>ah))
   |_,_=>ah
  |.ext x i=>match fJ e x with|some (.tup l)=>(match l[i]? with|some v=>K v 0 0 h nx|none=>ah)|_=>ah
  |.len x=>match fJ e x with
   |some v=>(match lenOf h v with|some n=>K (.f (.int .i64) (aO n)) 0 0 h nx|none=>ah)
   |none=>ah
  |.lens x=>match fJ e x with
   |some (.f .str s)=>K (.f (.int .i64) (aO (al s))) 0 0 h nx
   |_=>ah
  |.max x y=>match fJ e x,fJ e y with
   |some (.f (.int k) a),af (.f (.int k') b)=>if k==k' then K (.f (.int k) (ik a b)) 0 0 h nx else ah
   |_,_=>ah
  |.min x y=>match fJ e x,fJ e y with
   |some (.f (.int k) a),af (.f (.int k') b)=>if k==k' then K (.f (.int k) (GW a b)) 0 0 h nx else ah
   |_,_=>ah
  |.sidx x i=>match fJ e x,fJ e i with
   |some (.f .str s),af (.f (.int _) j)=>chk (fe j (al s)) λ_=>K (.f (.int .u8) (Ao s j)) 0 0 h nx
   |_,_=>ah
  |.rng x=>match fJ e x with
   |some (.f .str s)=>K (.ptr nx 0) 0 (0|||k_ nx) ((eM 0 h).set nx (af (.mp itK .un [((s,0),())]))) (nx+1)
   |_=>ah
  |.nxt x=>match fJ e x with
   |some (.ptr id 0)=>(match h.get id with
    |some (.mp K' V es)=>(match itE K' V es with
     |some (s,p)=>bcase (gi p (al s)) (chk (fO (Ao s (aO p)) 128) λ_=>K (.tup [.f .bool ai,.f (.int .i64) (aO p),.f (.int .i32) (Ao s (aO p))]) (k_ id) (0|||k_ id) ((eM 0 h).set id (af (.mp itK .un [((s,aO (p+1)),())]))) nx)
       (K (.tup [.f .bool aj]) (k_ id) (0|||k_ id) ((eM 0 h).set id (af (.mp itK .un [((s,aO p),())]))) nx)
     |none=>ah)
    |_=>ah)
   |_=>ah
  |.mkm=>K (.mp nx) 0 (0|||k_ nx) ((eM 0 h).set nx (af (.mp .un .un []))) (nx+1)
  |.lku str z x k=>match fJ e x,fJ e k with
   |some (.mp id),af (.f KT M)=>(match h.get id with
    |some (.mp K' V es)=>if XX str KT&&T_ K' then (match mpE K' V es with
     |true=>(match cst z with|some v=>K v (k_ id) 0 h nx|none=>ah)
     |false=>(match wT (S:=KT) K' M,cst z with
      |some kv',af (.f Z Y)=>(match wT (S:=Z) V Y with
       |some zv'=>K (.f V (It kv' es zv')) (k_ id) 0 h nx
       |none=>ah)
      |_,_=>ah)) else ah
    |_=>ah)
   |_,_=>ah
  |.mup str x k v=>match fJ e x,fJ e k,fJ e v with
   |some (.mp id),af (.f KT M),af (.f VT U)=>(match h.get id with
    |some (.mp K' V es)=>if (XX str KT&&VT.one)&&T_ K' then (match mpE K' V es with
     |true=>K .undef (k_ id) (0|||k_ id) ((eM 0 h).set id (af (.mp KT VT [(M,U)]))) nx
     |false=>(match wT (S:=KT) K' M,wT (S:=VT) V U with
      |some kv',af vv'=>K .undef (k_ id) (0|||k_ id) ((eM 0 h).set id (af (.mp K' V (N0 kv' vv' es)))) nx
      |_,_=>ah)) else ah
    |_=>ah)
   |_,_,_=>ah
  |.lenm x=>match fJ e x with
   |some (.mp id)=>(match h.get id with
    |some (.mp K' _ es)=>if T_ K' then K (.f (.int .i64) (aO es.length)) (k_ id) 0 h nx else ah
    |_=>ah)
   |_=>ah
  |.mkf f caps=>match Fx e caps with|some l=>K (.clo f l) 0 0 h nx|none=>ah
  |_=>ah
def ZP {R:Type} (e:iJ) (g:Option (Nat×Bool)) (K:Bool->iJ->Option R):Option R:=match g with
 |none=>K ai e
 |some (t,want)=>match e.get t with
  |some (.f .bool b)=>(match want with
   |true=>bcase b (K ai (e.set t (af (.f .bool ai)))) (K aj (e.set t (af (.f .bool aj))))
   |false=>bcase b (K aj (e.set t (af (.f .bool ai)))) (K ai (e.set t (af (.f .bool aj)))))
  |some .undef=>K aj e
  |_=>ah
def Ef (e:iJ) (d:Option Nat) (v:TV):iJ:=match d with
 |none=>e
 |some d=>e.set d (af v)
structure TS where
 e:iJ
 h:bh
 nx:Nat
def La {R:Type} (con:FuncId->Option cf) (bV:TypeId->Option Ty):List sC->TS->List FPm->(TS->List FPm->Option R)->Option R
 |[],s,fs,K=>K s fs.reverse
 |o::r,s,fs,K=>ZP s.e o.guard λrun e=>match run with
  |true=>dV con bV o.op e s.h s.nx λv rd wr h nx=>if Ld h v then La con bV r ⟨Ef e o.dst v,h,nx⟩ (⟨rd,wr⟩::fs) K else ah
  |false=>La con bV r ⟨Ef e o.dst .undef,s.h,s.nx⟩ (⟨0,0⟩::fs) K
inductive Adj where
 |nil (k:Nat) (ty:TypeId) (T:Ty)
 |cel (k:Nat) (off:Nat) (ty:TypeId) (T:Ty)
 |mpt (k:Nat) (K V:Ty)
 |pk (k:Nat) (off:Nat) (T:Ty)
 |ren (k:Nat) (off:Nat)
mutual
def K5 (id sz n:Nat):TV->TV
 |.csl i s m=>if aC i id&&aC s sz&&aC m n then .row id else .csl i s m
 |.agg l=>.agg (Cp id sz n l)
 |.tup l=>.tup (Cp id sz n l)
 |.clo g l=>.clo g (Cp id sz n l)
 |.f T v=>.f T v
 |.fel T xs j h off=>.fel T xs j h off
 |.pel a b c d=>.pel a b c d
 |.ptr a b=>.ptr a b
 |.row a=>.row a
 |.rtl a j=>.rtl a j
 |.emp=>.emp
 |.nil=>.nil
 |.mp a=>.mp a
 |.undef=>.undef
 |.np=>.np
 |.anyb=>.anyb
def Cp (id sz n:Nat):List TV->List TV
 |[]=>[]
 |x::r=>K5 id sz n x::Cp id sz n r
end
def XI (id sz n:Nat):io->io
 |.cells ty l=>.cells ty (Cp id sz n l)
 |.rows ty p T xs=>.rows ty p T xs
 |.dead p s m=>.dead p s m
 |.mp K V es=>.mp K V es
def amb (s:TS) (k off:Nat):Option (Nat×Nat×Nat):=match s.e.get k with
 |some (.csl id sz n)=>af (id,sz,n)
 |some (.agg l)=>(match l[off]? with|some (.csl id sz n)=>af (id,sz,n)|_=>ah)
 |some (.ptr a o)=>(match s.h.get a with
  |some (.cells _ l)=>(match l[o+off]? with|some (.csl id sz n)=>af (id,sz,n)|_=>ah)
  |_=>ah)
 |_=>ah
def pkS (s:TS) (T:Ty) (id sz n:Nat):Option TS:=match s.h.get id with
 |some (.cells ty l)=>if aC sz T.size then (match yO s.h T n l with
  |some (xs,m)=>if aN m id then ah else af ⟨PT.updI (λ_ v=>K5 id sz n v) 1 0 s.e,(PT.updI (λ_ b=>XI id sz n b) 1 0 (eM m s.h)).set id (af (.rows ty aj T xs)),s.nx⟩
  |none=>ah) else ah
 |_=>ah
def aed:TV->Bool
 |.nil=>ai
 |.emp=>ai
 |_=>aj
def ali:Option TV->Option (Nat×Nat)
 |some (.ptr id o)=>af (id,o)
 |some (.csl id _ _)=>af (id,0)
 |_=>ah
def Pm (s:TS):Adj->Option TS
 |.nil k ty T=>match s.e.get k with
  |some v=>if aed v then af ⟨s.e.set k (af (.row s.nx)),s.h.set s.nx (af (.rows ty ai T [])),s.nx+1⟩ else af s
  |none=>ah
 |.cel k off ty T=>match ali (s.e.get k) with
  |some (id,o)=>(match s.h.get id with
   |some (.cells cty l)=>(match l[o+off]? with
    |some v=>if aed v then af ⟨s.e,(s.h.set s.nx (af (.rows ty ai T []))).set id (af (.cells cty (splice l (o+off) [.row s.nx]))),s.nx+1⟩ else af s
    |none=>ah)
   |_=>ah)
  |_=>ah
 |.mpt k K V=>match s.e.get k with
  |some (.mp id)=>(match s.h.get id with
   |some (.mp K' V' es)=>(match mpE K' V' es&&T_ K with
    |true=>af ⟨s.e,s.h.set id (af (.mp K V [])),s.nx⟩
    |false=>af s)
   |_=>ah)
  |_=>ah
 |.pk k off T=>match amb s k off with
  |some (id,sz,n)=>pkS s T id sz n
  |none=>ah
 |.ren k off=>match s.e.get k with
  |some (.ptr b o)=>(match s.h.get b with
   |some (.cells cty l)=>(match l[o+off]? with
    |some (.row id)=>(match s.h.get id with
     |some (.rows ty p T xs)=>af ⟨s.e,((s.h.set id (af (.dead p T.size xs.length))).set s.nx (af (.rows ty p T xs))).set b (af (.cells cty (splice l (o+off) [.row s.nx]))),s.nx+1⟩
     |_=>ah)
    |_=>ah)
   |_=>ah)
  |some (.row id)=>(match s.h.get id with
   |some (.rows ty p T xs)=>af ⟨s.e.set k (af (.row s.nx)),(s.h.set id (af (.dead p T.size xs.length))).set s.nx (af (.rows ty p T xs)),s.nx+1⟩
   |_=>ah)
  |_=>ah
def YY (s:TS):List Adj->Option TS
 |[]=>af s
 |a::r=>match Pm s a with|some s'=>YY s' r|none=>ah
structure ZF where
 keep:List Nat
 ks:List Nat
 t:Tm
 pre:List Adj
abbrev ZF.D (A:ZF):Type:=A.t.ty.den
mutual
def ut:TV->Bool
 |.f _ _=>ai
 |.fel _ _ _ _ _=>ai
 |.emp=>ai
 |.nil=>ai
 |.undef=>ai
 |.np=>ai
 |.anyb=>ai
 |.agg l=>qu l
 |.tup l=>qu l
 |.pel _ _ _ _=>aj
 |.ptr _ _=>aj
 |.csl _ _ _=>aj
 |.row _=>aj
 |.rtl _ _=>aj
 |.mp _=>aj
 |.clo _ _=>aj
def qu:List TV->Bool
 |[]=>ai
 |x::r=>ut x&&qu r
end
def CU (am:Nat) (e:iJ):List Nat->iJ
 |[]=>PT.leaf
 |k::r=>match e.get k with|some v=>if ut v&& !(aN am k) then (CU am e r).set k (af v) else CU am e r|none=>CU am e r
def nQ (e:iJ):List Nat->Option (List TV)
 |[]=>af []
 |k::r=>match e.get k with|some v=>(match nQ e r with|some l=>af (v::l)|none=>ah)|none=>ah
def XK (e:iJ):List Nat->List TV->iJ
 |k::r,v::l=>(XK e r l).set k (af v)
 |_,_=>e
def HB (am:Nat) (e0 e:iJ):List Nat->Bool
 |[]=>ai
 |k::r=>(match e0.get k with
  |some v=> !(ut v)||aN am k||(match e.get k with|some _=>ai|none=>aj)
  |none=>ai)&&HB am e0 e r
def LH (np:Nat) (A:ZF) (am:Nat) (I s:TS):Option A.D:=if eJ np A.t.bs.length&&HB am I.e s.e A.keep then (match YY s A.pre with
 |some s=>(match nQ s.e A.ks with
  |some vs=>(match Es np A.t vs s.h with
   |some ⟨x,_,_,_⟩=>af x
   |none=>ah)
  |none=>ah)
 |none=>ah) else ah
def GJ (A:ZF) (am:Nat) (s:TS) (x:A.D):Option TS:=match CW A.t x with
 |some (vs,h)=>if aC vs.length A.ks.length then af ⟨XK (CU am s.e A.keep) A.ks vs,h,A.t.bs.length⟩ else ah
 |none=>ah
inductive TC where
 |skip
 |reg (ops:List sC) (prs:List (Nat×Nat))
 |seq (a b:TC)
 |jseq (A:ZF) (a b:TC)
 |cond (c:Nat) (a b:TC)
 |block (id:Nat) (b:TC)
 |jblock (A:ZF) (id:Nat) (b:TC)
 |loop (A:ZF) (b:TC)
 |exit (id:Nat)
 |ret
 |defer (f:FuncId) (caps:List Operand) (t:Nat)
 |adj (l:List Adj) (c:TC)
 |split (k off lo n:Nat) (c:TC)
 |unl (n:Nat) (b:TC)
 |bad
def Pf:List sC->Nat->Nat
 |[],acc=>acc
 |o::r,acc=>Pf r (match o.dst with|some d=>acc|||k_ d|none=>acc)
def Lh:List Nat->Nat->Nat
 |[],acc=>acc
 |k::r,acc=>Lh r (acc|||k_ k)
def ol:List Adj->Nat->Nat
 |[],acc=>acc
 |.nil k _ _::r,acc=>ol r (acc|||k_ k)
 |.cel _ _ _ _::r,acc=>ol r acc
 |.mpt _ _ _::r,acc=>ol r acc
 |.pk _ _ _::r,acc=>ol r acc
 |.ren k _::r,acc=>ol r (acc|||k_ k)
def TC.asg:TC->Nat->Nat
 |.reg ops _,acc=>Pf ops acc
 |.seq a b,acc=>b.asg (a.asg acc)
 |.jseq A a b,acc=>b.asg (a.asg (Lh A.ks acc))
 |.cond _ a b,acc=>b.asg (a.asg acc)
 |.block _ b,acc=>b.asg acc
 |.jblock A _ b,acc=>b.asg (Lh A.ks acc)
 |.loop A b,acc=>b.asg (Lh A.ks acc)
 |.defer _ _ t,acc=>acc|||k_ t
 |.adj l c,acc=>c.asg (ol l acc)
 |.split _ _ _ _ c,acc=>c.asg acc
 |.unl _ b,acc=>b.asg acc
 |.skip,acc=>acc
 |.exit _,acc=>acc
 |.ret,acc=>acc
 |.bad,acc=>acc
inductive ad0 where
 |j (A:ZF)
 |a (l:List Adj)
 |s (k off lo n:Nat)
 |u (n:Nat)
def HX (H:PT ad0) (n:Nat) (c:TC):TC:=match H.get n with|some (.a l)=>.adj l c|some (.s k off lo m)=>.split k off lo m c|_=>c
def DF (H:PT ad0):SC->Nat->TC×Nat
 |.skip,n=>(HX H n .skip,n+1)
 |.reg o p,n=>(HX H n (.reg o p),n+1)
 |.seq a b,n=>match DF H a (n+1) with
  |(a',k)=>(match DF H b k with|(b',k')=>((match H.get n with|some (.j A)=>.jseq A a' b'|_=>.seq a' b'),k'))
 |.cond c a b,n=>match DF H a (n+1) with
  |(a',k)=>(match DF H b k with|(b',k')=>(HX H n (.cond c a' b'),k'))
 |.block id b,n=>match DF H b (n+1) with|(b',k)=>((match H.get n with|some (.j A)=>.jblock A id b'|_=>.block id b'),k)
 |.loop b,n=>match DF H b (n+1) with|(b',k)=>((match H.get n with|some (.j A)=>.loop A b'|some (.u m)=>.unl m b'|_=>.bad),k)
 |.exit id,n=>(HX H n (.exit id),n+1)
 |.ret,n=>(HX H n .ret,n+1)
 |.defer f c t,n=>(.defer f c t,n+1)
 |.bad,n=>(.bad,n+1)
def aap (s:TS) (k off:Nat):Option (IntKind×Int):=match s.e.get k with
 |some (.f (.int kd) v)=>af (kd,v)
 |some (.ptr a o)=>(match s.h.get a with
  |some (.cells _ l)=>(match l[o+off]? with|some (.f (.int kd) v)=>af (kd,v)|_=>ah)
  |_=>ah)
 |_=>ah
def TN (s:TS) (k off:Nat) (kd:IntKind) (v:Int):Option TS:=match s.e.get k with
 |some (.f (.int _) _)=>af ⟨s.e.set k (af (.f (.int kd) v)),s.h,s.nx⟩
 |some (.ptr a o)=>(match s.h.get a with
  |some (.cells ty l)=>af ⟨s.e,s.h.set a (af (.cells ty (splice l (o+off) [.f (.int kd) v]))),s.nx⟩
  |_=>ah)
 |_=>ah
def spl {R:Type} (v:Int) (f:Nat->Option R):Nat->Nat->Option R
 |_,0=>ah
 |i,m+1=>bcase (decide ((v:Int)=aO i)) (f i) (spl v f (i+1) m)
def adm {R:Type} (f:TS->(Ex->TS->Option R)->Option R):Nat->TS->(Ex->TS->Option R)->Option R
 |0,_,_=>ah
 |m+1,s,K=>f s λex s'=>match ex with
  |.normal=>adm f m s' K
  |ex=>K ex s'
def o6 {R:Type} (np:Nat) (con:FuncId->Option cf) (bV:TypeId->Option Ty) (inert:FuncId->Bool):TC->TS->(Ex->TS->Option R)->Option R
 |.skip,s,K=>K .normal s
 |.reg ops prs,s,K=>La con bV ops s [] λs' fs=>if Fw fs prs then K .normal s' else ah
 |.seq a b,s,K=>o6 np con bV inert a s λex s'=>match ex with|.normal=>o6 np con bV inert b s' K|ex=>K ex s'
 |.jseq A a b,s,K=>jn (o6 np con bV inert a s λex s'=>match ex with
   |.normal=>obind (LH np A (a.asg 0) s s') λx=>af (.inr x)
   |ex=>obind (K ex s') λr=>af (.inl r)) λx=>(match GJ A (a.asg 0) s x with|some s'=>o6 np con bV inert b s' K|none=>ah)
 |.cond c a b,s,K=>match s.e.get c with
  |some (.f .bool t)=>bcase t (o6 np con bV inert a s K) (o6 np con bV inert b s K)
  |some .anyb=>Ff (o6 np con bV inert a s K) (o6 np con bV inert b s K)
  |_=>ah
 |.block id b,s,K=>o6 np con bV inert b s λex s'=>match ex with
  |.exit i=>if aC i id then K .normal s' else K (.exit i) s'
  |ex=>K ex s'
 |.jblock A id b,s,K=>jn (o6 np con bV inert b s λex s'=>match ex with
   |.normal=>obind (LH np A (b.asg 0) s s') λx=>af (.inr x)
   |.exit i=>if aC i id then obind (LH np A (b.asg 0) s s') λx=>af (.inr x) else obind (K (.exit i) s') λr=>af (.inl r)
   |.ret=>obind (K .ret s') λr=>af (.inl r)) λx=>(match GJ A (b.asg 0) s x with|some s'=>K .normal s'|none=>ah)
 |.loop A b,s,K=>obind (LH np A (b.asg 0) s s) λx=>iter (λx=>match GJ A (b.asg 0) s x with
   |some s'=>o6 np con bV inert b s' λex s'=>(match ex with
    |.normal=>obind (LH np A (b.asg 0) s s') λy=>af (.inl y)
    |ex=>obind (K ex s') λr=>af (.inr r))
   |none=>ah) x
 |.exit id,s,K=>K (.exit id) s
 |.ret,s,K=>K .ret s
 |.defer f caps t,s,K=>match Fx s.e caps with
  |some l=>if inert f then K .normal ⟨s.e.set t (af (.clo f l)),s.h,s.nx⟩ else ah
  |none=>ah
 |.adj l c,s,K=>match YY s l with|some s'=>o6 np con bV inert c s' K|none=>ah
 |.split k off lo n c,s,K=>match aap s k off with
  |some (kd,v)=>spl v (λi=>match TN s k off kd (aO i) with|some s'=>o6 np con bV inert c s' K|none=>ah) lo n
  |none=>ah
 |.unl n b,s,K=>adm (λs K=>o6 np con bV inert b s K) n s K
 |.bad,_,_=>ah
def Ku:Nat->List TV->iJ
 |_,[]=>PT.leaf
 |k,x::r=>(Ku (k+1) r).set k (af x)
def rvT (s:TS):RV->Option TV
 |.tmp t=>s.e.get t
 |.cell a sz ag=>match s.e.get a with
  |some (.ptr id off)=>(match s.h.get id with|some (.cells _ l)=>TE l off sz ag|_=>ah)
  |_=>ah
def TQ (s:TS):List RV->Option (List TV)
 |[]=>af []
 |x::r=>match rvT s x with|some v=>(match TQ s r with|some l=>af (v::l)|none=>ah)|none=>ah
structure FT where
 pre:Tm
 post:Tm
 hints:PT ad0
def ZY (con:FuncId->Option cf) (bV:TypeId->Option Ty) (inert:FuncId->Bool) (F:Option SF) (D:FT) (x:D.pre.ty.den):Option D.post.ty.den:=
 match F with
 |some I=>(match CW D.pre x with
  |some (args,h)=>if eJ args.length I.nt&&eJ D.pre.bs.length D.post.bs.length then
    o6 D.pre.bs.length con bV inert (DF D.hints I.code 0).1 ⟨Ku 0 args,h,D.pre.bs.length⟩ λex s=>(match ex with
    |.exit _=>ah
    |_=>(match TQ s I.res with
     |some l=>(match Es D.pre.bs.length D.post l s.h with
      |some ⟨y,_,_,_⟩=>(match CW D.post y with|some _=>af y|none=>ah)
      |none=>ah)
     |none=>ah)) else ah
  |none=>ah)
 |none=>ah
abbrev aM:Ty:=(.int .i64)
abbrev kw:Ty:=(.st (.pr .str (.pr aM (.pr aM (.pr .bool aM)))))
abbrev qT:Ty:=(.st (.pr .str .bool))
abbrev lh:Ty:=(.st (.pr .str aM))
abbrev om:Ty:=(.st (.pr aM (.pr aM aM)))
abbrev l_:Ty:=(.st (.pr (.sl kw) (.pr (.sl qT) (.pr (.sl lh) (.pr (.sl .str) (.pr (.sl .str) (.sl om)))))))
abbrev tL:Ty:=(.sl (.sl aM))
abbrev eT:Ty:=(.st (.pr aM (.pr (.sl aM) (.pr tL aM))))
abbrev qR:Ty:=(.st (.pr aM (.pr aM (.pr aM (.pr aM (.pr aM aM))))))
abbrev dY:Ty:=(.st (.pr aM (.sl aM)))
abbrev pR:Ty:=(.sl .bool)
abbrev hY:Ty:=(.st (.pr aM (.pr aM .bool)))
abbrev Hk:Ty:=(.st (.pr (.sl dY) (.pr aM (.pr pR (.sl hY)))))
abbrev gd:Ty:=(.st (.pr aM (.pr aM (.pr aM (.pr aM (.pr aM (.pr (.sl aM) (.sl aM))))))))
abbrev GD:Ty:=(.st (.pr aM (.pr aM (.pr .str (.pr aM (.pr aM .str))))))
abbrev sQ:Ty:=(.st (.pr .str (.pr aM (.pr (.sl .str) (.sl .sm)))))
abbrev No:Ty:=(.st (.pr (.sl GD) (.sl sQ)))
abbrev wZ:Ty:=(.st (.pr aM (.sl qR)))
abbrev uJ:Ty:=(.st (.pr l_ (.sl wZ)))
abbrev vW:Ty:=(.st (.pr Hk (.pr (.sl aM) (.pr (.sl aM) (.sl eT)))))
abbrev iL:Ty:=(.st (.pr Hk (.pr (.sl aM) (.pr (.sl aM) (.sl aM)))))
abbrev DX:Ty:=(.sl (.int .u8))
abbrev yI:Ty:=(.st (.pr DX aM))
abbrev iK:Ty:=(.st (.pr aM aM))
abbrev oK:Ty:=(.st (.pr l_ (.sl gd)))
abbrev SD:=((List UInt8)×Int×Int×Bool×Int)
abbrev gK:=(List SD)
abbrev gu:=(List ((List UInt8)×Bool))
abbrev fm:=((List UInt8)×Int)
abbrev ca:=(List (List UInt8))
abbrev dD:=(gK×gu×(List fm)×ca×ca×List (Int×Int×Int))
abbrev rK:=(gK×gu×(List fm)×ca×ca×(List (Int×Int×Int))×ca×Int×Int)
abbrev gE:=(List (Int×List Int))
abbrev dw:=(Int×Int×Bool)
abbrev oZ:=(gE×Int×(List Bool)×List dw)
abbrev tY:=(Int×(List Int)×(List (List Int))×Int)
abbrev jQ:=(Int×Int×Int×Int×Int×Int)
abbrev gw:=(Int×Int×Int×Int×Int×(List Int)×List Int)
abbrev acb:=(Int×Int×(List UInt8)×Int×Int×List UInt8)
abbrev rY:=(List acb)
abbrev rX:=((List UInt8)×Int×ca×List Sx)
abbrev yJ:=(Int×Int×Bool×Bool×Bool×Bool)
abbrev zP:=(dD×List (Int×List jQ))
abbrev vR:=(Int×Int×Int×Int×Int)
abbrev eE:=(oZ×(List Int)×(List Int)×List Int)
abbrev fD:=((List Int)×Int)
abbrev wX:=(oZ×(List Int)×(List Int)×List tY)
abbrev Hg:=(Int×Int×(List UInt8)×(List UInt8)×Int×Int×List UInt8)
abbrev qS:=(rY×(List rX)×Int)
abbrev SE:=(Bool×List (List UInt8))
abbrev Ya23:=(Int×Int×tY×tY×Int×(List Int)×(List (List Int))×Int)
abbrev Ya24:=(tY×Int×Int×tY×Int×(List Int)×(List (List Int))×Int)
abbrev Ya25:=(tY×tY×Int×Int×Int×(List Int)×(List (List Int))×Int)
abbrev ace:=((List Sx)×yJ×fD×Bool×List (List UInt8))
abbrev Ya27:=(Int×Int×tY×Int×(List Int)×(List (List Int))×Int)
abbrev Ya28:=(tY×Int×Int×Int×(List Int)×(List (List Int))×Int)
abbrev Ya29:=(Int×Int×Int×(List Int)×(List (List Int))×Int)
abbrev Y0:=(Int×yJ×fD×Bool×List (List UInt8))
abbrev acd:=(Sx×yJ×fD×Bool×List (List UInt8))
abbrev afo:=((Int×Int)×qS×(Bool×List Sx)×ca×List (List UInt8))
abbrev L8:=(Sx×rK×List jQ)
abbrev DU:=(wX×gw×Bool)
abbrev aca:=((Sx×Int×Int×Int)×rK×List jQ)
abbrev afn:=((Int×Int)×yJ×fD×Bool×List (List UInt8))
abbrev afm:=(fm×yJ×fD×Bool×List (List UInt8))
abbrev YZ:=(yJ×fD×SE×List Sx)
abbrev afl:=(Xp×yJ×fD×Bool×List (List UInt8))
abbrev Ya42:=(tY×tY×tY×Int×Int)
abbrev ac9:=((List Sx)×rK×List jQ)
abbrev aX {α:Type} (l:List α):Int:=aO (al l)
abbrev cC (n:Int):Int:=bk .i64 (n+1)
abbrev aE {R α:Type} (x:α):Option (R⊕α):=af (bQ x)
abbrev cL {R α:Type} (x:R):Option (R⊕α):=af (mm x)
abbrev bD {R:Type} (T:Ty) (l:List T.den) (j:Int) (k:T.den->Option R):Option R:=chk (fe j (al l)) λ_=>lt (aJ (T:=T) l j) k
abbrev kz {R:Type} (T:Ty) (l:List T.den) (j:Int) (k:T.den->Option R):Option R:=chk (fe j (al l)) λ_=>chk (fe j (al l)) λ_=>lt (aJ (T:=T) l j) k
abbrev uO {R α:Type} (j:Int) (l:List α) (k:Option R):Option R:=chk (fe j (al l)) λ_=>k
abbrev bB {R:Type} (b:Bool) (k:Option R):Option R:=chk b λ_=>k
abbrev bd {R:Type} (a b:Int) (t f:Option R):Option R:=bcase (decide (a=b)) t f
abbrev jd {R:Type} (a b:Int) (t f:Option R):Option R:=bcase (!decide (a=b)) t f
abbrev bx {R:Type} (a b:Int) (t f:Option R):Option R:=bcase (fO a b) t f
abbrev iR {R:Type} (a b:Int) (t f:Option R):Option R:=bcase (c7 a b) t f
def ck {R:Type} (b:Bool) (k:Option R):Option R:=chk b λ_=>chk b λ_=>k
def d_ (s:Sx):Sx:=nJ (Sx.op s,Sx.line s,Sx.name s,Sx.arg s,Sx.index s,dZ (Xp.op (Sx.expr s),Xp.n (Sx.expr s),Xp.name (Sx.expr s),Xp.l (Sx.expr s)),Sx.body s,Sx.els s)
def ko (x:Unit):Option ca:=
 (af ([[118,97,114],[118,111,108,97,116,105,108,101],[109,117,116,101,120],[114,119,108,111,99,107],[99,111,110,100],[102,117,116,117,114,101],[116,104,114,101,97,100],[105,102],[101,108,115,101],[119,104,105,108,101],[108,111,99,107],[114,101,97,100],[119,114,105,116,101],[116,114,97,110,115,97,99,116,105,111,110],[97,116,111,109,105,99],[119,97,105,116],[110,111,116,105,102,121],[110,111,116,105,102,121,97,108,108],[115,112,97,119,110],[106,111,105,110],[115,101,116],[103,101,116]]))
def jC (x:List UInt8):Option (Bool):=
 (obind (ko ()) λJ=>(iter (σ:=Int) (λI=>(bx I (aX J) (bD (.str) J I λM=>(bcase (decide ((M:List UInt8)=x)) (aE ai) (cL (cC I)))) (aE aj))) 0))
def ll (x:Int):Option (Bool):=
 (jn (α:=Bool) (iR 97 x (iR x 122 (aE ai) (iR 65 x (aE (c7 x 90)) (aE aj))) (iR 65 x (aE (c7 x 90)) (aE aj))) λI=>(af I))
def ru (x:Int):Option (Bool):=
 (jn (α:=Bool) (iR 48 x (aE (c7 x 57)) (aE aj)) λI=>(af I))
def pi (x:Int):Option (Bool):=
 (jn (α:=Bool) (obind (ll x) λJ=>(bcase J (aE ai) (obind (ru x) λI=>(bcase I (aE ai) (aE (decide ((x:Int)=95))))))) λM=>(af M))
def fd (x:List UInt8):Option (Bool):=
 (jn (α:=Bool) (bx (aX x) 1 (aE ai) (bx 12 (aX x) (aE ai) (uO 0 x (obind (ll (Ao x 0)) λU=>(bcase (!U) (aE ai) (obind (jC x) λM=>(aE M))))))) λY=>(bcase Y (af aj) (iter (σ:=Int) (λI=>(bx I (aX x) (uO I x (obind (pi (Ao x I)) λJ=>(bcase (!J) (aE aj) (cL (cC I))))) (aE ai))) 0)))
def fU (x:Bool):Option (Int):=
 (bcase x (af 1) (af 0))
def uk (x:Int×Int):Option (Int×Bool):=
 (bd x.1 4 (af ((bk .i64 (0-x.2)),ai)) (bd x.1 5 (obind (fU (decide ((x.2:Int)=0))) λI=>(af (I,ai))) (af (0,aj))))
def sa (x:Int×Int×Int):Option (Int×Bool):=
 (bd x.1 6 (af ((bk .i64 (x.2.1+x.2.2)),ai)) (bd x.1 7 (af ((bk .i64 (x.2.1-x.2.2)),ai)) (bd x.1 8 (af ((bk .i64 (x.2.1*x.2.2)),ai)) (bd x.1 9 (bd x.2.2 0 (af (0,ai)) (bB (!decide ((x.2.2:Int)=0)) (af ((bk .i64 (Int.tdiv x.2.1 x.2.2)),ai)))) (bd x.1 10 (bd x.2.2 0 (af (0,ai)) (bB (!decide ((x.2.2:Int)=0)) (af ((zY x.2.1 x.2.2),ai)))) (bd x.1 11 (obind (fU (decide ((x.2.1:Int)=x.2.2))) λy1=>(af (y1,ai))) (bd x.1 12 (obind (fU (!decide ((x.2.1:Int)=x.2.2))) λy2=>(af (y2,ai))) (bd x.1 13 (obind (fU (fO x.2.1 x.2.2)) λy3=>(af (y3,ai))) (bd x.1 14 (obind (fU (c7 x.2.1 x.2.2)) λy4=>(af (y4,ai))) (bd x.1 15 (obind (fU (fO x.2.2 x.2.1)) λy5=>(af (y5,ai))) (bd x.1 16 (obind (fU (c7 x.2.2 x.2.1)) λZ=>(af (Z,ai))) (bd x.1 17 (jn (α:=Int×Bool) (jd x.2.1 0 (obind (fU (!decide ((x.2.2:Int)=0))) λY=>(aE (Y,ai))) (obind (fU aj) λU=>(aE (U,ai)))) λx7=>(af x7)) (bd x.1 18 (jn (α:=Int×Bool) (jd x.2.1 0 (obind (fU ai) λJ=>(aE (J,ai))) (obind (fU (!decide ((x.2.2:Int)=0))) λI=>(aE (I,ai)))) λM=>(af M)) (af (0,aj)))))))))))))))
def rn (x:Int×Int):Option (Int):=
 (bx x.2 1 (af 0) (bB (!decide ((x.2:Int)=0)) (jn (α:=Int) (bx (zY x.1 x.2) 0 (aE (bk .i64 ((zY x.1 x.2)+x.2))) (aE (zY x.1 x.2))) λI=>(af I))))
def mg (x:Int):Option (Int):=
 (jn (α:=Bool) (bd x 1 (aE ai) (aE (decide ((x:Int)=2)))) λM=>(bcase M (af 0) (jn (α:=Bool) (iR 3 x (aE (c7 x 5)) (aE aj)) λJ=>(bcase J (af 1) (jn (α:=Bool) (iR 6 x (aE (c7 x 18)) (aE aj)) λI=>(bcase I (af 2) (af (-1))))))))
def lZ (rr02_ShapedExpr:Xp->Option (Bool)) (x:Xp):Option (Bool):=
 (jn (α:=Bool×Xp) (bd (Xp.op x) 2 (aE (ai,dZ ((Xp.op x),(Xp.n x),(Xp.name x),(Xp.l x)))) (aE ((decide (((Xp.op x):Int)=3)),dZ ((Xp.op x),(Xp.n x),(Xp.name x),(Xp.l x))))) λI=>(jn (α:=Bool×Xp) (obind (mg (Xp.op I.2)) λy3=>(jd y3 (aO (al (Xp.l I.2))) (aE (ai,dZ ((Xp.op I.2),(Xp.n I.2),(Xp.name I.2),(Xp.l I.2)))) (bcase ((I.1==(!decide (((Xp.name I.2):List UInt8)=([])))) !=ai) (aE (ai,dZ ((Xp.op I.2),(Xp.n I.2),(Xp.name I.2),(Xp.l I.2)))) (bcase I.1 (obind (fd (Xp.name I.2)) λZ=>(bcase (!Z) (aE (ai,dZ ((Xp.op I.2),(Xp.n I.2),(Xp.name I.2),(Xp.l I.2)))) (bx (Xp.n I.2) 0 (aE (ai,dZ ((Xp.op I.2),(Xp.n I.2),(Xp.name I.2),(Xp.l I.2)))) (jd (Xp.op I.2) 1 (aE ((!decide (((Xp.n I.2):Int)=0)),dZ ((Xp.op I.2),(Xp.n I.2),(Xp.name I.2),(Xp.l I.2)))) (aE (aj,dZ ((Xp.op I.2),(Xp.n I.2),(Xp.name I.2),(Xp.l I.2)))))))) (bx (Xp.n I.2) 0 (aE (ai,dZ ((Xp.op I.2),(Xp.n I.2),(Xp.name I.2),(Xp.l I.2)))) (jd (Xp.op I.2) 1 (aE ((!decide (((Xp.n I.2):Int)=0)),dZ ((Xp.op I.2),(Xp.n I.2),(Xp.name I.2),(Xp.l I.2)))) (aE (aj,dZ ((Xp.op I.2),(Xp.n I.2),(Xp.name I.2),(Xp.l I.2)))))))))) λM=>(bcase M.1 (af aj) (iter (σ:=Int×Xp) (λJ=>(bx J.1 (aO (al (Xp.l J.2))) (bD (.ex) (Xp.l J.2) J.1 λU=>(obind (rr02_ShapedExpr U) λY=>(bcase (!Y) (aE aj) (cL ((cC J.1),dZ ((Xp.op J.2),(Xp.n J.2),(Xp.name J.2),(Xp.l J.2))))))) (aE ai))) (0,dZ ((Xp.op M.2),(Xp.n M.2),(Xp.name M.2),(Xp.l M.2)))))))
def hX:Nat->Xp->Option (Bool)
 |0,_=>ah
 |n+1,x=>lZ (hX n) x
theorem su (n:Nat) (x:Xp):hX (n+1) x=lZ (hX n) x:=rfl
def iZ (x:Xp):Option (Bool):=hX fuel x
def ph (x:Xp):Option (Bool):=
 (jn (α:=Bool) (bd (Xp.op x) 0 (bd (Xp.n x) 0 (bcase (decide (((Xp.name x):List UInt8)=([]))) (aE (decide (((aO (al (Xp.l x))):Int)=0))) (aE aj)) (aE aj)) (aE aj)) λI=>(af I))
def jZ (rr02_ShapedStmt:Sx->Option (Bool)) (rr02_ShapedStmts:(List Sx)->Option (Bool)) (x:Sx):Option (Bool):=
 (jn (α:=Bool×Sx) (bx (Sx.op x) 1 (aE (ai,d_ x)) (aE ((fO 15 (Sx.op x)),d_ x))) λx1=>(bcase x1.1 (af aj) (jn (α:=Bool×Sx) (bd (Sx.op x1.2) 2 (aE (ai,d_ x1.2)) (bd (Sx.op x1.2) 3 (aE (ai,d_ x1.2)) (bd (Sx.op x1.2) 7 (aE (ai,d_ x1.2)) (aE ((decide (((Sx.op x1.2):Int)=8)),d_ x1.2))))) λY=>(jn (α:=Bool×Sx) (bcase Y.1 (bcase (!decide (((Sx.name Y.2):List UInt8)=([]))) (aE (ai,d_ Y.2)) (bcase (!Y.1) (obind (fd (Sx.name Y.2)) λy4=>(aE ((!y4),d_ Y.2))) (aE (aj,d_ Y.2)))) (bcase (!Y.1) (obind (fd (Sx.name Y.2)) λy5=>(aE ((!y5),d_ Y.2))) (aE (aj,d_ Y.2)))) λU=>(bcase U.1 (af aj) (jn (α:=Bool×Sx) (bd (Sx.op U.2) 15 (obind (fd (Sx.arg U.2)) λy7=>(bcase (!y7) (aE (ai,d_ U.2)) (jd (Sx.op U.2) 15 (aE ((!decide (((Sx.arg U.2):List UInt8)=([]))),d_ U.2)) (aE (aj,d_ U.2))))) (jd (Sx.op U.2) 15 (aE ((!decide (((Sx.arg U.2):List UInt8)=([]))),d_ U.2)) (aE (aj,d_ U.2)))) λM=>(bcase M.1 (af aj) (jn (α:=Bool×Sx) (bx 1 (aO (al (Sx.index M.2))) (aE (ai,d_ M.2)) (jd (Sx.op M.2) 1 (bx 0 (aO (al (Sx.index M.2))) (aE (ai,d_ M.2)) (bd (aO (al (Sx.index M.2))) 1 (bD (.ex) (Sx.index M.2) 0 λz9=>(obind (iZ z9) λy10=>(aE ((!y10),d_ M.2)))) (aE (aj,d_ M.2)))) (bd (aO (al (Sx.index M.2))) 1 (bD (.ex) (Sx.index M.2) 0 λz11=>(obind (iZ z11) λy12=>(aE ((!y12),d_ M.2)))) (aE (aj,d_ M.2))))) λx8=>(bcase x8.1 (af aj) (jn (α:=Bool×Sx) (bd (Sx.op x8.2) 1 (aE (ai,d_ x8.2)) (bd (Sx.op x8.2) 2 (aE (ai,d_ x8.2)) (bd (Sx.op x8.2) 3 (aE (ai,d_ x8.2)) (aE ((decide (((Sx.op x8.2):Int)=14)),d_ x8.2))))) λI=>(jn (α:=Bool×Sx) (bcase I.1 (obind (iZ (dZ ((Xp.op (Sx.expr I.2)),(Xp.n (Sx.expr I.2)),(Xp.name (Sx.expr I.2)),(Xp.l (Sx.expr I.2))))) λy15=>(bcase (!y15) (aE (ai,d_ I.2)) (bcase (!I.1) (obind (ph (dZ ((Xp.op (Sx.expr I.2)),(Xp.n (Sx.expr I.2)),(Xp.name (Sx.expr I.2)),(Xp.l (Sx.expr I.2))))) λy16=>(aE ((!y16),d_ I.2))) (aE (aj,d_ I.2))))) (bcase (!I.1) (obind (ph (dZ ((Xp.op (Sx.expr I.2)),(Xp.n (Sx.expr I.2)),(Xp.name (Sx.expr I.2)),(Xp.l (Sx.expr I.2))))) λy17=>(aE ((!y17),d_ I.2))) (aE (aj,d_ I.2)))) λZ=>(bcase Z.1 (af aj) (jn (α:=Bool×Sx) (iR 2 (Sx.op Z.2) (aE ((c7 (Sx.op Z.2) 8),d_ Z.2)) (aE (aj,d_ Z.2))) λJ=>(jn (α:=Bool×Sx) (bcase (!J.1) (bx 0 (aO (al (Sx.body J.2))) (aE (ai,d_ J.2)) (jd (Sx.op J.2) 2 (aE ((fO 0 (aO (al (Sx.els J.2)))),d_ J.2)) (aE (aj,d_ J.2)))) (jd (Sx.op J.2) 2 (aE ((fO 0 (aO (al (Sx.els J.2)))),d_ J.2)) (aE (aj,d_ J.2)))) λx19=>(bcase x19.1 (af aj) (jn (α:=Bool) (obind (rr02_ShapedStmts (Sx.body x19.2)) λy21=>(bcase y21 (obind (rr02_ShapedStmts (Sx.els x19.2)) λy22=>(aE y22)) (aE aj))) λx20=>(af x20)))))))))))))))))
def ju (rr02_ShapedStmt:Sx->Option (Bool)) (rr02_ShapedStmts:(List Sx)->Option (Bool)) (x:List Sx):Option (Bool):=
 (iter (σ:=Int) (λI=>(bx I (aX x) (uO I x (obind (rr02_ShapedStmt (aJ (T:=.sm) x I)) λJ=>(bcase (!J) (aE aj) (cL (cC I))))) (aE ai))) 0)
mutual
def eB:Nat->Sx->Option (Bool)
 |0,_=>ah
 |n+1,x=>jZ (eB n) (dF n) x
def dF:Nat->(List Sx)->Option (Bool)
 |0,_=>ah
 |n+1,x=>ju (eB n) (dF n) x
end
theorem zk (n:Nat) (x:Sx):eB (n+1) x=jZ (eB n) (dF n) x:=rfl
theorem yF (n:Nat) (x:List Sx):dF (n+1) x=ju (eB n) (dF n) x:=rfl
def nG (x:List Sx):Option (Bool):=dF fuel x
def jX (x:Int×Int×(List UInt8)×Int×Int×List UInt8):Option (Bool):=
 (jn (α:=Bool×Int×Int×(List UInt8)×Int×Int×List UInt8) (bx x.1 1 (aE (ai,x)) (bx 6 x.1 (aE (ai,x)) (obind (fd x.p2) λU=>(bcase (!U) (aE (ai,x)) (bx x.p3 0 (aE (ai,x)) (jd x.1 1 (aE ((!decide ((x.p3:Int)=0)),x)) (aE (aj,x)))))))) λI=>(bcase I.1 (af aj) (jn (α:=Bool×Int×Int×(List UInt8)×Int×Int×List UInt8) (bd I.2.1 5 (obind (fd I.q6) λM=>(bcase (!M) (aE (ai,I.2)) (jd I.2.1 5 (aE ((!decide ((I.q6:List UInt8)=([]))),I.2)) (aE (aj,I.2))))) (jd I.2.1 5 (aE ((!decide ((I.q6:List UInt8)=([]))),I.2)) (aE (aj,I.2)))) λJ=>(bcase J.1 (af aj) (jn (α:=Bool) (bx (-9223372036854775808) J.p5 (bd J.p5 0 (aE ai) (bd J.2.1 1 (aE ai) (aE (decide ((J.2.1:Int)=2))))) (aE aj)) λY=>(af Y))))))
def pG (x:rY×List rX):Option (Bool):=
 (iter (σ:=Int×rY×List rX) (λM=>(bx M.1 (aX M.2.1) (bD GD M.2.1 M.1 λz2=>(obind (jX z2) λy3=>(bcase (!y3) (aE aj) (cL ((cC M.1),M.2))))) (obind (iter (σ:=Int×rY×List rX) (λJ=>(bx J.1 (aX J.2.2) (bD sQ J.2.2 J.1 λz5=>(iter (σ:=Int×(rY×List rX)×(List UInt8)×Int×ca×List Sx) (λI=>(bx I.1 (aX I.p4) (bD (.str) I.p4 I.1 λz7=>(obind (fd z7) λy8=>(bcase (!y8) (aE (bQ aj)) (cL ((cC I.1),I.2))))) (obind (jn (α:=Bool×rY×List rX) (obind (fd I.p2) λY=>(bcase (!Y) (aE (ai,I.2.1)) (obind (nG I.q5) λU=>(aE ((!U),I.2.1))))) λZ=>(bcase Z.1 (aE aj) (cL ((cC J.1),Z.2)))) λr=>af (bQ r)))) (0,J.2,z5))) (aE (fO 0 (aX J.2.2))))) (0,M.2)) λr=>af (bQ r)))) (0,x))
def iU (x:ca×List UInt8):Option (Int):=
 (iter (σ:=Int) (λI=>(bx I (aX x.1) (bD (.str) x.1 I λJ=>(bcase (decide ((J:List UInt8)=x.2)) (aE I) (cL (cC I)))) (aE (-1)))) 0)
def hP (x:rY×List UInt8):Option (Int):=
 (iter (σ:=Int) (λI=>(bx I (aX x.1) (bD GD x.1 I λJ=>(bcase (decide ((J.2.2.1:List UInt8)=x.2)) (aE I) (cL (cC I)))) (aE (-1)))) 0)
def gO (x:(List rX)×List UInt8):Option (Int):=
 (iter (σ:=Int) (λI=>(bx I (aX x.1) (bD sQ x.1 I λJ=>(bcase (decide ((J.1:List UInt8)=x.2)) (aE I) (cL (cC I)))) (aE (-1)))) 0)
def pE (x:(rY×List rX)×Int×List UInt8):Option (Int):=
 (jn (α:=Bool×rY×List rX) (iR 0 x.2.1 (bx x.2.1 (aX x.1.2) (bD sQ x.1.2 x.2.1 λz2=>(obind (iU (z2.2.2.1,x.2.2)) λy3=>(aE ((c7 0 y3),x.1)))) (aE (aj,x.1))) (aE (aj,x.1))) λI=>(bcase I.1 (af 8) (obind (hP (I.2.1,x.2.2)) λM=>(bx M 0 (obind (gO (I.2.2,x.2.2)) λy5=>(iR 0 y5 (af 7) (af 0))) (uO M I.2.1 (lt ((aJ (T:=GD) I.2.1 M).1) λJ=>(bd J 1 (bD GD I.2.1 M λZ=>(jd Z.2.2.2.1 0 (af 2) (af 1))) (bd J 2 (af 1) (jn (α:=Bool×rY×List rX) (bd J 3 (aE ((decide ((J:Int)=3)),I.2)) (bd J 4 (aE ((decide ((J:Int)=4)),I.2)) (bd J 5 (aE ((decide ((J:Int)=5)),I.2)) (aE ((decide ((J:Int)=6)),I.2))))) λU=>(bcase U.1 (bD GD U.2.1 M λY=>(af Y.1)) (af 9)))))))))))
def gC (x:(rY×List rX)×Int×(List UInt8)×Int×Int):Option (Int):=
 (obind (pE (x.1,x.2.1,x.p2)) λI=>(bd I 0 (af 5) (jn (α:=Bool) (jd I x.p3 (aE (!decide ((I:Int)=x.q4))) (aE aj)) λJ=>(bcase J (af 6) (af 0)))))
def uy (rr04_Nodes:Xp->Option (Int×Int)) (x:Xp):Option (Int×Int):=
 (iter (σ:=(Int×Int×Int)×Xp) (λI=>(bx I.1.2.2 (aO (al (Xp.l I.2))) (bD (.ex) (Xp.l I.2) I.1.2.2 λM=>(obind (rr04_Nodes M) λJ=>(cL (((bk .i64 (I.1.1+J.1)),(ik I.1.2.1 J.2),(cC I.1.2.2)),dZ ((Xp.op I.2),(Xp.n I.2),(Xp.name I.2),(Xp.l I.2)))))) (aE (I.1.1,(cC I.1.2.1))))) ((1,0,0),dZ ((Xp.op x),(Xp.n x),(Xp.name x),(Xp.l x))))
def m7:Nat->Xp->Option (Int×Int)
 |0,_=>ah
 |n+1,x=>uy (m7 n) x
theorem yg (n:Nat) (x:Xp):m7 (n+1) x=uy (m7 n) x:=rfl
def BO (x:Xp):Option (Int×Int):=m7 fuel x
def ux (rr04_names:((rY×List rX)×Int×Xp)->Option (Int)) (x:(rY×List rX)×Int×Xp):Option (Int):=
 (jn (α:=Int×(rY×List rX)×Xp) (bd (Xp.op x.2.2) 2 (obind (gC (x.1,x.2.1,(Xp.name x.2.2),8,1)) λy2=>(aE (y2,x.1,dZ ((Xp.op x.2.2),(Xp.n x.2.2),(Xp.name x.2.2),(Xp.l x.2.2))))) (bd (Xp.op x.2.2) 3 (obind (gC (x.1,x.2.1,(Xp.name x.2.2),2,2)) λZ=>(aE (Z,x.1,dZ ((Xp.op x.2.2),(Xp.n x.2.2),(Xp.name x.2.2),(Xp.l x.2.2))))) (aE (0,x.1,dZ ((Xp.op x.2.2),(Xp.n x.2.2),(Xp.name x.2.2),(Xp.l x.2.2)))))) λM=>(iter (σ:=(Int×Int)×(rY×List rX)×Xp) (λI=>(jn (α:=Bool×(rY×List rX)×Xp) (bx I.1.2 (aO (al (Xp.l I.2.2))) (aE ((decide ((I.1.1:Int)=0)),I.2.1,dZ ((Xp.op I.2.2),(Xp.n I.2.2),(Xp.name I.2.2),(Xp.l I.2.2)))) (aE (aj,I.2.1,dZ ((Xp.op I.2.2),(Xp.n I.2.2),(Xp.name I.2.2),(Xp.l I.2.2))))) λJ=>(bcase J.1 (bD (.ex) (Xp.l J.2.2) I.1.2 λU=>(obind (rr04_names (J.2.1,x.2.1,U)) λY=>(cL ((Y,(cC I.1.2)),J.2.1,dZ ((Xp.op J.2.2),(Xp.n J.2.2),(Xp.name J.2.2),(Xp.l J.2.2)))))) (aE I.1.1)))) ((M.1,0),M.2.1,dZ ((Xp.op M.2.2),(Xp.n M.2.2),(Xp.name M.2.2),(Xp.l M.2.2)))))
def m6:Nat->((rY×List rX)×Int×Xp)->Option (Int)
 |0,_=>ah
 |n+1,x=>ux (m6 n) x
theorem yf (n:Nat) (x:(rY×List rX)×Int×Xp):m6 (n+1) x=ux (m6 n) x:=rfl
def BN (x:(rY×List rX)×Int×Xp):Option (Int):=m6 fuel x
def mf (x:(rY×List rX)×Int×Xp):Option (Int):=
 (obind (iZ (dZ ((Xp.op x.2.2),(Xp.n x.2.2),(Xp.name x.2.2),(Xp.l x.2.2)))) λU=>(bcase (!U) (af 3) (obind (BO (dZ ((Xp.op x.2.2),(Xp.n x.2.2),(Xp.name x.2.2),(Xp.l x.2.2)))) λJ=>(jn (α:=Bool×(rY×List rX)×Xp) (bx 24 J.1 (aE (ai,x.1,dZ ((Xp.op x.2.2),(Xp.n x.2.2),(Xp.name x.2.2),(Xp.l x.2.2)))) (aE ((fO 6 J.2),x.1,dZ ((Xp.op x.2.2),(Xp.n x.2.2),(Xp.name x.2.2),(Xp.l x.2.2))))) λI=>(bcase I.1 (af 2) (obind (BN (I.2.1,x.2.1,dZ ((Xp.op I.2.2),(Xp.n I.2.2),(Xp.name I.2.2),(Xp.l I.2.2)))) λM=>(af M)))))))
def c8 (x:Bool):Option (Int):=
 (bcase x (af 7) (af 0))
def iT (x:Int×Int):Option (Int):=
 (jd x.1 0 (af x.1) (af x.2))
def dT (x:(Int×Int×List UInt8)×qS×(Bool×List Sx)×ca×List (List UInt8)):Option (Bool×qS×(Bool×List Sx)×ca×List (List UInt8)):=
 (iter (σ:=Int×qS×(Bool×List Sx)×ca×List (List UInt8)) (λI=>(bx I.1 (aX I.p2.2) (kz (.sm) I.p2.2 I.1 λJ=>(jn (α:=Bool×qS×(Bool×List Sx)×ca×List (List UInt8)) (bd (Sx.op J) x.1.1 (bcase (decide ((x.1.2.2:List UInt8)=([]))) (aE (ai,I.2)) (aE ((decide (((Sx.name J):List UInt8)=x.1.2.2)),I.2))) (bd (Sx.op J) x.1.2.1 (bcase (decide ((x.1.2.2:List UInt8)=([]))) (aE (ai,I.2)) (aE ((decide (((Sx.name J):List UInt8)=x.1.2.2)),I.2))) (aE (aj,I.2)))) λM=>(bcase M.1 (aE (ai,M.2)) (cL ((cC I.1),M.2))))) (aE (aj,I.2)))) (0,x.2))
def me (x:Sx×qS×(Bool×List Sx)×ca×List (List UInt8)):Option (Int×qS×(Bool×List Sx)×ca×List (List UInt8)):=
 (obind (dT ((7,7,[]),x.2)) λy1=>(bB (aC (al x.q4) (al y1.q4)&&(aC (al x.p3) (al y1.p3)&&(((x.p2.1==y1.p2.1)&&ai)&&aC (al x.p2.2) (al y1.p2.2)&&ai))) (obind (dT ((8,8,[]),y1.2)) λy2=>(bB (aC (al y1.q4) (al y2.q4)&&(aC (al y1.p3) (al y2.p3)&&(((y1.p2.1==y2.p2.1)&&ai)&&aC (al y1.p2.2) (al y2.p2.2)&&ai))) (obind (dT ((3,3,[]),y2.2)) λy3=>(bB (aC (al y2.q4) (al y3.q4)&&(aC (al y2.p3) (al y3.p3)&&(((y2.p2.1==y3.p2.1)&&ai)&&aC (al y2.p2.2) (al y3.p2.2)&&ai))) (bd (Sx.op x.1) 1 (bd (aO (al (Sx.index x.1))) 0 (obind (gC ((x.2.1.1,x.2.1.2.1),x.2.1.2.2,(Sx.name x.1),8,1)) λy4=>(obind (mf ((x.2.1.1,x.2.1.2.1),x.2.1.2.2,dZ ((Xp.op (Sx.expr x.1)),(Xp.n (Sx.expr x.1)),(Xp.name (Sx.expr x.1)),(Xp.l (Sx.expr x.1))))) λy5=>(obind (iT (y4,y5)) λy6=>(af (y6,y3.2))))) (obind (gC ((x.2.1.1,x.2.1.2.1),x.2.1.2.2,(Sx.name x.1),2,2)) λy7=>(bD (.ex) (Sx.index x.1) 0 λz8=>(obind (mf ((x.2.1.1,x.2.1.2.1),x.2.1.2.2,z8)) λy9=>(obind (mf ((x.2.1.1,x.2.1.2.1),x.2.1.2.2,dZ ((Xp.op (Sx.expr x.1)),(Xp.n (Sx.expr x.1)),(Xp.name (Sx.expr x.1)),(Xp.l (Sx.expr x.1))))) λy10=>(obind (iT (y9,y10)) λy11=>(obind (iT (y7,y11)) λy12=>(af (y12,y3.2))))))))) (jn (α:=Bool×qS×(Bool×List Sx)×Sx×(rY×List rX)×ca×List (List UInt8)) (bd (Sx.op x.1) 2 (aE ((decide (((Sx.op x.1):Int)=2)),y3.2.1,y3.p2,d_ x.1,(x.2.1.1,x.2.1.2.1),y3.q3)) (aE ((decide (((Sx.op x.1):Int)=3)),y3.2.1,y3.p2,d_ x.1,(x.2.1.1,x.2.1.2.1),y3.q3))) λM=>(bcase M.1 (obind (mf (M.p4,x.2.1.2.2,dZ ((Xp.op (Sx.expr M.p3)),(Xp.n (Sx.expr M.p3)),(Xp.name (Sx.expr M.p3)),(Xp.l (Sx.expr M.p3))))) λy14=>(af (y14,M.2.1,M.p2,M.q5))) (bd (Sx.op x.1) 4 (jn (α:=Int×qS×(Bool×List Sx)×ca×List (List UInt8)) (obind (gC (M.p4,x.2.1.2.2,(Sx.name M.p3),3,3)) λy16=>(bcase y1.1 (obind (c8 ai) λy17=>(obind (iT (y16,y17)) λy18=>(aE (y18,M.2.1,M.p2,M.q5)))) (obind (dT ((4,4,(Sx.name M.p3)),M.2.1,M.p2,M.q5)) λy19=>(bB (aC (al M.q6) (al y19.q4)&&(aC (al M.p5) (al y19.p3)&&(((M.p2.1==y19.p2.1)&&ai)&&aC (al M.p2.2) (al y19.p2.2)&&ai))) (obind (c8 y19.1) λy20=>(obind (iT (y16,y20)) λy21=>(aE (y21,y19.2)))))))) λx15=>(af x15)) (jn (α:=Bool×qS×(Bool×List Sx)×Sx×(rY×List rX)×ca×List (List UInt8)) (bd (Sx.op x.1) 5 (aE ((decide (((Sx.op x.1):Int)=5)),M.2.1,M.p2,d_ M.p3,M.q4)) (aE ((decide (((Sx.op x.1):Int)=6)),M.2.1,M.p2,d_ M.p3,M.q4))) λJ=>(bcase J.1 (jn (α:=Int×qS×(Bool×List Sx)×ca×List (List UInt8)) (obind (gC (J.p4,x.2.1.2.2,(Sx.name J.p3),4,4)) λy24=>(bcase y1.1 (obind (c8 ai) λy25=>(obind (iT (y24,y25)) λy26=>(aE (y26,J.2.1,J.p2,J.q5)))) (obind (dT ((5,6,(Sx.name J.p3)),J.2.1,J.p2,J.q5)) λy27=>(bB (aC (al J.q6) (al y27.q4)&&(aC (al J.p5) (al y27.p3)&&(((J.p2.1==y27.p2.1)&&ai)&&aC (al J.p2.2) (al y27.p2.2)&&ai))) (obind (c8 y27.1) λy28=>(obind (iT (y24,y28)) λy29=>(aE (y29,y27.2)))))))) λx23=>(af x23)) (bd (Sx.op x.1) 7 (obind (c8 y1.1) λy30=>(af (y30,J.2.1,J.p2,J.q5))) (bd (Sx.op x.1) 8 (jn (α:=Int×qS×(Bool×List Sx)×ca×List (List UInt8)) (bcase y1.1 (obind (c8 ai) λy32=>(aE (y32,J.2.1,J.p2,J.q5))) (obind (c8 y2.1) λy33=>(aE (y33,J.2.1,J.p2,J.q5)))) λx31=>(af x31)) (jn (α:=Bool×qS×(Bool×List Sx)×Sx×(rY×List rX)×ca×List (List UInt8)) (bd (Sx.op x.1) 9 (aE ((decide (((Sx.op x.1):Int)=9)),J.2.1,J.p2,d_ J.p3,J.q4)) (bd (Sx.op x.1) 10 (aE ((decide (((Sx.op x.1):Int)=10)),J.2.1,J.p2,d_ J.p3,J.q4)) (aE ((decide (((Sx.op x.1):Int)=11)),J.2.1,J.p2,d_ J.p3,J.q4)))) λI=>(bcase I.1 (obind (gC (I.p4,x.2.1.2.2,(Sx.name I.p3),5,5)) λy35=>(jd y35 0 (af (y35,I.2.1,I.p2,I.q5)) (obind (hP (I.p4.1,(Sx.name I.p3))) λy36=>(bD GD I.p4.1 y36 λz37=>(obind (dT ((4,4,z37.2.2.2.2.2),I.2.1,I.p2,I.q5)) λy38=>(bB (aC (al I.q6) (al y38.q4)&&(aC (al I.p5) (al y38.p3)&&(((I.p2.1==y38.p2.1)&&ai)&&aC (al I.p2.2) (al y38.p2.2)&&ai))) (jn (α:=Int×qS×(Bool×List Sx)×ca×List (List UInt8)) (bcase y1.1 (obind (c8 ai) λy40=>(aE (y40,y38.2))) (bcase (!y38.1) (obind (c8 ai) λy41=>(aE (y41,y38.2))) (bd (Sx.op I.p3) 9 (obind (c8 y2.1) λy42=>(aE (y42,y38.2))) (obind (c8 aj) λy43=>(aE (y43,y38.2)))))) λx39=>(af x39)))))))) (bd (Sx.op x.1) 12 (obind (gC (I.p4,x.2.1.2.2,(Sx.name I.p3),7,7)) λy44=>(jd y44 0 (af (y44,I.2.1,I.p2,I.q5)) (obind (gO (I.p4.2,(Sx.name I.p3))) λy45=>(jn (α:=Bool×qS×(Bool×List Sx)×Sx×ca×List (List UInt8)) (bcase y1.1 (aE (ai,I.2.1,I.p2,d_ I.p3,I.q5)) (bcase y2.1 (aE (ai,I.2.1,I.p2,d_ I.p3,I.q5)) (bcase y3.1 (aE (ai,I.2.1,I.p2,d_ I.p3,I.q5)) (bd y45 x.2.1.2.2 (aE (ai,I.2.1,I.p2,d_ I.p3,I.q5)) (aE ((decide ((y45:Int)=0)),I.2.1,I.p2,d_ I.p3,I.q5)))))) λU=>(bcase U.1 (af (7,U.2.1,U.p2,U.q4)) (obind (iU (U.p4,(Sx.name U.p3))) λy47=>(iR 0 y47 (af (8,U.2.1,U.p2,U.q4)) (bB (a_ (al U.p4+al ([(Sx.name U.p3)])) 16) (af (0,U.2.1,U.p2,(U.p4++([(Sx.name U.p3)])),U.q5)))))))))) (bd (Sx.op x.1) 13 (jn (α:=Int×qS×(Bool×List Sx)×ca×List (List UInt8)) (obind (gC (I.p4,x.2.1.2.2,(Sx.name I.p3),7,7)) λy49=>(bcase y1.1 (obind (c8 ai) λy50=>(obind (iT (y49,y50)) λy51=>(aE (y51,I.2.1,I.p2,I.q5)))) (bcase y2.1 (obind (c8 ai) λy52=>(obind (iT (y49,y52)) λy53=>(aE (y53,I.2.1,I.p2,I.q5)))) (obind (gO (I.p4.2,(Sx.name I.p3))) λy54=>(obind (c8 (decide ((y54:Int)=x.2.1.2.2))) λy55=>(obind (iT (y49,y55)) λy56=>(aE (y56,I.2.1,I.p2,I.q5)))))))) λx48=>(af x48)) (bd (Sx.op x.1) 14 (jn (α:=Int×qS×(Bool×List Sx)×Sx×(rY×List rX)×ca×List (List UInt8)) (obind (gC (I.p4,x.2.1.2.2,(Sx.name I.p3),6,6)) λy58=>(bcase y1.1 (obind (c8 ai) λy59=>(obind (iT (y58,y59)) λy60=>(aE (y60,I.2.1,I.p2,d_ I.p3,I.q4)))) (obind (c8 y3.1) λy61=>(obind (iT (y58,y61)) λy62=>(aE (y62,I.2.1,I.p2,d_ I.p3,I.q4)))))) λZ=>(jn (α:=Int×qS×(Bool×List Sx)×Sx×(rY×List rX)×ca×List (List UInt8)) (jn (α:=Bool×qS×(Bool×List Sx)×Sx×(rY×List rX)×ca×List (List UInt8)) (bd Z.1 0 (obind (iU (Z.q6,(Sx.name Z.p3))) λy65=>(aE ((c7 0 y65),Z.2.1,Z.p2,d_ Z.p3,Z.q4))) (aE (aj,Z.2.1,Z.p2,d_ Z.p3,Z.q4))) λx64=>(bcase x64.1 (aE (8,x64.2.1,x64.p2,d_ x64.p3,x64.q4)) (aE (Z.1,x64.2.1,x64.p2,d_ x64.p3,x64.q4)))) λY=>(bB (a_ (al Y.q6+al ([(Sx.name Y.p3)])) 16) (obind (mf (Y.p4,x.2.1.2.2,dZ ((Xp.op (Sx.expr Y.p3)),(Xp.n (Sx.expr Y.p3)),(Xp.name (Sx.expr Y.p3)),(Xp.l (Sx.expr Y.p3))))) λy66=>(obind (iT (Y.1,y66)) λy67=>(af (y67,Y.2.1,Y.p2,Y.p5,(Y.q6++([(Sx.name Y.p3)]))))))))) (obind (gC (I.p4,x.2.1.2.2,(Sx.name I.p3),8,8)) λy68=>(obind (gC (I.p4,x.2.1.2.2,(Sx.arg I.p3),6,6)) λy69=>(obind (c8 y1.1) λy70=>(obind (iT (y69,y70)) λy71=>(obind (iT (y68,y71)) λy72=>(af (y72,I.2.1,I.p2,I.q5))))))))))))))))))))))))))
def mi (rr04_walk_all:((List Sx)×qS×(Bool×List Sx)×ca×List (List UInt8))->Option afo) (x:(List Sx)×qS×(Bool×List Sx)×ca×List (List UInt8)):Option afo:=
 (iter (σ:=Int×qS×(Bool×List Sx)×ca×List (List UInt8)) (λU=>(bx U.1 (aX x.1) (bD (.sm) x.1 U.1 λZ=>(obind (me (d_ Z,U.2)) λY=>(bB (aC (al U.q4) (al U.q4)&&(aC (al U.p3) (al U.p3)&&(((U.p2.1==Y.p2.1)&&ai)&&aC (al U.p2.2) (al Y.p2.2)&&ai))) (jn (α:=Int×qS×Sx×(Bool×List Sx)×ca×List (List UInt8)) (bx 6 (bk .i64 ((aX Y.p2.2)+1)) (aE (2,Y.2.1,d_ Z,Y.2.2)) (aE (Y.1,Y.2.1,d_ Z,Y.2.2))) λI=>(jd I.1 0 (aE ((I.1,(Sx.line I.p2)),I.2.1,I.q3)) (bB (a_ (al I.p3.2+al ([nJ (0,0,[],[],([]:List Xp),dZ (0,0,[],([]:List Xp)),([]:List Sx),([]:List Sx))])) 176) (ck (fe (aX I.p3.2) (al (I.p3.2++([nJ (0,0,[],[],([]:List Xp),dZ (0,0,[],([]:List Xp)),([]:List Sx),([]:List Sx))])))) (obind (rr04_walk_all ((Sx.body I.p2),I.2.1,(I.p3.1,(cQ (I.p3.2++([nJ (0,0,[],[],([]:List Xp),dZ (0,0,[],([]:List Xp)),([]:List Sx),([]:List Sx))])) (aX I.p3.2) (d_ I.p2))),I.q4)) λM=>(bB (aC (al I.q5) (al I.q5)&&(aC (al I.p4) (al I.p4)&&(((I.p3.1==I.p3.1)&&ai)&&aC (al (cQ (I.p3.2++([nJ (0,0,[],[],([]:List Xp),dZ (0,0,[],([]:List Xp)),([]:List Sx),([]:List Sx))])) (aX I.p3.2) (d_ I.p2))) (al (cQ (I.p3.2++([nJ (0,0,[],[],([]:List Xp),dZ (0,0,[],([]:List Xp)),([]:List Sx),([]:List Sx))])) (aX I.p3.2) (d_ I.p2)))&&ai))) (jn (α:=(Int×Int)×qS×(Bool×List Sx)×ca×List (List UInt8)) (bd M.1.1 0 (obind (rr04_walk_all ((Sx.els I.p2),M.2)) λy7=>(bB (aC (al M.q4) (al M.q4)&&(aC (al M.p3) (al M.p3)&&(((M.p2.1==M.p2.1)&&ai)&&aC (al M.p2.2) (al M.p2.2)&&ai))) (aE y7))) (aE M)) λJ=>(bB (c7 0 (bk .i64 ((aX J.p2.2)-1))&&fO (bk .i64 ((aX J.p2.2)-1)) (al J.p2.2)) (jd J.1.1 0 (aE (J.1,J.2.1,(aj,(dO (aT (bk .i64 ((aX J.p2.2)-1))) J.p2.2)),J.q3)) (cL ((cC U.1),J.2.1,(aj,(dO (aT (bk .i64 ((aX J.p2.2)-1))) J.p2.2)),J.q3)))))))))))))) (aE ((0,0),U.2)))) (0,x.2))
def iz:Nat->((List Sx)×qS×(Bool×List Sx)×ca×List (List UInt8))->Option afo
 |0,_=>ah
 |n+1,x=>mi (iz n) x
theorem B2 (n:Nat) (x:(List Sx)×qS×(Bool×List Sx)×ca×List (List UInt8)):iz (n+1) x=mi (iz n) x:=rfl
def vJ (x:(List Sx)×qS×(Bool×List Sx)×ca×List (List UInt8)):Option afo:=iz fuel x
def uz (rr04_Count:(List Sx)->Option (Int)) (x:List Sx):Option (Int):=
 (iter (σ:=Int×Int) (λI=>(bx I.2 (aX x) (uO I.2 x (lt (Sx.body (aJ (T:=.sm) x I.2)) λM=>(obind (rr04_Count M) λY=>(uO I.2 x (lt (Sx.els (aJ (T:=.sm) x I.2)) λJ=>(obind (rr04_Count J) λU=>(cL ((bk .i64 ((bk .i64 (I.1+Y))+U)),(cC I.2))))))))) (aE I.1))) ((aX x),0))
def m8:Nat->(List Sx)->Option (Int)
 |0,_=>ah
 |n+1,x=>uz (m8 n) x
theorem yh (n:Nat) (x:List Sx):m8 (n+1) x=uz (m8 n) x:=rfl
def BP (x:List Sx):Option (Int):=m8 fuel x
def rq (x:List acb):Option (Int×Int):=
 (iter (σ:=Int×Int×Int×Int×Int) (λI=>(bx I.q4 (aX x) (jn (α:=Int×Int×Int×Int) (bD GD x I.q4 λJ=>(bB (c7 0 I.q4&&c7 I.q4 (al x)) (obind (hP ((dO (aT I.q4) x),J.p2)) λy4=>(iR 0 y4 (cL (bQ (4,J.2.1))) (bx 4 J.p3 (cL (bQ (2,J.2.1))) (jn (α:=(Int×Int×Int×Int)×Int×Int×(List UInt8)×Int×Int×List UInt8) (jn (α:=Bool×Int×Int×(List UInt8)×Int×Int×List UInt8) (bd J.1 1 (aE ((decide ((J.1:Int)=1)),J)) (aE ((decide ((J.1:Int)=2)),J))) λY=>(bcase Y.1 (aE (((bk .i64 (I.1+(ik Y.p4 1))),I.2.1,I.p2,I.p3),Y.2)) (jn (α:=Bool×Int×Int×(List UInt8)×Int×Int×List UInt8) (bd J.1 3 (aE ((decide ((J.1:Int)=3)),Y.2)) (aE ((decide ((J.1:Int)=4)),Y.2))) λZ=>(bcase Z.1 (aE ((I.1,(cC I.2.1),I.p2,I.p3),Z.2)) (bd J.1 5 (aE ((I.1,I.2.1,(cC I.p2),I.p3),Z.2)) (aE ((I.1,I.2.1,I.p2,(cC I.p3)),Z.2))))))) λM=>(jn (α:=Bool×Int×Int×(List UInt8)×Int×Int×List UInt8) (bx 12 M.1.1 (aE (ai,M.2)) (bx 4 M.1.2.1 (aE (ai,M.2)) (bx 2 M.1.p2 (aE (ai,M.2)) (aE ((fO 2 M.1.q3),M.2))))) λU=>(bcase U.1 (cL (bQ (2,U.p2))) (bd U.2.1 5 (bB (c7 0 I.q4&&c7 I.q4 (al x)) (obind (hP ((dO (aT I.q4) x),U.q6)) λy9=>(bx y9 0 (cL (bQ (5,U.p2))) (bD GD x y9 λz10=>(jd z10.1 3 (cL (bQ (6,U.p2))) (aE M.1)))))) (aE M.1)))))))))) λx2=>(cL (x2.1,x2.2.1,x2.p2,x2.q3,(cC I.q4)))) (aE (0,0)))) (0,0,0,0,0))
def nF (x:rY×List rX):Option (Int×Int):=
 (iter (σ:=Int×rY×List rX) (λJ=>(bx J.1 (aX J.2.2) (bD sQ J.2.2 J.1 λY=>(jn (α:=Bool×(rY×List rX)×(List UInt8)×Int×ca×List Sx) (obind (hP (J.2.1,Y.1)) λy4=>(iR 0 y4 (aE (ai,J.2,Y)) (bB (c7 0 J.1&&c7 J.1 (al J.2.2)) (obind (gO ((dO (aT J.1) J.2.2),Y.1)) λy5=>(aE ((c7 0 y5),J.2,Y)))))) λx3=>(bcase x3.1 (aE (4,x3.p3)) (cL ((cC J.1),x3.2.1))))) (obind (iter (σ:=Int×rY×List rX) (λU=>(bx U.1 (aX U.2.2) (bD sQ U.2.2 U.1 λz7=>(bx 4 (aX z7.p2) (aE (2,z7.2.1)) (iter (σ:=Int×(rY×List rX)×(List UInt8)×Int×ca×List Sx) (λI=>(bx I.1 (aX I.p4) (bD (.str) I.p4 I.1 λZ=>(jn (α:=Bool×(rY×List rX)×(List UInt8)×Int×ca×List Sx) (obind (hP (I.2.1.1,Z)) λy11=>(iR 0 y11 (aE (ai,I.2)) (obind (gO (I.2.1.2,Z)) λy12=>(iR 0 y12 (aE (ai,I.2)) (bB (c7 0 I.1&&c7 I.1 (al I.p4)) (obind (iU ((dO (aT I.1) I.p4),Z)) λy13=>(aE ((c7 0 y13),I.2)))))))) λM=>(bcase M.1 (aE (bQ (4,M.p3))) (cL ((cC I.1),M.2))))) (aE (mm ((cC U.1),I.2.1))))) (0,U.2,z7)))) (aE (0,0)))) (0,J.2)) λr=>af (bQ r)))) (0,x))
def fk (x:rY×List rX):Option (Int×Int):=
 (obind (pG x) λy1=>(bcase (!y1) (af (3,0)) (obind (rq x.1) λY=>(jd Y.1 0 (af Y) (bx 4 (aX x.2) (af (2,0)) (obind (nF x) λU=>(jd U.1 0 (af U) (iter (σ:=(Int×Int)×rY×List rX) (λJ=>(bx J.1.2 (aX J.2.2) (bD sQ J.2.2 J.1.2 λz5=>(obind (BP z5.2.2.2) λy6=>(cL (((bk .i64 (J.1.1+y6)),(cC J.1.2)),J.2)))) (obind (bx 60 J.1.1 (af (2,0)) (iter (σ:=Int×(rY×List rX)×qS×(Bool×List Sx)×ca×List (List UInt8)) (λI=>(bx I.1 (aX I.2.1.2) (bD sQ I.2.1.2 I.1 λZ=>(obind (vJ (Z.2.2.2,(I.p2.1,I.p2.2.1,I.1),I.q3)) λM=>(bB (aC (al I.q5) (al I.q5)&&(aC (al I.p4) (al I.p4)&&(((I.p3.1==I.p3.1)&&ai)&&aC (al I.p3.2) (al I.p3.2)&&ai))) (jd M.1.1 0 (aE M.1) (cL ((cC I.1),I.2.1,M.2)))))) (aE (0,0)))) (0,J.2,(J.2.1,J.2.2,0),(ai,([]:List Sx)),([]:List (List UInt8)),([]:List (List UInt8))))) λr=>af (bQ r)))) ((0,0),x)))))))))
def xA (rr06_sites:((Int×Int×List Sx)×List (Int×Int×Int))->Option (Int×List (Int×Int×Int))) (x:(Int×Int×List Sx)×List (Int×Int×Int)):Option (Int×List (Int×Int×Int)):=
 (iter (σ:=(Int×Int)×List (Int×Int×Int)) (λI=>(bx I.1.2 (aX x.1.2.2) (uO I.1.2 x.1.2.2 (lt (Sx.line (aJ (T:=.sm) x.1.2.2 I.1.2)) λJ=>(bB (a_ (al I.2+al ([(x.1.1,I.1.1,J)])) 24) (uO I.1.2 x.1.2.2 (lt (Sx.body (aJ (T:=.sm) x.1.2.2 I.1.2)) λZ=>(obind (rr06_sites ((x.1.1,(cC I.1.1),Z),(I.2++([(x.1.1,I.1.1,J)])))) λM=>(bB (aC (al (I.2++([(x.1.1,I.1.1,J)]))) (al (I.2++([(x.1.1,I.1.1,J)])))&&ai) (uO I.1.2 x.1.2.2 (lt (Sx.els (aJ (T:=.sm) x.1.2.2 I.1.2)) λY=>(obind (rr06_sites ((x.1.1,M.1,Y),M.2)) λU=>(bB (aC (al M.2) (al M.2)&&ai) (cL ((U.1,(cC I.1.2)),U.2))))))))))))) (aE (I.1.1,I.2)))) ((x.1.2.1,0),x.2))
def pn:Nat->((Int×Int×List Sx)×List (Int×Int×Int))->Option (Int×List (Int×Int×Int))
 |0,_=>ah
 |n+1,x=>xA (pn n) x
theorem G5 (n:Nat) (x:(Int×Int×List Sx)×List (Int×Int×Int)):pn (n+1) x=xA (pn n) x:=rfl
def Is (x:(Int×Int×List Sx)×List (Int×Int×Int)):Option (Int×List (Int×Int×Int)):=pn fuel x
def j_ (x:gu×List UInt8):Option (Int):=
 (iter (σ:=Int) (λI=>(bx I (aX x.1) (bD qT x.1 I λJ=>(bcase (decide ((J.1:List UInt8)=x.2)) (aE I) (cL (cC I)))) (aE (-1)))) 0)
def lj (x:dD×List UInt8):Option (Int):=
 (iter (σ:=Int×gK×gu×(List fm)×ca×ca×List (Int×Int×Int)) (λI=>(bx I.1 (aX I.2.1) (bD kw I.2.1 I.1 λJ=>(bcase (decide ((J.1:List UInt8)=x.2)) (aE I.1) (cL ((cC I.1),I.2)))) (aE (-1)))) (0,x.1))
def uj (x:rY×List rX):Option dD:=
 (obind (fk x) λy1=>(jd y1.1 0 (af (([]:List SD),([]:List ((List UInt8)×Bool)),([]:List fm),([]:List (List UInt8)),([]:List (List UInt8)),([]:List (Int×Int×Int)))) (iter (σ:=Int×(rY×List rX)×gK×gu×(List fm)×List (List UInt8)) (λU=>(bx U.1 (aX U.2.1.1) (bD GD U.2.1.1 U.1 λY=>(jn (α:=(rY×List rX)×gK×gu×(List fm)×List (List UInt8)) (jn (α:=Bool×(rY×List rX)×acb×gK×gu×(List fm)×List (List UInt8)) (bd Y.1 1 (aE ((decide ((Y.1:Int)=1)),U.2.1,Y,U.2.2)) (aE ((decide ((Y.1:Int)=2)),U.2.1,Y,U.2.2))) λx5=>(bcase x5.1 (iter (σ:=Int×(rY×List rX)×acb×gK×gu×(List fm)×List (List UInt8)) (λJ=>(bx J.1 (ik J.p2.p3 1) (bB (a_ (al J.p3+al ([(J.p2.p2,J.1,J.p2.p3,(decide ((J.p2.1:Int)=2)),J.p2.p4)])) 48) (cL ((cC J.1),J.2.1,J.p2,(J.p3++([(J.p2.p2,J.1,J.p2.p3,(decide ((J.p2.1:Int)=2)),J.p2.p4)])),J.q4))) (aE (bQ (J.2.1,J.q3))))) (0,x5.2)) (jn (α:=Bool×(rY×List rX)×acb×gK×gu×(List fm)×List (List UInt8)) (bd Y.1 3 (aE ((decide ((Y.1:Int)=3)),x5.2)) (aE ((decide ((Y.1:Int)=4)),x5.2))) λI=>(bcase I.1 (bB (a_ (al I.p4+al ([(I.p2.p2,(decide ((I.p2.1:Int)=4)))])) 24) (aE (I.2.1,I.p3,(I.p4++([(I.p2.p2,(decide ((I.p2.1:Int)=4)))])),I.q5))) (bd Y.1 5 (obind (j_ (I.p4,I.p2.q5)) λy8=>(bB (a_ (al I.p5+al ([(I.p2.p2,y8)])) 24) (aE (I.2.1,I.p3,I.p4,(I.p5++([(I.p2.p2,y8)])),I.q6)))) (bB (a_ (al I.q6+al ([I.p2.p2])) 16) (aE (I.2.1,I.p3,I.p4,I.p5,(I.q6++([I.p2.p2])))))))))) λx4=>(cL ((cC U.1),x4)))) (obind (iter (σ:=Int×(rY×List rX)×gK×gu×(List fm)×ca×ca×List (Int×Int×Int)) (λM=>(bx M.1 (aX M.2.1.2) (bD sQ M.2.1.2 M.1 λZ=>(bB (a_ (al M.p6+al ([Z.1])) 16) (bD sQ M.2.1.2 M.1 λz11=>(obind (Is ((M.1,0,z11.2.2.2),M.q7)) λy12=>(bB (aC (al M.q7) (al M.q7)&&ai) (cL ((cC M.1),M.2.1,M.p2,M.p3,M.p4,M.p5,(M.p6++([Z.1])),y12.2))))))) (aE M.2.2))) (0,U.2.1,U.p2,U.p3,U.p4,U.q5,([]:List (List UInt8)),([]:List (Int×Int×Int)))) λr=>af (bQ r)))) (0,x,([]:List SD),([]:List ((List UInt8)×Bool)),([]:List fm),([]:List (List UInt8))))))
def pf (x:gK×gu×(List fm)×ca×ca×List (Int×Int×Int)):Option (ca×Bool):=
 (iter (σ:=Int×dD×List (List UInt8)) (λJ=>(bx J.1 (aX J.2.1.1) (jn (α:=Int×dD×List (List UInt8)) (bD kw J.2.1.1 J.1 λU=>(bB (a_ (al J.2.2+al ([U.1])) 16) (bd U.p2 0 (jd U.2.1 0 (cL (bQ (([]:List (List UInt8)),aj))) (aE ((cC J.1),J.2.1,(J.2.2++([U.1]))))) (jn (α:=Bool×dD×ca×(List UInt8)×Int×Int×Bool×Int) (bx U.p2 1 (aE (ai,J.2.1,(J.2.2++([U.1])),U)) (bx 4 U.p2 (aE (ai,J.2.1,(J.2.2++([U.1])),U)) (aE ((fO (bk .i64 ((aX J.2.1.1)-J.1)) U.p2),J.2.1,(J.2.2++([U.1])),U)))) λx4=>(bcase x4.1 (cL (bQ (([]:List (List UInt8)),aj))) (iter (σ:=Int×dD×ca×(List UInt8)×Int×Int×Bool×Int) (λM=>(bx M.1 M.p5 (bD kw M.2.1.1 (bk .i64 (J.1+M.1)) λZ=>(jn (α:=Bool×dD×ca×(List UInt8)×Int×Int×Bool×Int) (jd Z.2.1 M.1 (aE (ai,M.2)) (bcase (!decide ((Z.1:List UInt8)=M.p3)) (aE (ai,M.2)) (jd Z.p2 M.p5 (aE (ai,M.2)) (jd Z.q4 M.q7 (aE (ai,M.2)) (aE (Z.p3,M.2)))))) λx7=>(bcase x7.1 (aE (mm (bQ (([]:List (List UInt8)),aj)))) (cL ((cC M.1),x7.2))))) (aE (bQ ((bk .i64 (J.1+M.p5)),M.2.1,M.p2))))) (0,x4.2))))))) λx2=>(cL x2)) (obind (iter (σ:=Int×dD×List (List UInt8)) (λY=>(bx Y.1 (aX Y.2.1.2.1) (bD qT Y.2.1.2.1 Y.1 λz9=>(bB (a_ (al Y.2.2+al ([z9.1])) 16) (cL ((cC Y.1),Y.2.1,(Y.2.2++([z9.1])))))) (obind (iter (σ:=Int×dD×List (List UInt8)) (λI=>(bx I.1 (aX I.2.1.p2) (bD lh I.2.1.p2 I.1 λz11=>(bB (a_ (al I.2.2+al ([z11.1])) 16) (cL ((cC I.1),I.2.1,(I.2.2++([z11.1])))))) (obind (bB (a_ (al I.2.2+al I.2.1.p3) 16) (bB (a_ (al (I.2.2++I.2.1.p3)+al I.2.1.p4) 16) (af (((I.2.2++I.2.1.p3)++I.2.1.p4),ai)))) λr=>af (bQ r)))) (0,Y.2)) λr=>af (bQ r)))) (0,J.2)) λr=>af (bQ r)))) (0,x,([]:List (List UInt8))))
def g_ (x:gK×gu×(List fm)×ca×ca×List (Int×Int×Int)):Option (Bool):=
 (jn (α:=Bool×gK×gu×(List fm)×ca×ca×List (Int×Int×Int)) (bx 12 (aX x.1) (aE (ai,x)) (bx 4 (aX x.2.1) (aE (ai,x)) (bx 2 (aX x.p2) (aE (ai,x)) (bx 2 (aX x.p3) (aE (ai,x)) (bx (aX x.p4) 1 (aE (ai,x)) (bx 4 (aX x.p4) (aE (ai,x)) (aE ((fO 60 (aX x.q5)),x)))))))) λx1=>(bcase x1.1 (af aj) (obind (pf x1.2) λy2=>(bcase (!y2.2) (af aj) (iter (σ:=Int×gK×gu×(List fm)×ca×ca×List (Int×Int×Int)) (λY=>(bx Y.1 (aX y2.1) (jn (α:=Bool×gK×gu×(List fm)×ca×ca×List (Int×Int×Int)) (bD (.str) y2.1 Y.1 λz5=>(obind (fd z5) λy6=>(bcase (!y6) (aE (ai,Y.2)) (bB (c7 0 Y.1&&c7 Y.1 (al y2.1)) (bD (.str) y2.1 Y.1 λz7=>(obind (iU ((dO (aT Y.1) y2.1),z7)) λy8=>(aE ((c7 0 y8),Y.2)))))))) λx4=>(bcase x4.1 (aE aj) (cL ((cC Y.1),x4.2)))) (obind (iter (σ:=Int×gK×gu×(List fm)×ca×ca×List (Int×Int×Int)) (λM=>(bx M.1 (aX M.p3) (bD lh M.p3 M.1 λz10=>(jn (α:=Bool×gK×gu×(List fm)×ca×ca×List (Int×Int×Int)) (bx z10.2 0 (aE (ai,M.2)) (iR (aX M.p2) z10.2 (aE (ai,M.2)) (bD qT M.p2 z10.2 λz12=>(aE (z12.2,M.2))))) λx11=>(bcase x11.1 (aE aj) (cL ((cC M.1),x11.2))))) (obind (iter (σ:=Int×gK×gu×(List fm)×ca×ca×List (Int×Int×Int)) (λI=>(bx I.1 (aX I.q6) (jn (α:=gK×gu×(List fm)×ca×ca×List (Int×Int×Int)) (bD om I.q6 I.1 λZ=>(jn (α:=Bool×dD×Int×Int×Int) (bx Z.1 0 (aE (ai,I.2,Z)) (aE ((c7 (aX I.p5) Z.1),I.2,Z))) λU=>(bcase U.1 (cL (bQ aj)) (jn (α:=Bool×dD×Int×Int×Int) (bd I.1 0 (aE (ai,U.2)) (bD om U.2.1.q5 (bk .i64 (I.1-1)) λz18=>(aE ((!decide ((z18.1:Int)=U.p2)),U.2)))) λJ=>(bcase J.1 (jn (α:=Bool×gK×gu×(List fm)×ca×ca×List (Int×Int×Int)) (jd J.p3 0 (aE (ai,J.2.1)) (bx 0 I.1 (bD om J.2.1.q5 (bk .i64 (I.1-1)) λz20=>(aE ((fO J.p2 z20.1),J.2.1))) (aE (aj,J.2.1)))) λx19=>(bcase x19.1 (cL (bQ aj)) (aE x19.2))) (bD om J.2.1.q5 (bk .i64 (I.1-1)) λz21=>(jd J.p3 (cC z21.2.1) (cL (bQ aj)) (aE J.2.1)))))))) λx14=>(cL ((cC I.1),x14))) (aE ai))) (0,M.2)) λr=>af (bQ r)))) (0,Y.2)) λr=>af (bQ r)))) (0,x1.2))))))
def jB (x:Int×Int×Int×Int×Int×Int):Option (List Int):=
 (jn (α:=Bool×Int×Int×Int×Int×Int×Int) (bd x.1 1 (aE ((decide ((x.1:Int)=1)),x)) (bd x.1 6 (aE ((decide ((x.1:Int)=6)),x)) (bd x.1 10 (aE ((decide ((x.1:Int)=10)),x)) (aE ((decide ((x.1:Int)=27)),x))))) λM=>(bcase M.1 (af ([M.p2])) (jn (α:=Bool×Int×Int×Int×Int×Int×Int) (bd x.1 2 (aE ((decide ((x.1:Int)=2)),M.2)) (aE ((decide ((x.1:Int)=3)),M.2))) λI=>(bcase I.1 (af ([I.p2,I.p3])) (bd x.1 4 (af ([I.p2,I.p3,I.p4])) (bd x.1 7 (af ([I.p2,I.p4])) (jn (α:=Bool×Int×Int×Int×Int×Int×Int) (bd x.1 8 (aE ((decide ((x.1:Int)=8)),I.2)) (aE ((decide ((x.1:Int)=26)),I.2))) λJ=>(bcase J.1 (af ([J.p3])) (bd x.1 9 (af ([J.p3,J.p4])) (af ([]:List Int)))))))))))
def pD (x:Int):Option (Bool):=
 (jn (α:=Bool) (iR 1 x (aE (c7 x 5)) (aE aj)) λI=>(af I))
def pg (x:(List jQ)×Int):Option (Bool):=
 (iter (σ:=Int×Int) (λI=>(iR I.2 (aX x.1) (jn (α:=Int) (jn (α:=Bool) (bx I.1 0 (aE ai) (aE (c7 (aX x.1) I.1))) λZ=>(bcase Z (cL (bQ aj)) (bD qR x.1 I.1 λU=>(obind (pD U.1) λY=>(bcase (!Y) (cL (bQ ai)) (bD qR x.1 I.1 λM=>(bd M.1 5 (bD qR x.1 I.1 λJ=>(aE J.2.1)) (aE (cC I.1))))))))) λx2=>(cL (x2,(cC I.2)))) (aE aj))) (x.2,0))
def jh (x:Int×Int):Option (Bool):=
 (jn (α:=Bool) (iR 0 x.1 (aE (fO x.1 x.2)) (aE aj)) λI=>(af I))
def mW (x:dD×Int×Int):Option (Bool):=
 (jn (α:=Bool) (obind (jh (x.2.1,(aX x.1.1))) λU=>(bcase U (bD kw x.1.1 x.2.1 λM=>(bd M.2.1 0 (bD kw x.1.1 x.2.1 λJ=>(jd J.2.2.1 0 (bD kw x.1.1 x.2.1 λI=>(aE (decide ((I.2.2.1:Int)=x.2.2)))) (aE aj))) (aE aj))) (aE aj))) λY=>(af Y))
def lz (x:dD×Int×Int×Int×Int×Int×Int):Option (Bool):=
 (bd x.2.1 6 (jn (α:=Bool) (obind (jh (x.p3,(aX x.1.1))) λy2=>(bcase y2 (bD kw x.1.1 x.p3 λz3=>(aE (decide ((z3.2.2.1:Int)=0)))) (aE aj))) λx1=>(af x1)) (bd x.2.1 8 (jn (α:=Bool) (obind (jh (x.p2,(aX x.1.1))) λy5=>(bcase y5 (bD kw x.1.1 x.p2 λz6=>(aE (decide ((z6.2.2.1:Int)=0)))) (aE aj))) λx4=>(af x4)) (bd x.2.1 7 (obind (mW (x.1,x.p3,x.p5)) λy7=>(af y7)) (bd x.2.1 9 (obind (mW (x.1,x.p2,x.p5)) λy8=>(af y8)) (jn (α:=Bool×dD×Int×Int×Int×Int×Int×Int) (bd x.2.1 11 (aE ((decide ((x.2.1:Int)=11)),x)) (aE ((decide ((x.2.1:Int)=12)),x))) λU=>(bcase U.1 (jn (α:=Bool) (obind (jh (U.p3,(aX U.2.1.2.1))) λy11=>(bcase y11 (bD qT U.2.1.2.1 U.p3 λZ=>(aE (!Z.2))) (aE aj))) λx10=>(af x10)) (jn (α:=Bool×dD×Int×Int×Int×Int×Int×Int) (bd x.2.1 13 (aE ((decide ((x.2.1:Int)=13)),U.2)) (bd x.2.1 14 (aE ((decide ((x.2.1:Int)=14)),U.2)) (bd x.2.1 15 (aE ((decide ((x.2.1:Int)=15)),U.2)) (aE ((decide ((x.2.1:Int)=16)),U.2))))) λJ=>(bcase J.1 (jn (α:=Bool) (obind (jh (J.p3,(aX J.2.1.2.1))) λy15=>(bcase y15 (bD qT J.2.1.2.1 J.p3 λY=>(aE Y.2)) (aE aj))) λx14=>(af x14)) (jn (α:=Bool×dD×Int×Int×Int×Int×Int×Int) (bd x.2.1 21 (aE ((decide ((x.2.1:Int)=21)),J.2)) (bd x.2.1 22 (aE ((decide ((x.2.1:Int)=22)),J.2)) (aE ((decide ((x.2.1:Int)=23)),J.2)))) λM=>(bcase M.1 (obind (jh (M.p3,(aX M.2.1.p2))) λy18=>(af y18)) (jn (α:=Bool×dD×Int×Int×Int×Int×Int×Int) (bd x.2.1 24 (aE ((decide ((x.2.1:Int)=24)),M.2)) (aE ((decide ((x.2.1:Int)=25)),M.2))) λI=>(bcase I.1 (obind (jh (I.p3,(aX I.2.1.p4))) λy20=>(af y20)) (bd x.2.1 26 (obind (jh (I.p3,(aX I.2.1.p3))) λy21=>(af y21)) (bd x.2.1 27 (obind (jh (I.p4,(aX I.2.1.p3))) λy22=>(af y22)) (bd x.2.1 3 (jn (α:=Bool) (bd I.p6 4 (aE ai) (aE (decide ((I.p6:Int)=5)))) λx23=>(af x23)) (bd x.2.1 4 (jn (α:=Bool) (iR 6 I.p6 (aE (c7 I.p6 18)) (aE aj)) λx24=>(af x24)) (af ai)))))))))))))))))
def ii (x:dD×Int×Int×List jQ):Option (Bool):=
 (jn (α:=Bool×dD×Int×List jQ) (bx x.p2 0 (aE (ai,x.1,x.2.2)) (bx 32 x.p2 (aE (ai,x.1,x.2.2)) (aE ((decide (((aX x.q3):Int)=0)),x.1,x.2.2)))) λx1=>(bcase x1.1 (af aj) (iter (σ:=Int×dD×Int×List jQ) (λJ=>(bx J.1 (aX x.q3) (bD qR J.q3 J.1 λY=>(jn (α:=Bool×dD×(Int×List jQ)×Int×Int×Int×Int×Int×Int) (bx Y.1 1 (aE (ai,J.2.1,J.2.2,Y)) (bx 28 Y.1 (aE (ai,J.2.1,J.2.2,Y)) (bcase (((decide ((Y.1:Int)=28))==(decide ((J.1:Int)=(bk .i64 ((aX x.q3)-1))))) !=ai) (aE (ai,J.2.1,J.2.2,Y)) (obind (lz (J.2.1,Y)) λy5=>(bcase (!y5) (aE (ai,J.2.1,J.2.2,Y)) (obind (pg (J.q3,J.1)) λy6=>(aE ((!y6),J.2.1,J.2.2,Y)))))))) λI=>(bcase I.1 (aE aj) (jn (α:=Bool×dD×(Int×List jQ)×Int×Int×Int×Int×Int×Int) (bd I.p3 28 (jd I.q8 (-1) (aE (ai,I.2)) (jd I.p3 28 (obind (jh (I.q8,(aX I.2.1.q5))) λy8=>(bcase (!y8) (aE (ai,I.2)) (bD om I.2.1.q5 I.q8 λz9=>(aE ((!decide ((z9.1:Int)=x.2.1)),I.2))))) (aE (aj,I.2)))) (jd I.p3 28 (obind (jh (I.q8,(aX I.2.1.q5))) λy10=>(bcase (!y10) (aE (ai,I.2)) (bD om I.2.1.q5 I.q8 λz11=>(aE ((!decide ((z11.1:Int)=x.2.1)),I.2))))) (aE (aj,I.2)))) λU=>(bcase U.1 (aE aj) (jn (α:=Bool×dD×(Int×List jQ)×Int×Int×Int×Int×Int×Int) (bd U.p3 5 (obind (jh (U.p4,(aX x.q3))) λy13=>(bcase (!y13) (aE (ai,U.2)) (bd U.p3 10 (obind (jh (U.p5,(aX x.q3))) λy14=>(aE ((!y14),U.2))) (aE (aj,U.2))))) (bd U.p3 10 (obind (jh (U.p5,(aX x.q3))) λy15=>(aE ((!y15),U.2))) (aE (aj,U.2)))) λZ=>(bcase Z.1 (aE aj) (obind (jB Z.q3) λy16=>(iter (σ:=Int×dD×Int×List jQ) (λM=>(bx M.1 (aX y16) (bD aM y16 M.1 λz18=>(obind (jh (z18,M.p2)) λy19=>(bcase (!y19) (aE (bQ aj)) (cL ((cC M.1),M.2))))) (aE (mm ((cC J.1),M.2))))) (0,Z.2.1,Z.p2)))))))))) (aE ai))) (0,x1.2))))
def jA (x:dD×List (Int×List jQ)):Option (Bool):=
 (jn (α:=Bool×dD×List (Int×List jQ)) (obind (g_ x.1) λY=>(bcase (!Y) (aE (ai,x)) (aE ((!decide (((aX x.2):Int)=(aX x.1.p4))),x)))) λJ=>(bcase J.1 (af aj) (iter (σ:=Int×dD×List (Int×List jQ)) (λI=>(bx I.1 (aX I.2.2) (bD wZ I.2.2 I.1 λM=>(obind (ii (I.2.1,I.1,M)) λU=>(bcase (!U) (aE aj) (cL ((cC I.1),I.2))))) (aE ai))) (0,J.2))))
def cB (x:jQ×rK×List jQ):Option (rK×List jQ):=
 (bB (a_ (al x.2.2+al ([(x.1.1,x.1.2.1,x.1.p2,x.1.p3,x.1.p4,x.2.1.p7)])) 48) (af (x.2.1,(x.2.2++([(x.1.1,x.1.2.1,x.1.p2,x.1.p3,x.1.p4,x.2.1.p7)])))))
def qx (rr06_gen_value:((Xp×Int)×rK×List jQ)->Option (rK×List jQ)) (x:(Xp×Int)×rK×List jQ):Option (rK×List jQ):=
 (jn (α:=rK×List jQ) (bd (Xp.op x.1.1) 1 (obind (cB ((1,x.1.2,0,0,(Xp.n x.1.1),0),x.2)) λy2=>(bB (aC (al x.2.2) (al x.2.2)&&ai) (aE y2))) (bd (Xp.op x.1.1) 2 (obind (iU (x.2.1.p6,(Xp.name x.1.1))) λy3=>(iR 0 y3 (obind (cB ((2,x.1.2,y3,0,0,0),x.2)) λy4=>(bB (aC (al x.2.2) (al x.2.2)&&ai) (aE y4))) (obind (lj ((x.2.1.1,x.2.1.2.1,x.2.1.p2,x.2.1.p3,x.2.1.p4,x.2.1.p5),(Xp.name x.1.1))) λy5=>(obind (cB ((6,x.1.2,y5,0,0,0),x.2)) λy6=>(bB (aC (al x.2.2) (al x.2.2)&&ai) (aE y6)))))) (bd (Xp.op x.1.1) 3 (bD (.ex) (Xp.l x.1.1) 0 λz7=>(obind (rr06_gen_value ((z7,x.1.2),x.2)) λI=>(bB (aC (al x.2.2) (al x.2.2)&&ai) (obind (lj ((I.1.1,I.1.2.1,I.1.p2,I.1.p3,I.1.p4,I.1.p5),(Xp.name x.1.1))) λy9=>(bD kw I.1.1 y9 λz10=>(obind (cB ((7,x.1.2,y9,x.1.2,z10.2.2.1,0),I)) λy11=>(bB (aC (al I.2) (al I.2)&&ai) (aE y11)))))))) (bd (aO (al (Xp.l x.1.1))) 1 (bD (.ex) (Xp.l x.1.1) 0 λz12=>(obind (rr06_gen_value ((z12,x.1.2),x.2)) λU=>(bB (aC (al x.2.2) (al x.2.2)&&ai) (obind (cB ((3,x.1.2,x.1.2,0,(Xp.op x.1.1),0),U)) λy14=>(bB (aC (al U.2) (al U.2)&&ai) (aE y14)))))) (bD (.ex) (Xp.l x.1.1) 0 λZ=>(obind (rr06_gen_value ((Z,x.1.2),x.2)) λM=>(bB (aC (al x.2.2) (al x.2.2)&&ai) (bD (.ex) (Xp.l x.1.1) 1 λY=>(obind (rr06_gen_value ((Y,(cC x.1.2)),M)) λJ=>(bB (aC (al M.2) (al M.2)&&ai) (obind (cB ((4,x.1.2,x.1.2,(cC x.1.2),(Xp.op x.1.1),0),J)) λy19=>(bB (aC (al J.2) (al J.2)&&ai) (aE y19))))))))))))) λx1=>(af x1))
def iE:Nat->((Xp×Int)×rK×List jQ)->Option (rK×List jQ)
 |0,_=>ah
 |n+1,x=>qx (iE n) x
theorem AA (n:Nat) (x:(Xp×Int)×rK×List jQ):iE (n+1) x=qx (iE n) x:=rfl
def iD (x:(Xp×Int)×rK×List jQ):Option (rK×List jQ):=iE fuel x
def lQ (x:Sx×rK×List jQ):Option (rK×List jQ):=
 (bx 0 (aO (al (Sx.index x.1))) (bD (.ex) (Sx.index x.1) 0 λz1=>(obind (iD ((z1,(aX x.2.1.p6)),x.2)) λM=>(bB (aC (al x.2.2) (al x.2.2)&&ai) (obind (iD ((dZ ((Xp.op (Sx.expr x.1)),(Xp.n (Sx.expr x.1)),(Xp.name (Sx.expr x.1)),(Xp.l (Sx.expr x.1))),(bk .i64 ((aX x.2.1.p6)+1))),M)) λJ=>(bB (aC (al M.2) (al M.2)&&ai) (obind (lj ((J.1.1,J.1.2.1,J.1.p2,J.1.p3,J.1.p4,J.1.p5),(Sx.name x.1))) λy4=>(bD kw J.1.1 y4 λz5=>(obind (cB ((9,y4,(bk .i64 ((aX x.2.1.p6)+1)),(aX x.2.1.p6),z5.2.2.1,0),J)) λy6=>(bB (aC (al J.2) (al J.2)&&ai) (af y6)))))))))) (obind (iD ((dZ ((Xp.op (Sx.expr x.1)),(Xp.n (Sx.expr x.1)),(Xp.name (Sx.expr x.1)),(Xp.l (Sx.expr x.1))),(aX x.2.1.p6)),x.2)) λI=>(bB (aC (al x.2.2) (al x.2.2)&&ai) (obind (iU (I.1.p6,(Sx.name x.1))) λZ=>(iR 0 Z (obind (cB ((2,Z,(aX x.2.1.p6),0,0,0),I)) λy9=>(bB (aC (al I.2) (al I.2)&&ai) (af y9))) (obind (lj ((I.1.1,I.1.2.1,I.1.p2,I.1.p3,I.1.p4,I.1.p5),(Sx.name x.1))) λY=>(obind (cB ((8,Y,(aX x.2.1.p6),0,0,0),I)) λU=>(bB (aC (al I.2) (al I.2)&&ai) (af U)))))))))
def jq (x:(List UInt8)×rK×List jQ):Option (Int×rK×List jQ):=
 (iter (σ:=Int×rK×List jQ) (λI=>(bx I.1 (aX I.2.1.p2) (bD lh I.2.1.p2 I.1 λJ=>(bcase (decide ((J.1:List UInt8)=x.1)) (aE I) (cL ((cC I.1),I.2)))) (aE ((-1),I.2)))) (0,x.2))
def qy (rr06_gen_stmts:ac9->Option (rK×List jQ)) (rr06_gen_stmt:L8->Option (rK×List jQ)) (rr06_gen_branches:L8->Option (rK×List jQ)) (rr06_gen_around:aca->Option (rK×List jQ)) (x:(List Sx)×rK×List jQ):Option (rK×List jQ):=
 (iter (σ:=Int×rK×List jQ) (λI=>(bx I.1 (aX x.1) (bD (.sm) x.1 I.1 λJ=>(obind (rr06_gen_stmt (J,I.2)) λM=>(bB (aC (al I.2.2) (al I.2.2)&&ai) (cL ((cC I.1),M))))) (aE I.2))) (0,x.2))
def rS (rr06_gen_stmts:ac9->Option (rK×List jQ)) (rr06_gen_stmt:L8->Option (rK×List jQ)) (rr06_gen_branches:L8->Option (rK×List jQ)) (rr06_gen_around:aca->Option (rK×List jQ)) (x:Sx×rK×List jQ):Option (rK×List jQ):=
 (jn (α:=rK×List jQ) (bd (Sx.op x.1) 1 (obind (lQ (d_ x.1,(x.2.1.1,x.2.1.2.1,x.2.1.p2,x.2.1.p3,x.2.1.p4,x.2.1.p5,x.2.1.p6,x.2.1.q8,(cC x.2.1.q8)),x.2.2)) λy2=>(bB (aC (al x.2.2) (al x.2.2)&&ai) (aE y2))) (jn (α:=Bool×rK×Sx×List jQ) (bd (Sx.op x.1) 2 (aE ((decide (((Sx.op x.1):Int)=2)),(x.2.1.1,x.2.1.2.1,x.2.1.p2,x.2.1.p3,x.2.1.p4,x.2.1.p5,x.2.1.p6,x.2.1.q8,(cC x.2.1.q8)),d_ x.1,x.2.2)) (aE ((decide (((Sx.op x.1):Int)=3)),(x.2.1.1,x.2.1.2.1,x.2.1.p2,x.2.1.p3,x.2.1.p4,x.2.1.p5,x.2.1.p6,x.2.1.q8,(cC x.2.1.q8)),d_ x.1,x.2.2))) λI=>(bcase I.1 (obind (rr06_gen_branches (d_ I.p2,I.2.1,I.q3)) λy4=>(bB (aC (al I.q3) (al I.q3)&&ai) (aE y4))) (bd (Sx.op x.1) 4 (obind (j_ (I.2.1.2.1,(Sx.name I.p2))) λy5=>(obind (rr06_gen_around ((d_ I.p2,11,12,y5),I.2.1,I.q3)) λy6=>(bB (aC (al I.q3) (al I.q3)&&ai) (aE y6)))) (bd (Sx.op x.1) 5 (obind (j_ (I.2.1.2.1,(Sx.name I.p2))) λy7=>(obind (rr06_gen_around ((d_ I.p2,13,14,y7),I.2.1,I.q3)) λy8=>(bB (aC (al I.q3) (al I.q3)&&ai) (aE y8)))) (bd (Sx.op x.1) 6 (obind (j_ (I.2.1.2.1,(Sx.name I.p2))) λy9=>(obind (rr06_gen_around ((d_ I.p2,15,16,y9),I.2.1,I.q3)) λy10=>(bB (aC (al I.q3) (al I.q3)&&ai) (aE y10)))) (bd (Sx.op x.1) 7 (obind (rr06_gen_around ((d_ I.p2,17,18,0),I.2.1,I.q3)) λy11=>(bB (aC (al I.q3) (al I.q3)&&ai) (aE y11))) (bd (Sx.op x.1) 8 (obind (rr06_gen_around ((d_ I.p2,19,20,0),I.2.1,I.q3)) λy12=>(bB (aC (al I.q3) (al I.q3)&&ai) (aE y12))) (bd (Sx.op x.1) 9 (obind (jq ((Sx.name I.p2),I.2.1,I.q3)) λU=>(bB (aC (al I.q3) (al U.2.2)&&ai) (obind (cB ((21,U.1,0,0,0,0),U.2)) λy14=>(bB (aC (al U.2.2) (al U.2.2)&&ai) (aE y14))))) (bd (Sx.op x.1) 10 (obind (jq ((Sx.name I.p2),I.2.1,I.q3)) λM=>(bB (aC (al I.q3) (al M.2.2)&&ai) (obind (cB ((22,M.1,0,0,0,0),M.2)) λy16=>(bB (aC (al M.2.2) (al M.2.2)&&ai) (aE y16))))) (bd (Sx.op x.1) 11 (obind (jq ((Sx.name I.p2),I.2.1,I.q3)) λJ=>(bB (aC (al I.q3) (al J.2.2)&&ai) (obind (cB ((23,J.1,0,0,0,0),J.2)) λy18=>(bB (aC (al J.2.2) (al J.2.2)&&ai) (aE y18))))) (bd (Sx.op x.1) 12 (obind (iU (I.2.1.p4,(Sx.name I.p2))) λy19=>(obind (cB ((24,y19,0,0,0,0),I.2.1,I.q3)) λy20=>(bB (aC (al I.q3) (al I.q3)&&ai) (aE y20)))) (bd (Sx.op x.1) 13 (obind (iU (I.2.1.p4,(Sx.name I.p2))) λy21=>(obind (cB ((25,y21,0,0,0,0),I.2.1,I.q3)) λy22=>(bB (aC (al I.q3) (al I.q3)&&ai) (aE y22)))) (bd (Sx.op x.1) 14 (obind (iD ((dZ ((Xp.op (Sx.expr I.p2)),(Xp.n (Sx.expr I.p2)),(Xp.name (Sx.expr I.p2)),(Xp.l (Sx.expr I.p2))),(aX x.2.1.p6)),I.2.1,I.q3)) λY=>(bB (aC (al I.q3) (al I.q3)&&ai) (obind (iU (Y.1.p3,(Sx.name I.p2))) λy24=>(obind (cB ((26,y24,(aX x.2.1.p6),0,0,0),Y)) λy25=>(bB (aC (al Y.2) (al Y.2)&&ai) (aE y25)))))) (bd (Sx.op x.1) 15 (obind (iU (I.2.1.p6,(Sx.name I.p2))) λy26=>(obind (iU (I.2.1.p3,(Sx.arg I.p2))) λy27=>(obind (cB ((27,y26,y27,0,0,0),I.2.1,I.q3)) λZ=>(bB (aC (al I.q3) (al I.q3)&&ai) (aE Z))))) (aE (I.2.1,I.q3))))))))))))))))) λx1=>(af x1))
def mq (rr06_gen_stmts:ac9->Option (rK×List jQ)) (rr06_gen_stmt:L8->Option (rK×List jQ)) (rr06_gen_branches:L8->Option (rK×List jQ)) (rr06_gen_around:aca->Option (rK×List jQ)) (x:Sx×rK×List jQ):Option (rK×List jQ):=
 (obind (iD ((dZ ((Xp.op (Sx.expr x.1)),(Xp.n (Sx.expr x.1)),(Xp.name (Sx.expr x.1)),(Xp.l (Sx.expr x.1))),(aX x.2.1.p6)),x.2)) λJ=>(bB (aC (al x.2.2) (al x.2.2)&&ai) (obind (cB ((10,(aX J.1.p6),0,0,0,0),J)) λZ=>(bB (aC (al J.2) (al J.2)&&ai) (obind (rr06_gen_stmts ((Sx.body x.1),Z)) λI=>(bB (aC (al Z.2) (al Z.2)&&ai) (bd (Sx.op x.1) 3 (obind (cB ((5,(aX x.2.2),0,0,0,0),(I.1.1,I.1.2.1,I.1.p2,I.1.p3,I.1.p4,I.1.p5,I.1.p6,x.2.1.p7,I.1.q8),I.2)) λU=>(bB (aC (al I.2) (al I.2)&&ai) (ck (fe (aX J.2) (al U.2)) (af (U.1,(cQ U.2 (aX J.2) ((aJ (T:=qR) U.2 (aX J.2)).1,((aJ (T:=qR) U.2 (aX J.2)).2).1,(aX U.2),(((aJ (T:=qR) U.2 (aX J.2)).2).2).2))))))) (bd (aO (al (Sx.els x.1))) 0 (ck (fe (aX J.2) (al I.2)) (af ((I.1.1,I.1.2.1,I.1.p2,I.1.p3,I.1.p4,I.1.p5,I.1.p6,x.2.1.p7,I.1.q8),(cQ I.2 (aX J.2) ((aJ (T:=qR) I.2 (aX J.2)).1,((aJ (T:=qR) I.2 (aX J.2)).2).1,(aX I.2),(((aJ (T:=qR) I.2 (aX J.2)).2).2).2))))) (obind (cB ((5,0,0,0,0,0),(I.1.1,I.1.2.1,I.1.p2,I.1.p3,I.1.p4,I.1.p5,I.1.p6,x.2.1.p7,I.1.q8),I.2)) λM=>(bB (aC (al I.2) (al I.2)&&ai) (ck (fe (aX J.2) (al M.2)) (obind (rr06_gen_stmts ((Sx.els x.1),M.1,(cQ M.2 (aX J.2) ((aJ (T:=qR) M.2 (aX J.2)).1,((aJ (T:=qR) M.2 (aX J.2)).2).1,(aX M.2),(((aJ (T:=qR) M.2 (aX J.2)).2).2).2)))) λY=>(bB (aC (al (cQ M.2 (aX J.2) ((aJ (T:=qR) M.2 (aX J.2)).1,((aJ (T:=qR) M.2 (aX J.2)).2).1,(aX M.2),(((aJ (T:=qR) M.2 (aX J.2)).2).2).2))) (al (cQ M.2 (aX J.2) ((aJ (T:=qR) M.2 (aX J.2)).1,((aJ (T:=qR) M.2 (aX J.2)).2).1,(aX M.2),(((aJ (T:=qR) M.2 (aX J.2)).2).2).2)))&&ai) (ck (fe (aX I.2) (al Y.2)) (af (Y.1,(cQ Y.2 (aX I.2) ((aJ (T:=qR) Y.2 (aX I.2)).1,(aX Y.2),((aJ (T:=qR) Y.2 (aX I.2)).2).2))))))))))))))))))
def oV (rr06_gen_stmts:ac9->Option (rK×List jQ)) (rr06_gen_stmt:L8->Option (rK×List jQ)) (rr06_gen_branches:L8->Option (rK×List jQ)) (rr06_gen_around:aca->Option (rK×List jQ)) (x:(Sx×Int×Int×Int)×rK×List jQ):Option (rK×List jQ):=
 (obind (cB ((x.1.2.1,x.1.q3,0,0,0,0),x.2)) λJ=>(bB (aC (al x.2.2) (al x.2.2)&&ai) (obind (rr06_gen_stmts ((Sx.body x.1.1),J)) λI=>(bB (aC (al J.2) (al J.2)&&ai) (obind (cB ((x.1.p2,x.1.q3,0,0,0,0),(I.1.1,I.1.2.1,I.1.p2,I.1.p3,I.1.p4,I.1.p5,I.1.p6,x.2.1.p7,I.1.q8),I.2)) λM=>(bB (aC (al I.2) (al I.2)&&ai) (af M)))))))
mutual
def dL:Nat->ac9->Option (rK×List jQ)
 |0,_=>ah
 |n+1,x=>qy (dL n) (eO n) (db n) (dH n) x
def eO:Nat->L8->Option (rK×List jQ)
 |0,_=>ah
 |n+1,x=>rS (dL n) (eO n) (db n) (dH n) x
def db:Nat->L8->Option (rK×List jQ)
 |0,_=>ah
 |n+1,x=>mq (dL n) (eO n) (db n) (dH n) x
def dH:Nat->aca->Option (rK×List jQ)
 |0,_=>ah
 |n+1,x=>oV (dL n) (eO n) (db n) (dH n) x
end
def ui (x:(List Sx)×rK×List jQ):Option (rK×List jQ):=dL fuel x
def qj (x:rY×List rX):Option (zP×Int×Int):=
 (obind (fk x) λy1=>(jd y1.1 0 (af (((([]:List SD),([]:List ((List UInt8)×Bool)),([]:List fm),([]:List (List UInt8)),([]:List (List UInt8)),([]:List (Int×Int×Int))),([]:List (Int×List jQ))),y1)) (obind (uj x) λy2=>(iter (σ:=(Int×Int)×(rY×List rX)×dD×List (Int×List jQ)) (λJ=>(bx J.1.2 (aX J.2.1.2) (bD sQ J.2.1.2 J.1.2 λz4=>(bD sQ J.2.1.2 J.1.2 λz5=>(obind (ui (z5.2.2.2,(J.p2.1,J.p2.2.1,J.p2.p2,J.p2.p3,J.p2.p4,J.p2.q5,z4.2.2.1,0,J.1.1),([]:List jQ))) λU=>(bB (aC (al ([]:List jQ)) (al ([]:List jQ))&&ai) (obind (cB ((28,0,0,0,0,0),(U.1.1,U.1.2.1,U.1.p2,U.1.p3,U.1.p4,U.1.p5,U.1.p6,(-1),U.1.q8),U.2)) λy7=>(bB (aC (al U.2) (al U.2)&&ai) (iter (σ:=Int×(rY×List rX)×dD×rK×Int×(List (Int×List jQ))×List jQ) (λM=>(bx M.1 (aX M.q6) (kz qR M.q6 M.1 λz9=>(obind (jB z9) λY=>(iter (σ:=Int×(rY×List rX)×dD×rK×Int×(List (Int×List jQ))×List jQ) (λI=>(bx I.1 (aX Y) (bD aM Y I.1 λZ=>(cL ((cC I.1),I.2.1,I.p2,I.p3,(ik I.p4 (cC Z)),I.q5))) (aE (mm ((cC M.1),I.2))))) (0,M.2)))) (obind (bB (a_ (al M.p5+al ([(M.p4,M.q6)])) 32) (cL ((U.1.q8,(cC J.1.2)),M.2.1,M.p2,(M.p5++([(M.p4,M.q6)]))))) λr=>af (bQ r)))) (0,J.2.1,J.p2,y7.1,(aX y7.1.p6),J.q3,y7.2)))))))) (aE (J.2.2,0,0)))) ((0,0),x,y2,([]:List (Int×List jQ)))))))
def qi (x:(List Int)×Int):Option (Bool):=
 (iter (σ:=Int) (λI=>(bx I (aX x.1) (bD aM x.1 I λJ=>(bd J x.2 (aE ai) (cL (cC I)))) (aE aj))) 0)
def ww (x:(List Int)×Int):Option (List Int):=
 (iter (σ:=Int) (λI=>(jn (α:=Bool) (bx I (aX x.1) (bD aM x.1 I λM=>(aE (fO M x.2))) (aE aj)) λY=>(bcase Y (cL (cC I)) (obind (jn (α:=Bool) (bx I (aX x.1) (bD aM x.1 I λJ=>(aE (decide ((J:Int)=x.2)))) (aE aj)) λU=>(bcase U (af x.1) (bB (c7 0 I&&c7 I (al x.1)) (bB (a_ (al ([]:List Int)+al (dO (aT I) x.1)) 8) (bB (a_ (al (([]:List Int)++(dO (aT I) x.1))+al ([x.2])) 8) (bB (c7 0 I&&c7 I (al x.1)) (bB (a_ (al ((([]:List Int)++(dO (aT I) x.1))++([x.2]))+al (List.drop (aT I) x.1)) 8) (af (((([]:List Int)++(dO (aT I) x.1))++([x.2]))++(List.drop (aT I) x.1)))))))))) λr=>af (bQ r))))) 0)
def rm (x:(List Int)×List Int):Option (List Int):=
 (iter (σ:=(List Int)×Int) (λJ=>(bx J.2 (aX x.1) (bD aM x.1 J.2 λU=>(obind (ww (J.1,U)) λZ=>(cL (Z,(cC J.2))))) (obind (iter (σ:=(List Int)×Int) (λI=>(bx I.2 (aX x.2) (bD aM x.2 I.2 λM=>(obind (ww (I.1,M)) λY=>(cL (Y,(cC I.2))))) (aE I.1))) (J.1,0)) λr=>af (bQ r)))) (([]:List Int),0))
def md (x:Int):Option (Int):=
 (jn (α:=Bool) (bx x 1 (aE ai) (aE (fO 100 x))) λI=>(bcase I (af 0) (af x)))
def co (x:Int×(List Int)×(List (List Int))×Int):Option ((Int×Int)×(List Int)×List (List Int)):=
 (bB (a_ (al ([]:List Int)+al x.2.1) 8) (iter (σ:=Int×tY×(Int×Int)×(Int×Int)×(List Int)×List (List Int)) (λI=>(bx I.1 (aX I.2.1.p2) (bD (.sl aM) I.2.1.p2 I.1 λJ=>(bB (a_ (al ([]:List Int)+al J) 8) (bB (a_ (al I.q5+al ([(([]:List Int)++J)])) 24) (cL ((cC I.1),I.2.1,I.p2,I.p3,I.p4,(I.q5++([(([]:List Int)++J)]))))))) (aE I.q3))) (0,x,(0,0),(x.1,x.q3),(([]:List Int)++x.2.1),([]:List (List Int)))))
def wv (x:(jQ×Int×Int)×(List Int)×List (List Int)):Option (((Int×Int)×Bool)×(List Int)×List (List Int)):=
 (obind (jB x.1.1) λy1=>(iter (σ:=Int×(List Int)×(List (List Int))×jQ×(Int×Int)×Int×Int) (λI=>(bx I.1 (aX y1) (jn (α:=Bool×(List Int)×(List (List Int))×jQ×(Int×Int)×Int×Int) (bD aM y1 I.1 λz4=>(bx z4 0 (aE (ai,I.2)) (bD aM y1 I.1 λz5=>(aE ((c7 (aX I.2.1) z5),I.2))))) λx3=>(bcase x3.1 ah (cL ((cC I.1),x3.2)))) (obind (jn (α:=(Int×Bool×List Int)×(List Int)×(List (List Int))×jQ×(Int×Int)×Int×Int) (bd I.p3.1 5 (cL (((I.p3.2.1,I.p4.2),ai),I.2.1,I.p2)) (bd I.p3.1 1 (aE ((I.p3.p4,ai,([]:List Int)),I.2)) (bd I.p3.1 2 (kz aM I.2.1 I.p3.p2 λz7=>(kz (.sl aM) I.p2 I.p3.p2 λz8=>(aE ((z7,ai,z8),I.2)))) (bd I.p3.1 3 (obind (md I.p3.p4) λy9=>(kz aM I.2.1 I.p3.p2 λz10=>(obind (uk (y9,z10)) λU=>(kz (.sl aM) I.p2 I.p3.p2 λz12=>(aE ((U.1,U.2,z12),I.2)))))) (obind (md I.p3.p4) λy13=>(kz aM I.2.1 I.p3.p2 λz14=>(kz aM I.2.1 I.p3.p3 λz15=>(obind (sa (y13,z14,z15)) λM=>(kz (.sl aM) I.p2 I.p3.p2 λZ=>(kz (.sl aM) I.p2 I.p3.p3 λY=>(obind (rm (Z,Y)) λy19=>(aE ((M.1,M.2,y19),I.2))))))))))))) λJ=>(bB (a_ (al ([]:List Int)+al J.1.2.2) 8) (ck (fe J.p3.2.1 (al J.2.1)) (ck (fe J.p3.2.1 (al J.p2)) (af ((((cC J.p4.1),J.p4.2),J.1.2.1),(cQ J.2.1 J.p3.2.1 J.1.1),(cQ J.p2 J.p3.2.1 (([]:List Int)++J.1.2.2)))))))) λr=>af (bQ r)))) (0,x.2.1,x.2.2,x.1.1,x.1.2,0,0)))
def mV (x:(Int×List jQ)×Int×(List Int)×(List (List Int))×Int):Option (tY×Bool):=
 (jn (α:=Bool×(Int×List jQ)×tY×Int×Int) (jd (aX x.p2) x.1.1 (aE (ai,x.1,x.2,0,0)) (aE ((!decide (((aX x.p3):Int)=x.1.1)),x.1,x.2,0,0))) λU=>(bcase U.1 (af ((0,([]:List Int),([]:List (List Int)),0),aj)) (obind (co U.p2) λZ=>(iter (σ:=Int×(Int×List jQ)×(Int×Int)×(Int×Int)×(List Int)×List (List Int)) (λJ=>(iR J.1 (aX J.2.1.2) (jn (α:=Bool×(Int×List jQ)×(Int×Int)×(Int×Int)×(List Int)×List (List Int)) (bx J.p2.1 0 (aE (ai,J.2)) (aE ((c7 (aX J.2.1.2) J.p2.1),J.2))) λI=>(bcase I.1 (aE ((0,([]:List Int),([]:List (List Int)),0),aj)) (bD qR I.2.1.2 I.p2.1 λY=>(obind (pD Y.1) λy6=>(bcase (!y6) (aE ((I.p2.1,I.p4,I.q5,I.p2.2),ai)) (bd J.1 (aX I.2.1.2) (aE ((0,([]:List Int),([]:List (List Int)),0),aj)) (obind (wv ((Y,I.p2),I.q4)) λM=>(bB (aC (al I.q5) (al M.2.2)&&(aC (al I.p4) (al M.2.1)&&ai)) (bcase (!M.1.2) (aE ((0,([]:List Int),([]:List (List Int)),0),aj)) (cL ((cC J.1),I.2.1,M.1.1,I.p3,M.2))))))))))) (aE ((0,([]:List Int),([]:List (List Int)),0),aj)))) (0,U.2.1,Z.1,U.q3,Z.2)))))
def rj (x:gK×gu×(List fm)×ca×ca×List (Int×Int×Int)):Option oZ:=
 (iter (σ:=Int×dD×Int×Int×List (Int×List Int)) (λM=>(bx M.1 (aX M.2.1.2.1) (bB (a_ (al M.q4+al ([((-1),([]:List Int))])) 32) (cL ((cC M.1),M.2.1,M.p2,M.p3,(M.q4++([((-1),([]:List Int))]))))) (obind (iter (σ:=Int×dD×Int×Int×gE×List Bool) (λJ=>(bx J.1 (aX J.2.1.p3) (bB (a_ (al J.q5+al ([aj])) 1) (cL ((cC J.1),J.2.1,J.p2,J.p3,J.p4,(J.q5++([aj]))))) (obind (iter (σ:=Int×dD×Int×Int×gE×(List Bool)×List dw) (λI=>(bx I.1 (aX I.2.1.p4) (jn (α:=dD×Int×Int×dw×gE×(List Bool)×List dw) (bd I.1 0 (aE (I.2.1,I.p2,I.p3,(1,0,aj),I.q4)) (aE (I.2.1,I.p2,I.p3,(0,0,aj),I.q4))) λU=>(bB (a_ (al U.q6+al ([U.p3])) 24) (cL ((cC I.1),U.1,U.2.1,U.p2,U.p4,U.p5,(U.q6++([U.p3])))))) (aE (I.p4,I.p3,I.q5)))) (0,J.2.1,J.p2,J.p3,J.p4,J.q5,([]:List dw))) λr=>af (bQ r)))) (0,M.2.1,M.p2,M.p3,M.q4,([]:List Bool))) λr=>af (bQ r)))) (0,x,0,(-1),([]:List (Int×List Int))))
def rk (x:dD×gE×Int×(List Bool)×List dw):Option (Bool):=
 (iter (σ:=Int×dD×gE×Int×(List Bool)×List dw) (λI=>(bx I.1 (aX I.2.1.p2) (jn (α:=Bool×dD×gE×Int×(List Bool)×List dw) (bD lh I.2.1.p2 I.1 λU=>(bx U.2 0 (aE (ai,I.2)) (bD lh I.2.1.p2 I.1 λM=>(aE ((c7 (aX I.2.1.2.1) M.2),I.2))))) λJ=>(bcase J.1 (aE aj) (cL ((cC I.1),J.2)))) (obind (jn (α:=Bool) (bd (aX I.p2) (aX I.2.1.2.1) (bd (aX I.p4) (aX I.2.1.p3) (aE (decide (((aX I.q5):Int)=(aX I.2.1.p4)))) (aE aj)) (aE aj)) λY=>(af Y)) λr=>af (bQ r)))) (0,x))
def qh (x:Int×Int):Option (Bool):=
 (jn (α:=Bool) (iR 0 x.1 (aE (fO x.1 x.2)) (aE aj)) λI=>(af I))
def uh (x:dD×Int×Int):Option (Bool):=
 (jn (α:=Bool×gK×gu×(List fm)×ca×ca×List (Int×Int×Int)) (bd x.2.1 1 (aE ((decide ((x.2.1:Int)=1)),x.1)) (bd x.2.1 2 (aE ((decide ((x.2.1:Int)=2)),x.1)) (bd x.2.1 5 (aE ((decide ((x.2.1:Int)=5)),x.1)) (bd x.2.1 12 (aE ((decide ((x.2.1:Int)=12)),x.1)) (bd x.2.1 13 (aE ((decide ((x.2.1:Int)=13)),x.1)) (bd x.2.1 14 (aE ((decide ((x.2.1:Int)=14)),x.1)) (aE ((decide ((x.2.1:Int)=15)),x.1)))))))) λx1=>(bcase x1.1 (af (decide ((x.2.2:Int)=(-1)))) (jn (α:=Bool×gK×gu×(List fm)×ca×ca×List (Int×Int×Int)) (bd x.2.1 3 (aE ((decide ((x.2.1:Int)=3)),x1.2)) (aE ((decide ((x.2.1:Int)=4)),x1.2))) λZ=>(bcase Z.1 (obind (qh (x.2.2,(aX Z.2.1))) λy3=>(af y3)) (jn (α:=Bool×gK×gu×(List fm)×ca×ca×List (Int×Int×Int)) (bd x.2.1 6 (aE ((decide ((x.2.1:Int)=6)),Z.2)) (aE ((decide ((x.2.1:Int)=7)),Z.2))) λU=>(bcase U.1 (jn (α:=Bool) (obind (qh (x.2.2,(aX U.p2))) λy6=>(bcase y6 (bD qT U.p2 x.2.2 λz7=>(aE (!z7.2))) (aE aj))) λx5=>(af x5)) (jn (α:=Bool×gK×gu×(List fm)×ca×ca×List (Int×Int×Int)) (bd x.2.1 8 (aE ((decide ((x.2.1:Int)=8)),U.2)) (bd x.2.1 9 (aE ((decide ((x.2.1:Int)=9)),U.2)) (bd x.2.1 10 (aE ((decide ((x.2.1:Int)=10)),U.2)) (aE ((decide ((x.2.1:Int)=11)),U.2))))) λM=>(bcase M.1 (jn (α:=Bool) (obind (qh (x.2.2,(aX M.p2))) λy10=>(bcase y10 (bD qT M.p2 x.2.2 λz11=>(aE z11.2)) (aE aj))) λx9=>(af x9)) (jn (α:=Bool×gK×gu×(List fm)×ca×ca×List (Int×Int×Int)) (bd x.2.1 16 (aE ((decide ((x.2.1:Int)=16)),M.2)) (bd x.2.1 17 (aE ((decide ((x.2.1:Int)=17)),M.2)) (bd x.2.1 18 (aE ((decide ((x.2.1:Int)=18)),M.2)) (aE ((decide ((x.2.1:Int)=19)),M.2))))) λJ=>(bcase J.1 (obind (qh (x.2.2,(aX J.p3))) λy13=>(af y13)) (jn (α:=Bool×gK×gu×(List fm)×ca×ca×List (Int×Int×Int)) (bd x.2.1 20 (aE ((decide ((x.2.1:Int)=20)),J.2)) (aE ((decide ((x.2.1:Int)=21)),J.2))) λI=>(bcase I.1 (obind (qh (x.2.2,(aX I.p5))) λy15=>(af y15)) (jn (α:=Bool×gK×gu×(List fm)×ca×ca×List (Int×Int×Int)) (bd x.2.1 22 (aE ((decide ((x.2.1:Int)=22)),I.2)) (aE ((decide ((x.2.1:Int)=23)),I.2))) λY=>(bcase Y.1 (obind (qh (x.2.2,(aX Y.p4))) λy17=>(af y17)) (af aj)))))))))))))))
def j9 (x:dD×oZ×Int×Int×Int):Option (Bool):=
 (jn (α:=Bool×dD×gE×Int×(List Bool)×List dw) (obind (rk (x.1,x.2.1)) λy2=>(bcase (!y2) (aE (ai,x.1,x.2.1)) (obind (qh (x.p2,(aX x.1.p4))) λy3=>(bcase (!y3) (aE (ai,x.1,x.2.1)) (obind (uh (x.1,x.q3)) λy4=>(aE ((!y4),x.1,x.2.1))))))) λM=>(bcase M.1 (af aj) (bD hY M.q5 x.p2 λU=>(bd x.p3 1 (af (decide ((U.1:Int)=1))) (bd x.p3 17 (jn (α:=Bool) (bd U.1 4 (bd U.2.1 x.q4 (bD lh M.2.1.p2 x.q4 λz7=>(bD dY M.p2 z7.2 λz8=>(aE (decide ((z8.1:Int)=(-1)))))) (aE aj)) (aE aj)) λx6=>(af x6)) (jd U.1 2 (af aj) (bd x.p3 6 (bD dY M.p2 x.q4 λz9=>(af (decide ((z9.1:Int)=(-1))))) (bd x.p3 10 (jn (α:=Bool) (bD dY M.p2 x.q4 λz11=>(bd z11.1 (-1) (bD dY M.p2 x.q4 λz12=>(aE (decide (((aX z12.2):Int)=0)))) (aE aj))) λx10=>(af x10)) (bd x.p3 8 (jn (α:=Bool) (bD dY M.p2 x.q4 λz14=>(bd z14.1 (-1) (bD dY M.p2 x.q4 λz15=>(obind (qi (z15.2,x.p2)) λy16=>(aE (!y16)))) (aE aj))) λx13=>(af x13)) (jn (α:=Bool×dD×oZ×Int×Int×Bool) (bd x.p3 7 (aE ((decide ((x.p3:Int)=7)),M.2.1,M.2.2,U)) (aE ((decide ((x.p3:Int)=11)),M.2.1,M.2.2,U))) λI=>(bcase I.1 (bD dY I.p2.1 x.q4 λz18=>(af (decide ((z18.1:Int)=x.p2)))) (bd x.p3 9 (bD dY I.p2.1 x.q4 λz19=>(obind (qi (z19.2,x.p2)) λy20=>(af y20))) (bd x.p3 12 (af (decide ((I.p2.2.1:Int)=(-1)))) (bd x.p3 13 (af (decide ((I.p2.2.1:Int)=x.p2))) (bd x.p3 14 (af (!I.q5)) (bd x.p3 15 (af I.q5) (jn (α:=Bool×dD×gE×Int×(List Bool)×List dw) (bd x.p3 16 (aE ((decide ((x.p3:Int)=16)),I.2.1,I.p2)) (bd x.p3 18 (aE ((decide ((x.p3:Int)=18)),I.2.1,I.p2)) (aE ((decide ((x.p3:Int)=19)),I.2.1,I.p2)))) λJ=>(bcase J.1 (bD lh J.2.1.p2 x.q4 λz22=>(bD dY J.p2 z22.2 λz23=>(af (decide ((z23.1:Int)=x.p2))))) (bd x.p3 20 (jn (α:=Bool) (jd x.q4 x.p2 (bD hY J.q5 x.q4 λz25=>(aE (decide ((z25.1:Int)=0)))) (aE aj)) λx24=>(af x24)) (bd x.p3 21 (jn (α:=Bool) (jd x.q4 x.p2 (bD hY J.q5 x.q4 λz27=>(aE (decide ((z27.1:Int)=5)))) (aE aj)) λx26=>(af x26)) (bd x.p3 22 (bD (.bool) J.p4 x.q4 λZ=>(af (!Z))) (bd x.p3 23 (bD (.bool) J.p4 x.q4 λY=>(af Y)) (af ai)))))))))))))))))))))))
def nE (x:oZ×Int):Option (List Int):=
 (iter (σ:=Int×oZ×List Int) (λI=>(bx I.1 (aX I.2.1.q3) (jn (α:=oZ×List Int) (jn (α:=Bool×oZ×List Int) (bD hY I.2.1.q3 I.1 λU=>(bd U.1 3 (bD hY I.2.1.q3 I.1 λM=>(aE ((decide ((M.2.1:Int)=x.2)),I.2))) (aE (aj,I.2)))) λJ=>(bcase J.1 (bB (a_ (al J.2.2+al ([I.1])) 8) (aE (J.2.1,(J.2.2++([I.1]))))) (aE J.2))) λY=>(cL ((cC I.1),Y))) (aE I.2.2))) (0,x.1,([]:List Int)))
def qg (x:(List Int)×Int):Option (List Int):=
 (iter (σ:=Int×List Int) (λI=>(bx I.1 (aX x.1) (jn (α:=List Int) (bD aM x.1 I.1 λM=>(jd M x.2 (bD aM x.1 I.1 λJ=>(bB (a_ (al I.2+al ([J])) 8) (aE (I.2++([J]))))) (aE I.2))) λU=>(cL ((cC I.1),U))) (aE I.2))) (0,([]:List Int)))
def ig (x:gE×Int×(List Bool)×List dw):Option (Int×gE×(List Bool)×List dw):=
 (bB (a_ (al ([]:List Bool)+al x.p2) 1) (bB (a_ (al ([]:List dw)+al x.q3) 24) (iter (σ:=Int×oZ×Int×Int×gE×(List Bool)×List dw) (λI=>(bx I.1 (aX I.2.1.1) (bD dY I.2.1.1 I.1 λM=>(bD dY I.2.1.1 I.1 λJ=>(bB (a_ (al ([]:List Int)+al J.2) 8) (bB (a_ (al I.p4+al ([(M.1,(([]:List Int)++J.2))])) 32) (cL ((cC I.1),I.2.1,I.p2,I.p3,(I.p4++([(M.1,(([]:List Int)++J.2))])),I.q5)))))) (aE I.q3))) (0,x,0,x.2.1,([]:List (Int×List Int)),(([]:List Bool)++x.p2),(([]:List dw)++x.q3)))))
def mc (x:(Int×Int)×gE×(List Bool)×List dw):Option ((List Int)×gE×(List Bool)×List dw):=
 (iter (σ:=Int×gE×(List Bool)×(List dw)×Int×List Int) (λI=>(bx I.1 (aX I.p3) (jn (α:=gE×(List Bool)×(List dw)×Int×List Int) (jn (α:=Bool×gE×(List Bool)×(List dw)×Int×List Int) (kz hY I.p3 I.1 λU=>(bd U.1 3 (kz hY I.p3 I.1 λM=>(aE ((decide ((M.2.1:Int)=x.1.2)),I.2))) (aE (aj,I.2)))) λJ=>(bcase J.1 (bB (a_ (al J.q5+al ([I.1])) 8) (aE (J.2.1,J.p2,J.p3,J.p4,(J.q5++([I.1]))))) (aE J.2))) λY=>(cL ((cC I.1),Y))) (aE (I.q5,I.2.1,I.p2,I.p3)))) (0,x.2.1,x.p2,x.q3,x.1.1,([]:List Int)))
def jz (x:(Int×Int)×gE×(List Bool)×List dw):Option (List Int):=obind (mc x) λy=>same y.2 x.2 (af y.1)
def pe (x:dD×oZ×Int×Int×Int×Int):Option (oZ×Int×Bool):=
 (obind (j9 (x.1,x.2.1,x.p2,x.p3,x.p4)) λy1=>(bcase (!y1) (af ((([]:List (Int×List Int)),0,([]:List Bool),([]:List dw)),0,aj)) (obind (ig x.2.1) λU=>(jn (α:=Int×Int×Int×gE×(List Bool)×List dw) (bd x.p3 1 (ck (fe x.p2 (al U.q3)) (aE (0,U.1,0,U.2.1,U.p2,(cQ U.q3 x.p2 (2,(aJ (T:=hY) U.q3 x.p2).2))))) (bd x.p3 2 (ck (fe x.p2 (al U.q3)) (aE (0,U.1,0,U.2.1,U.p2,(cQ U.q3 x.p2 (5,(aJ (T:=hY) U.q3 x.p2).2))))) (jn (α:=Bool×dD×Int×Int×gE×(List Bool)×List dw) (bd x.p3 6 (aE ((decide ((x.p3:Int)=6)),x.1,U.1,0,U.2)) (aE ((decide ((x.p3:Int)=10)),x.1,U.1,0,U.2))) λY=>(bcase Y.1 (ck (fe x.p4 (al Y.p4)) (aE (0,Y.p2,Y.p3,(cQ Y.p4 x.p4 (x.p2,(aJ (T:=dY) Y.p4 x.p4).2)),Y.q5))) (jn (α:=Bool×dD×Int×Int×gE×(List Bool)×List dw) (bd x.p3 7 (aE ((decide ((x.p3:Int)=7)),Y.2)) (aE ((decide ((x.p3:Int)=11)),Y.2))) λI=>(bcase I.1 (ck (fe x.p4 (al I.p4)) (aE (0,I.p2,I.p3,(cQ I.p4 x.p4 ((-1),(aJ (T:=dY) I.p4 x.p4).2)),I.q5))) (bd x.p3 8 (kz dY I.p4 x.p4 λz6=>(obind (rm (z6.2,[x.p2])) λy7=>(ck (fe x.p4 (al I.p4)) (aE (0,I.p2,I.p3,(cQ I.p4 x.p4 ((aJ (T:=dY) I.p4 x.p4).1,y7)),I.q5))))) (bd x.p3 9 (kz dY I.p4 x.p4 λz8=>(obind (qg (z8.2,x.p2)) λy9=>(ck (fe x.p4 (al I.p4)) (aE (0,I.p2,I.p3,(cQ I.p4 x.p4 ((aJ (T:=dY) I.p4 x.p4).1,y9)),I.q5))))) (bd x.p3 12 (aE (0,x.p2,I.q3)) (bd x.p3 13 (aE (0,(-1),I.q3)) (bd x.p3 14 (ck (fe x.p2 (al I.q6)) (aE (0,I.p2,I.p3,I.p4,I.p5,(cQ I.q6 x.p2 ((aJ (T:=hY) I.q6 x.p2).1,((aJ (T:=hY) I.q6 x.p2).2).1,ai))))) (bd x.p3 15 (ck (fe x.p2 (al I.q6)) (aE (0,I.p2,I.p3,I.p4,I.p5,(cQ I.q6 x.p2 ((aJ (T:=hY) I.q6 x.p2).1,((aJ (T:=hY) I.q6 x.p2).2).1,aj))))) (bd x.p3 16 (bD lh I.2.1.p2 x.p4 λz10=>(ck (fe z10.2 (al I.p4)) (ck (fe x.p2 (al I.q6)) (ck (fe x.p2 (al (cQ I.q6 x.p2 (3,(aJ (T:=hY) I.q6 x.p2).2)))) (aE (0,I.p2,I.p3,(cQ I.p4 z10.2 ((-1),(aJ (T:=dY) I.p4 z10.2).2)),I.p5,(cQ (cQ I.q6 x.p2 (3,(aJ (T:=hY) I.q6 x.p2).2)) x.p2 ((aJ (T:=hY) (cQ I.q6 x.p2 (3,(aJ (T:=hY) I.q6 x.p2).2)) x.p2).1,x.p4,((aJ (T:=hY) (cQ I.q6 x.p2 (3,(aJ (T:=hY) I.q6 x.p2).2)) x.p2).2).2)))))))) (bd x.p3 17 (bD lh I.2.1.p2 x.p4 λz11=>(ck (fe z11.2 (al I.p4)) (ck (fe x.p2 (al I.q6)) (ck (fe x.p2 (al (cQ I.q6 x.p2 (2,(aJ (T:=hY) I.q6 x.p2).2)))) (aE (0,I.p2,I.p3,(cQ I.p4 z11.2 (x.p2,(aJ (T:=dY) I.p4 z11.2).2)),I.p5,(cQ (cQ I.q6 x.p2 (2,(aJ (T:=hY) I.q6 x.p2).2)) x.p2 ((aJ (T:=hY) (cQ I.q6 x.p2 (2,(aJ (T:=hY) I.q6 x.p2).2)) x.p2).1,0,((aJ (T:=hY) (cQ I.q6 x.p2 (2,(aJ (T:=hY) I.q6 x.p2).2)) x.p2).2).2)))))))) (bd x.p3 18 (obind (jz ((I.p2,x.p4),I.q4)) λy12=>(bx 0 (aX y12) (bD aM y12 0 λz13=>(jn (α:=Int×Int×Int×gE×(List Bool)×List dw) (obind (qi (y12,x.q5)) λy15=>(bcase y15 (aE (x.q5,I.2.2)) (aE (z13,I.2.2)))) λM=>(ck (fe M.1 (al M.q5)) (aE (M.1,M.2.1,M.p2,M.p3,M.p4,(cQ M.q5 M.1 (4,(aJ (T:=hY) M.q5 M.1).2))))))) (aE ((-1),I.2.2)))) (bd x.p3 19 (obind (jz ((I.p2,x.p4),I.q4)) λy16=>(iter (σ:=Int×Int×Int×gE×(List Bool)×List dw) (λJ=>(bx J.1 (aX y16) (bD aM y16 J.1 λZ=>(ck (fe Z (al J.q5)) (cL ((cC J.1),J.2.1,J.p2,J.p3,J.p4,(cQ J.q5 Z (4,(aJ (T:=hY) J.q5 Z).2)))))) (aE (bQ ((aX y16),J.2))))) (0,I.2.2))) (bd x.p3 20 (ck (fe x.p4 (al I.q6)) (aE (0,I.p2,I.p3,I.p4,I.p5,(cQ I.q6 x.p4 (1,(aJ (T:=hY) I.q6 x.p4).2))))) (bd x.p3 22 (ck (fe x.p4 (al I.p5)) (aE (0,I.p2,I.p3,I.p4,(cQ I.p5 x.p4 ai),I.q6))) (aE (0,I.2.2)))))))))))))))))))) λx3=>(af ((x3.p3,x3.2.1,x3.q4),x3.1,ai))))))
def ug (x:dD×List (Int×List jQ)):Option wX:=
 (obind (jA x) λy1=>(bcase (!y1) (af ((([]:List (Int×List Int)),0,([]:List Bool),([]:List dw)),([]:List Int),([]:List Int),([]:List tY))) (obind (rj x.1) λy2=>(iter (σ:=Int×zP×Int×oZ×List Int) (λM=>(bx M.1 (aX M.2.1.1.1) (bD kw M.2.1.1.1 M.1 λZ=>(bB (a_ (al M.q4+al ([Z.2.2.2.2])) 8) (cL ((cC M.1),M.2.1,M.p2,M.p3,(M.q4++([Z.2.2.2.2])))))) (obind (iter (σ:=Int×zP×Int×oZ×(List Int)×List Int) (λJ=>(bx J.1 (aX J.2.1.1.p3) (bB (a_ (al J.q5+al ([0])) 8) (cL ((cC J.1),J.2.1,J.p2,J.p3,J.p4,(J.q5++([0]))))) (obind (iter (σ:=Int×zP×Int×oZ×(List Int)×(List Int)×List tY) (λI=>(bx I.1 (aX I.2.1.2) (uO I.1 I.2.1.2 (lt ((aJ (T:=wZ) I.2.1.2 I.1).1) λY=>(bB (c7 0 Y&&c7 Y Y&&a_ (aT Y) 8) (uO I.1 I.2.1.2 (lt ((aJ (T:=wZ) I.2.1.2 I.1).1) λU=>(bB (c7 0 U&&c7 U U&&a_ (aT U) 24) (bB (a_ (al I.q6+al ([(0,(aG (aT Y) (0:Int)),(aG (aT U) ([]:List Int)),0)])) 64) (cL ((cC I.1),I.2.1,I.p2,I.p3,I.p4,I.p5,(I.q6++([(0,(aG (aT Y) (0:Int)),(aG (aT U) ([]:List Int)),0)]))))))))))) (aE I.q3))) (0,J.2.1,J.p2,J.p3,J.p4,J.q5,([]:List tY))) λr=>af (bQ r)))) (0,M.2.1,M.p2,M.p3,M.q4,([]:List Int))) λr=>af (bQ r)))) (0,x,0,y2,([]:List Int))))))
def wu (x:zP×oZ×(List Int)×(List Int)×List tY):Option (Bool):=
 (jn (α:=Bool×zP×oZ×(List Int)×(List Int)×List tY) (obind (jA x.1) λy2=>(bcase (!y2) (aE (ai,x)) (obind (rk (x.1.1,x.2.1)) λy3=>(bcase (!y3) (aE (ai,x)) (jd (aX x.p2) (aX x.1.1.1) (aE (ai,x)) (jd (aX x.p3) (aX x.1.1.p3) (aE (ai,x)) (aE ((!decide (((aX x.q4):Int)=(aX x.1.2))),x)))))))) λU=>(bcase U.1 (af aj) (iter (σ:=Int×zP×oZ×(List Int)×(List Int)×List tY) (λI=>(bx I.1 (aX I.2.1.2) (bD eT I.q5 I.1 λJ=>(jn (α:=Bool×zP×oZ×(List Int)×(List Int)×List tY) (bx J.1 0 (aE (ai,I.2)) (bD wZ I.2.1.2 I.1 λz7=>(iR (aX z7.2) J.1 (aE (ai,I.2)) (bD wZ I.2.1.2 I.1 λZ=>(jd (aX J.2.1) Z.1 (aE (ai,I.2)) (bD wZ I.2.1.2 I.1 λY=>(aE ((!decide (((aX J.p2):Int)=Y.1)),I.2)))))))) λM=>(bcase M.1 (aE aj) (cL ((cC I.1),M.2))))) (aE ai))) (0,U.2))))
def wn (x:Int):Option (Int):=
 (jn (α:=Bool×List Int) (bx x 6 (aE (ai,[3,3,4,4,5,6,7,8,9,10,11,12,13,14,15,16,18,19,20,21,22,23,2])) (aE ((fO 28 x),[3,3,4,4,5,6,7,8,9,10,11,12,13,14,15,16,18,19,20,21,22,23,2]))) λI=>(bcase I.1 (af 0) (kz aM I.2 (bk .i64 (x-6)) λJ=>(af J))))
def r_ (x:jQ×Int×(List Int)×(List (List Int))×Int):Option (Int):=
 (jn (α:=Bool×jQ×Int×(List Int)×(List (List Int))×Int) (bd x.1.1 6 (aE ((decide ((x.1.1:Int)=6)),x)) (aE ((decide ((x.1.1:Int)=27)),x))) λI=>(bcase I.1 (af I.2.1.p2) (bd x.1.1 7 (bD aM I.p3 I.2.1.p3 λU=>(obind (rn (U,I.2.1.p4)) λZ=>(af (bk .i64 (I.2.1.p2+Z))))) (bd x.1.1 9 (bD aM I.p3 I.2.1.p3 λM=>(obind (rn (M,I.2.1.p4)) λY=>(af (bk .i64 (I.2.1.2.1+Y))))) (jn (α:=Bool×Int×Int×Int×Int×Int×Int) (bd x.1.1 10 (aE ((decide ((x.1.1:Int)=10)),I.2.1)) (bd x.1.1 17 (aE ((decide ((x.1.1:Int)=17)),I.2.1)) (bd x.1.1 18 (aE ((decide ((x.1.1:Int)=18)),I.2.1)) (bd x.1.1 19 (aE ((decide ((x.1.1:Int)=19)),I.2.1)) (bd x.1.1 20 (aE ((decide ((x.1.1:Int)=20)),I.2.1)) (aE ((decide ((x.1.1:Int)=28)),I.2.1))))))) λJ=>(bcase J.1 (af (-1)) (af J.p2)))))))
def nD (x:zP×wX×Int):Option (gw×Bool):=
 (jn (α:=Bool×zP×wX×Int×Int×Int×Int×Int) (obind (wu (x.1,x.2.1)) λy2=>(bcase (!y2) (aE (ai,x.1,x.2.1,0,0,0,0,0)) (bx x.2.2 0 (aE (ai,x.1,x.2.1,0,0,0,0,0)) (aE ((c7 (aX x.1.2) x.2.2),x.1,x.2.1,0,0,0,0,0))))) λZ=>(bcase Z.1 (af ((0,0,0,0,0,([]:List Int),([]:List Int)),aj)) (bD eT Z.p2.q3 x.2.2 λz3=>(bD wZ Z.2.1.2 x.2.2 λz4=>(bD qR z4.2 z3.1 λM=>(bD hY Z.p2.1.q3 x.2.2 λz6=>(bd z6.1 1 (af ((x.2.2,1,(-1),0,(-1),([]:List Int),([]:List Int)),ai)) (bd z6.1 4 (bD hY Z.p2.1.q3 x.2.2 λz7=>(af ((x.2.2,17,z7.2.1,0,M.q5,([]:List Int),([]:List Int)),ai))) (bd z6.1 2 (obind (wn M.1) λy8=>(obind (r_ (M,z3)) λy9=>(bd y8 0 (af ((0,0,0,0,0,([]:List Int),([]:List Int)),aj)) (jn (α:=vR×tY×jQ×vR×List Int) (bd M.1 10 (bD (.sl aM) z3.p2 M.2.1 λz11=>(bB (a_ (al (z11:List Int)) 8) (aE (Z.q3,z3,M,(x.2.2,y8,y9,0,M.q5),z11)))) (jn (α:=Bool×vR×tY×jQ×Int×Int×Int×Int×Int) (bd M.1 7 (aE ((decide ((M.1:Int)=7)),Z.q3,z3,M,x.2.2,y8,y9,0,M.q5)) (aE ((decide ((M.1:Int)=9)),Z.q3,z3,M,x.2.2,y8,y9,0,M.q5))) λI=>(bcase I.1 (bD (.sl aM) I.p2.p2 I.p3.p3 λz13=>(bB (a_ (al (z13:List Int)) 8) (aE (I.2.1,I.p2,I.p3,I.q4,z13)))) (aE (I.2.1,I.p2,I.p3,I.q4,([]:List Int)))))) λY=>(jn (α:=vR×vR×(List Int)×List Int) (jn (α:=Bool×vR×tY×jQ×vR×List Int) (bd Y.p2.1 8 (aE (ai,Y)) (bd Y.p2.1 9 (aE (ai,Y)) (aE ((decide ((Y.p2.1:Int)=26)),Y)))) λJ=>(bcase J.1 (bD (.sl aM) J.p2.p2 J.p3.p2 λz16=>(bB (a_ (al (z16:List Int)) 8) (aE (J.2.1,J.p4,J.q5,z16)))) (aE (J.2.1,J.p4,J.q5,([]:List Int))))) λU=>(af ((U.2.1.1,U.2.1.2.1,U.2.1.p2,U.2.1.p3,U.2.1.q4,U.2.2),ai))))))) (af ((0,0,0,0,0,([]:List Int),([]:List Int)),aj)))))))))))
def mI (x:gK×gu×(List fm)×ca×ca×List (Int×Int×Int)):Option eE:=
 (obind (rj x) λM=>(bB (c7 0 (aX x.p3)&&c7 (aX x.p3) (aX x.p3)&&a_ (aT (aX x.p3)) 8) (bB (c7 0 (aX x.p4)&&c7 (aX x.p4) (aX x.p4)&&a_ (aT (aX x.p4)) 8) (iter (σ:=Int×dD×Int×oZ×(List Int)×(List Int)×List Int) (λI=>(bx I.1 (aX I.2.1.1) (bD kw I.2.1.1 I.1 λJ=>(bB (a_ (al I.p4+al ([J.2.2.2.2])) 8) (cL ((cC I.1),I.2.1,I.p2,I.p3,(I.p4++([J.2.2.2.2])),I.q5)))) (aE I.q3))) (0,x,0,M,([]:List Int),(aG (aT (aX x.p3)) (0:Int)),(aG (aT (aX x.p4)) (0:Int)))))))
def wj (x:dD×oZ×(List Int)×(List Int)×List Int):Option (Bool):=
 (jn (α:=Bool) (obind (rk (x.1,x.2.1)) λI=>(bcase I (bd (aX x.p2) (aX x.1.1) (bd (aX x.p3) (aX x.1.p3) (aE (decide (((aX x.q4):Int)=(aX x.1.p4)))) (aE aj)) (aE aj)) (aE aj))) λJ=>(af J))
def CK (x:Int×Int):Option (Bool):=
 (jn (α:=Bool) (iR 0 x.1 (aE (fO x.1 x.2)) (aE aj)) λI=>(af I))
def nC (x:(List Int)×Int):Option (Bool):=
 (iter (σ:=Int) (λI=>(bx I (aX x.1) (jn (α:=Bool) (bD aM x.1 I λY=>(bx Y 1 (aE ai) (bD aM x.1 I λU=>(iR x.2 U (aE ai) (bx 0 I (bD aM x.1 I λM=>(bD aM x.1 (bk .i64 (I-1)) λJ=>(aE (c7 M J)))) (aE aj)))))) λZ=>(bcase Z (aE aj) (cL (cC I)))) (aE ai))) 0)
def ue (x:eE×Int×Int×Int×Int×Int×(List Int)×List Int):Option (Bool):=
 (bd x.p2 3 (bD aM x.1.2.1 x.p3 λU=>(af (decide ((x.p4:Int)=U)))) (bd x.p2 23 (bD aM x.1.p2 x.p3 λM=>(af (decide ((x.p4:Int)=M)))) (bd x.p2 5 (jn (α:=Bool) (bd x.p4 0 (aE ai) (aE (decide ((x.p4:Int)=1)))) λx3=>(af x3)) (jn (α:=Bool×eE×Int×Int×Int×Int×Int×(List Int)×List Int) (bd x.p2 4 (aE ((decide ((x.p2:Int)=4)),x)) (aE ((decide ((x.p2:Int)=22)),x))) λI=>(bcase I.1 (af ai) (bd x.p2 18 (obind (nE (I.2.1.1,I.p4)) λJ=>(bd (aX J) 0 (af (decide ((I.p5:Int)=(-1)))) (jn (α:=Bool) (iR 0 I.p5 (bx I.p5 (aX I.2.1.1.q3) (obind (qi (J,I.p5)) λZ=>(aE Z)) (aE aj)) (aE aj)) λx6=>(af x6)))) (bd x.p2 19 (obind (nE (I.2.1.1,I.p4)) λY=>(af (decide ((I.p5:Int)=(aX Y))))) (af (decide ((I.p5:Int)=0))))))))))
def ri (x:dD×eE×Int×Int×Int×Int×Int×(List Int)×List Int):Option (eE×Bool):=
 (jn (α:=Bool×dD×eE×gw×Int) (obind (wj (x.1,x.2.1)) λy2=>(bcase (!y2) (aE (ai,x.1,x.2.1,x.2.2,0)) (obind (CK (x.p2,(aX x.1.p4))) λy3=>(bcase (!y3) (aE (ai,x.1,x.2.1,x.2.2,0)) (bx x.p3 1 (aE (ai,x.1,x.2.1,x.2.2,0)) (bx 23 x.p3 (aE (ai,x.1,x.2.1,x.2.2,0)) (obind (j9 (x.1,x.2.1.1,x.p2,x.p3,x.p4)) λy4=>(aE ((!y4),x.1,x.2.1,x.2.2,0))))))))) λx1=>(bcase x1.1 (af (((([]:List (Int×List Int)),0,([]:List Bool),([]:List dw)),([]:List Int),([]:List Int),([]:List Int)),aj)) (jn (α:=dD×eE×gw×Int) (jn (α:=Bool×dD×eE×gw×Int) (bd x1.p3.2.1 1 (aE (ai,x1.2)) (aE ((decide ((x1.p3.2.1:Int)=2)),x1.2))) λx6=>(bcase x6.1 (jd x6.p3.p4 (-1) (cL (((([]:List (Int×List Int)),0,([]:List Bool),([]:List dw)),([]:List Int),([]:List Int),([]:List Int)),aj)) (aE x6.2)) (jn (α:=Bool×dD×eE×gw×Int) (obind (CK (x6.p3.p4,(aX x6.2.1.q5))) λy8=>(bcase (!y8) (aE (ai,x6.2)) (bD om x6.2.1.q5 x6.p3.p4 λz9=>(aE ((!decide ((z9.1:Int)=x6.p3.1)),x6.2))))) λx7=>(bcase x7.1 (cL (((([]:List (Int×List Int)),0,([]:List Bool),([]:List dw)),([]:List Int),([]:List Int),([]:List Int)),aj)) (aE x7.2))))) λx5=>(jn (α:=Bool×dD×eE×gw×Int) (bd x5.p2.2.1 3 (aE (ai,x5)) (aE ((decide ((x5.p2.2.1:Int)=4)),x5))) λZ=>(jn (α:=Bool×dD×eE×gw×Int) (bx 0 (aX Z.p3.p5) (jd Z.p3.2.1 5 (bcase Z.1 (bD kw Z.2.1.1 Z.p3.p2 λz12=>(aE ((!(!decide ((z12.2.2.1:Int)=0))),Z.2))) (aE (ai,Z.2))) (aE (aj,Z.2))) (aE (aj,Z.2))) λx11=>(bcase x11.1 (af (((([]:List (Int×List Int)),0,([]:List Bool),([]:List dw)),([]:List Int),([]:List Int),([]:List Int)),aj)) (jn (α:=Bool×dD×eE×gw×Int) (bx 0 (aX x11.p3.q6) (jd x11.p3.2.1 4 (aE ((!decide ((x11.p3.2.1:Int)=22)),x11.2)) (aE (aj,x11.2))) (aE (aj,x11.2))) λU=>(bcase U.1 (af (((([]:List (Int×List Int)),0,([]:List Bool),([]:List dw)),([]:List Int),([]:List Int),([]:List Int)),aj)) (jn (α:=Bool×dD×eE×gw×Int) (bD aM U.p2.q3 U.p3.1 λz15=>(obind (nC (U.p3.p5,z15)) λy16=>(bcase (!y16) (aE (ai,U.2)) (bD aM U.p2.q3 U.p3.1 λz17=>(obind (nC (U.p3.q6,z17)) λy18=>(bcase (!y18) (aE (ai,U.2)) (obind (ue (U.p2,U.p3)) λy19=>(aE ((!y19),U.2))))))))) λI=>(bcase I.1 (af (((([]:List (Int×List Int)),0,([]:List Bool),([]:List dw)),([]:List Int),([]:List Int),([]:List Int)),aj)) (bB (a_ (al ([]:List Int)+al I.p2.2.1) 8) (bB (a_ (al ([]:List Int)+al I.p2.p2) 8) (bB (a_ (al ([]:List Int)+al I.p2.q3) 8) (jn (α:=Int×dD×eE×gw×Int×Int×(List Int)×(List Int)×List Int) (bd I.p3.2.1 18 (aE (I.p3.p3,I.2.1,I.p2,I.p3,I.q4,0,(([]:List Int)++I.p2.2.1),(([]:List Int)++I.p2.p2),(([]:List Int)++I.p2.q3))) (aE ((-1),I.2.1,I.p2,I.p3,I.q4,0,(([]:List Int)++I.p2.2.1),(([]:List Int)++I.p2.p2),(([]:List Int)++I.p2.q3)))) λJ=>(obind (pe (J.2.1,J.p2.1,J.p3.1,J.p3.2.1,J.p3.p2,J.1)) λy21=>(jn (α:=gw×Int×oZ×(List Int)×(List Int)×List Int) (bd J.p3.2.1 4 (ck (fe J.p3.p2 (al J.p6)) (aE (J.p3,J.p4,y21.1,(cQ J.p6 J.p3.p2 J.p3.p3),J.q7))) (aE (J.p3,J.p4,y21.1,J.q6))) λM=>(jn (α:=gw×Int×oZ×(List Int)×(List Int)×List Int) (bd M.1.2.1 22 (ck (fe M.1.p2 (al M.p4)) (aE (M.1,M.2.1,M.p2,M.p3,(cQ M.p4 M.1.p2 M.1.p3),M.q5))) (aE M)) λY=>(kz aM Y.q5 Y.1.1 λz24=>(ck (fe Y.1.1 (al Y.q5)) (af ((Y.p2,Y.p3,Y.p4,(cQ Y.q5 Y.1.1 (cC z24))),ai)))))))))))))))))))))
def rh (x:(List gw)×Int×Int×List Int):Option (Bool):=
 (iter (σ:=Int) (λJ=>(bx J (aX x.q3) (iter (σ:=Int×Bool×Int) (λI=>(bx I.2.2 x.2.1 (jn (α:=Int×Bool) (bD gd x.1 I.2.2 λz4=>(jd z4.1 x.p2 (aE (I.1,I.2.1)) (jn (α:=Bool) (bcase I.2.1 (aE ai) (bD aM x.q3 J λZ=>(bd I.1 Z (bD gd x.1 I.2.2 λY=>(bd Y.2.1 3 (aE ai) (bD gd x.1 I.2.2 λU=>(aE (decide ((U.2.1:Int)=23)))))) (aE aj)))) λx5=>(aE ((cC I.1),x5))))) λM=>(cL (M.1,M.2,(cC I.2.2)))) (obind (bcase (!I.2.1) (aE aj) (cL (cC J))) λr=>af (bQ r)))) (0,aj,0)) (aE ai))) 0)
def uf (x:dD×List gw):Option (Int×Int):=
 (bx 400 (aX x.2) (af (0,2)) (obind (g_ x.1) λy1=>(bcase (!y1) (af (0,1)) (obind (mI x.1) λy2=>(iter (σ:=Int×(dD×List gw)×oZ×(List Int)×(List Int)×List Int) (λI=>(bx I.1 (aX I.2.1.2) (bD gd I.2.1.2 I.1 λJ=>(obind (ri (I.2.1.1,I.2.2,J)) λM=>(jn (α:=Bool×(dD×List gw)×eE×oZ×(List Int)×(List Int)×List Int) (bcase (!M.2) (aE (ai,I.2.1,I.2.2,M.1)) (obind (rh (I.2.1.2,I.1,J.1,J.p5)) λZ=>(bcase (!Z) (aE (ai,I.2.1,I.2.2,M.1)) (obind (rh (I.2.1.2,I.1,J.1,J.q6)) λY=>(aE ((!Y),I.2.1,I.2.2,M.1)))))) λU=>(bcase U.1 (aE (I.1,12)) (cL ((cC I.1),U.2.1,U.q3)))))) (aE (0,0)))) (0,x,y2))))))
def KG {Z W V:Type} (i:Int) (t1:Z->(List Int)->(List (List Int))->W) (t2:W->V) (t3:V->tY->List tY) (x6:Int) (I:zP×oZ×(Int×Int)×Int×vR×gw×(Int×Int)×(List Int)×(List Int)×Z×(List Int)×List (List Int)):Option DU:=
 (jn (α:=oZ×(Int×Int)×Int×vR×gw×tY×(List Int)×(List Int)×V) (jn (α:=Bool×zP×oZ×(Int×Int)×Int×vR×gw×tY×(List Int)×(List Int)×W) (jd I.p5.2.1 16 (aE ((!decide ((I.p5.2.1:Int)=2)),I.1,I.2.1,I.p2,I.p3,I.p4,I.p5,(x6,I.p10,I.q11,(cC I.p6.2)),I.p7,I.p8,(t1 I.p9 I.p10 I.q11))) (aE (aj,I.1,I.2.1,I.p2,I.p3,I.p4,I.p5,(x6,I.p10,I.q11,(cC I.p6.2)),I.p7,I.p8,(t1 I.p9 I.p10 I.q11)))) λJ=>(bcase J.1 (bD wZ J.2.1.2 J.p3.1 λU=>(obind (mV (U,J.p7)) λY=>(aE (J.p2,J.p3,J.p4,J.p5,J.p6,Y.1,J.p8,J.p9,(t2 J.q10))))) (aE (J.p2,J.p3,J.p4,J.p5,J.p6,J.p7,J.p8,J.p9,(t2 J.q10))))) λM=>(bd M.2.1.1 i (af ((M.1,M.p6,M.p7,(t3 M.q8 M.p5)),M.p4,ai)) ah))
def SG {Z:Type} (i:Int) (cp:(oZ×(List Int)×(List Int)×List tY)->Option (Int×gE×(List Bool)×(List dw)×(List Int)×(List Int)×Z×(List Int)×List (List Int))) (Y ev:Z->Int) (k:Int->(zP×oZ×(Int×Int)×Int×vR×gw×(Int×Int)×(List Int)×(List Int)×Z×(List Int)×List (List Int))->Option DU) (x:zP×wX×Int×Int):Option DU:=
 (obind (nD (x.1,x.2.1,x.p2)) λM=>(bcase (!M.2) (af (((([]:List (Int×List Int)),0,([]:List Bool),([]:List dw)),([]:List Int),([]:List Int),([]:List tY)),(0,0,0,0,0,([]:List Int),([]:List Int)),aj)) (obind (pe (x.1.1,x.2.1.1,x.p2,M.1.2.1,M.1.p2,x.q3)) λy2=>(bcase (!y2.2.2) (af (((([]:List (Int×List Int)),0,([]:List Bool),([]:List dw)),([]:List Int),([]:List Int),([]:List tY)),(0,0,0,0,0,([]:List Int),([]:List Int)),aj)) (obind (cp x.2.1) λU=>(bd x.p2 i (bD wZ x.1.2 i λz4=>(bD qR z4.2 (Y U.p6) λz5=>(jn (α:=Int×zP×oZ×(Int×Int)×Int×vR×gw×(Int×Int)×jQ×(List Int)×(List Int)×Z×(List Int)×List (List Int)) (jn (α:=Bool×zP×oZ×(Int×Int)×Int×vR×gw×(Int×Int)×jQ×(List Int)×(List Int)×Z×(List Int)×List (List Int)) (bd M.1.2.1 1 (aE ((decide ((M.1.2.1:Int)=1)),x.1,y2.1,(i,x.q3),0,(0,0,0,0,0),(M.1.1,M.1.2.1,M.1.p2,y2.2.1,M.1.q4),((Y U.p6),(ev U.p6)),z5,U.q4)) (bd M.1.2.1 16 (aE ((decide ((M.1.2.1:Int)=16)),x.1,y2.1,(i,x.q3),0,(0,0,0,0,0),(M.1.1,M.1.2.1,M.1.p2,y2.2.1,M.1.q4),((Y U.p6),(ev U.p6)),z5,U.q4)) (aE ((decide ((M.1.2.1:Int)=2)),x.1,y2.1,(i,x.q3),0,(0,0,0,0,0),(M.1.1,M.1.2.1,M.1.p2,y2.2.1,M.1.q4),((Y U.p6),(ev U.p6)),z5,U.q4)))) λI=>(bcase I.1 (aE (I.p7.1,I.2)) (bd M.1.2.1 3 (kz aM I.p9 I.p6.p2 λz8=>(aE ((bk .i64 ((Y U.p6)+1)),I.2.1,I.p2,I.p3,I.p4,I.p5,(I.p6.1,I.p6.2.1,I.p6.p2,z8,I.p6.q4),I.q7))) (bd M.1.2.1 23 (kz aM I.p10 I.p6.p2 λz9=>(aE ((bk .i64 ((Y U.p6)+1)),I.2.1,I.p2,I.p3,I.p4,I.p5,(I.p6.1,I.p6.2.1,I.p6.p2,z9,I.p6.q4),I.q7))) (bd M.1.2.1 4 (kz aM I.p12 I.p8.p2 λz10=>(ck (fe I.p6.p2 (al I.p9)) (aE ((bk .i64 ((Y U.p6)+1)),I.2.1,I.p2,I.p3,I.p4,I.p5,(I.p6.1,I.p6.2.1,I.p6.p2,z10,I.p6.q4),I.p7,I.p8,(cQ I.p9 I.p6.p2 z10),I.q10)))) (bd M.1.2.1 22 (kz aM I.p12 I.p8.p2 λz11=>(ck (fe I.p6.p2 (al I.p10)) (aE ((bk .i64 ((Y U.p6)+1)),I.2.1,I.p2,I.p3,I.p4,I.p5,(I.p6.1,I.p6.2.1,I.p6.p2,z11,I.p6.q4),I.p7,I.p8,I.p9,(cQ I.p10 I.p6.p2 z11),I.q11)))) (bd M.1.2.1 5 (kz aM I.p12 I.p8.2.1 λz12=>(bd z12 0 (aE (I.p8.p2,I.2.1,I.p2,I.p3,I.p4,I.p5,(I.p6.1,I.p6.2.1,I.p6.p2,0,I.p6.q4),I.q7)) (aE ((bk .i64 ((Y U.p6)+1)),I.2.1,I.p2,I.p3,I.p4,I.p5,(I.p6.1,I.p6.2.1,I.p6.p2,1,I.p6.q4),I.q7)))) (aE ((bk .i64 ((Y U.p6)+1)),I.2))))))))) λx6=>(jn (α:=zP×oZ×(Int×Int)×Int×vR×gw×(Int×Int)×(List Int)×(List Int)×Z×(List Int)×List (List Int)) (jn (α:=Bool×zP×oZ×(Int×Int)×Int×vR×gw×(Int×Int)×jQ×(List Int)×(List Int)×Z×(List Int)×List (List Int)) (bd x6.p6.2.1 3 (aE (ai,x6.2)) (aE ((decide ((x6.p6.2.1:Int)=23)),x6.2))) λJ=>(bcase J.1 (ck (fe J.p8.2.1 (al J.p12)) (ck (fe J.p8.2.1 (al J.q13)) (aE (J.2.1,J.p2,J.p3,J.p4,J.p5,J.p6,J.p7,J.p9,J.p10,J.p11,(cQ J.p12 J.p8.2.1 J.p6.p3),(cQ J.q13 J.p8.2.1 ([J.p7.2])))))) (aE (J.2.1,J.p2,J.p3,J.p4,J.p5,J.p6,J.p7,J.q9)))) λx13=>(k x6.1 x13))))) ah))))))
def mU (x:oZ×(List Int)×(List Int)×List tY):Option (Int×gE×(List Bool)×(List dw)×(List Int)×(List Int)×(Int×Int)×(List Int)×List (List Int)):=
 (obind (ig x.1) λI=>(bB (a_ (al ([]:List Int)+al x.2.1) 8) (bB (a_ (al ([]:List Int)+al x.p2) 8) (bx 0 (aX x.q3) (bD eT x.q3 0 λM=>(obind (co M) λU=>(bx 1 (aX x.q3) (bD eT x.q3 1 λJ=>(obind (co J) λY=>ah)) (af (I.1,I.2.1,I.p2,I.q3,(([]:List Int)++x.2.1),(([]:List Int)++x.p2),U))))) ah))))
def fZ (x:zP×wX×Int×Int):Option DU:=
 SG 0 mU (λz=>z.1) (λz=>z.2) (KG 0 (λz R T=>(z.1,R,T,z.2)) (λw=>((w.1,w.2.1,w.2.2.1,w.2.2.2))) (λv t=>[t])) x
def mT (x:oZ×(List Int)×(List Int)×List tY):Option (Int×gE×(List Bool)×(List dw)×(List Int)×(List Int)×Ya29×(List Int)×List (List Int)):=
 (obind (ig x.1) λJ=>(bB (a_ (al ([]:List Int)+al x.2.1) 8) (bB (a_ (al ([]:List Int)+al x.p2) 8) (bx 0 (aX x.q3) (bD eT x.q3 0 λZ=>(obind (co Z) λM=>(bx 1 (aX x.q3) (bD eT x.q3 1 λY=>(obind (co Y) λI=>(bx 2 (aX x.q3) (bD eT x.q3 2 λU=>(obind (co U) λy7=>ah)) (af (J.1,J.2.1,J.p2,J.q3,(([]:List Int)++x.2.1),(([]:List Int)++x.p2),(M.1.1,M.1.2,I.1.1,I.2.1,I.2.2,I.1.2),M.2))))) ah))) ah))))
def gB (x:zP×wX×Int×Int):Option DU:=
 SG 0 mT (λz=>z.1) (λz=>z.2.1) (KG 0 (λz R T=>(z.1,R,T,z.2.1,z.2.2)) (λw=>((w.1,w.2.1,w.2.2.1,w.2.2.2.1),w.2.2.2.2)) (λv t=>[t,v.2])) x
def mS (x:oZ×(List Int)×(List Int)×List tY):Option (Int×gE×(List Bool)×(List dw)×(List Int)×(List Int)×(tY×Int×Int)×(List Int)×List (List Int)):=
 (obind (ig x.1) λJ=>(bB (a_ (al ([]:List Int)+al x.2.1) 8) (bB (a_ (al ([]:List Int)+al x.p2) 8) (bx 0 (aX x.q3) (bD eT x.q3 0 λZ=>(obind (co Z) λI=>(bx 1 (aX x.q3) (bD eT x.q3 1 λY=>(obind (co Y) λM=>(bx 2 (aX x.q3) (bD eT x.q3 2 λU=>(obind (co U) λy7=>ah)) (af (J.1,J.2.1,J.p2,J.q3,(([]:List Int)++x.2.1),(([]:List Int)++x.p2),((I.1.1,I.2.1,I.2.2,I.1.2),M.1),M.2))))) ah))) ah))))
def fY (x:zP×wX×Int×Int):Option DU:=
 SG 1 mS (λz=>z.2.1) (λz=>z.2.2) (KG 1 (λz R T=>(z.1,z.2.1,R,T,z.2.2)) (λw=>(w.1,(w.2.1,w.2.2.1,w.2.2.2.1,w.2.2.2.2))) (λv t=>[v.1,t])) x
def mR (x:oZ×(List Int)×(List Int)×List tY):Option (Int×gE×(List Bool)×(List dw)×(List Int)×(List Int)×Ya27×(List Int)×List (List Int)):=
 (obind (ig x.1) λM=>(bB (a_ (al ([]:List Int)+al x.2.1) 8) (bB (a_ (al ([]:List Int)+al x.p2) 8) (bx 0 (aX x.q3) (bD eT x.q3 0 λz2=>(obind (co z2) λU=>(bx 1 (aX x.q3) (bD eT x.q3 1 λz4=>(obind (co z4) λJ=>(bx 2 (aX x.q3) (bD eT x.q3 2 λZ=>(obind (co Z) λI=>(bx 3 (aX x.q3) (bD eT x.q3 3 λY=>(obind (co Y) λy9=>ah)) (af (M.1,M.2.1,M.p2,M.q3,(([]:List Int)++x.2.1),(([]:List Int)++x.p2),(U.1.1,U.1.2,(J.1.1,J.2.1,J.2.2,J.1.2),I.1.1,I.2.1,I.2.2,I.1.2),U.2))))) ah))) ah))) ah))))
def jp (x:zP×wX×Int×Int):Option DU:=
 SG 0 mR (λz=>z.1) (λz=>z.2.1) (KG 0 (λz R T=>(z.1,R,T,z.2.1,z.p2,z.q3)) (λw=>((w.1,w.2.1,w.2.2.1,w.2.2.2.1),w.2.2.2.2.1,w.2.2.2.2.2)) (λv t=>[t,v.2.1,v.2.2])) x
def mQ (x:oZ×(List Int)×(List Int)×List tY):Option (Int×gE×(List Bool)×(List dw)×(List Int)×(List Int)×Ya28×(List Int)×List (List Int)):=
 (obind (ig x.1) λM=>(bB (a_ (al ([]:List Int)+al x.2.1) 8) (bB (a_ (al ([]:List Int)+al x.p2) 8) (bx 0 (aX x.q3) (bD eT x.q3 0 λz2=>(obind (co z2) λJ=>(bx 1 (aX x.q3) (bD eT x.q3 1 λz4=>(obind (co z4) λU=>(bx 2 (aX x.q3) (bD eT x.q3 2 λZ=>(obind (co Z) λI=>(bx 3 (aX x.q3) (bD eT x.q3 3 λY=>(obind (co Y) λy9=>ah)) (af (M.1,M.2.1,M.p2,M.q3,(([]:List Int)++x.2.1),(([]:List Int)++x.p2),((J.1.1,J.2.1,J.2.2,J.1.2),U.1.1,U.1.2,I.1.1,I.2.1,I.2.2,I.1.2),U.2))))) ah))) ah))) ah))))
def iC (x:zP×wX×Int×Int):Option DU:=
 SG 1 mQ (λz=>z.2.1) (λz=>z.p2) (KG 1 (λz R T=>(z.1,z.2.1,R,T,z.p2,z.q3)) (λw=>(w.1,(w.2.1,w.2.2.1,w.2.2.2.1,w.2.2.2.2.1),w.2.2.2.2.2)) (λv t=>[v.1,t,v.2.2])) x
def mP (x:oZ×(List Int)×(List Int)×List tY):Option (Int×gE×(List Bool)×(List dw)×(List Int)×(List Int)×(tY×tY×Int×Int)×(List Int)×List (List Int)):=
 (obind (ig x.1) λM=>(bB (a_ (al ([]:List Int)+al x.2.1) 8) (bB (a_ (al ([]:List Int)+al x.p2) 8) (bx 0 (aX x.q3) (bD eT x.q3 0 λz2=>(obind (co z2) λJ=>(bx 1 (aX x.q3) (bD eT x.q3 1 λz4=>(obind (co z4) λI=>(bx 2 (aX x.q3) (bD eT x.q3 2 λZ=>(obind (co Z) λU=>(bx 3 (aX x.q3) (bD eT x.q3 3 λY=>(obind (co Y) λy9=>ah)) (af (M.1,M.2.1,M.p2,M.q3,(([]:List Int)++x.2.1),(([]:List Int)++x.p2),((J.1.1,J.2.1,J.2.2,J.1.2),(I.1.1,I.2.1,I.2.2,I.1.2),U.1),U.2))))) ah))) ah))) ah))))
def gZ (x:zP×wX×Int×Int):Option DU:=
 SG 2 mP (λz=>z.p2) (λz=>z.q3) (KG 2 (λz R T=>(z.1,z.2.1,z.p2,R,T,z.q3)) (λw=>(w.1,w.2.1,(w.2.2.1,w.2.2.2.1,w.2.2.2.2.1,w.2.2.2.2.2))) (λv t=>[v.1,v.2.1,t])) x
def mO (x:oZ×(List Int)×(List Int)×List tY):Option (Int×gE×(List Bool)×(List dw)×(List Int)×(List Int)×Ya23×(List Int)×List (List Int)):=
 (obind (ig x.1) λU=>(bB (a_ (al ([]:List Int)+al x.2.1) 8) (bB (a_ (al ([]:List Int)+al x.p2) 8) (bx 0 (aX x.q3) (bD eT x.q3 0 λz2=>(obind (co z2) λZ=>(bx 1 (aX x.q3) (bD eT x.q3 1 λz4=>(obind (co z4) λM=>(bx 2 (aX x.q3) (bD eT x.q3 2 λz6=>(obind (co z6) λJ=>(bx 3 (aX x.q3) (bD eT x.q3 3 λz8=>(obind (co z8) λI=>(bx 4 (aX x.q3) (bD eT x.q3 4 λY=>(obind (co Y) λy11=>ah)) (af (U.1,U.2.1,U.p2,U.q3,(([]:List Int)++x.2.1),(([]:List Int)++x.p2),(Z.1.1,Z.1.2,(M.1.1,M.2.1,M.2.2,M.1.2),(J.1.1,J.2.1,J.2.2,J.1.2),I.1.1,I.2.1,I.2.2,I.1.2),Z.2))))) ah))) ah))) ah))) ah))))
def mK (x:zP×wX×Int×Int):Option DU:=
 SG 0 mO (λz=>z.1) (λz=>z.2.1) (KG 0 (λz R T=>(z.1,R,T,z.2.1,z.p2,z.p3,z.q4)) (λw=>((w.1,w.2.1,w.2.2.1,w.2.2.2.1),w.2.2.2.2.1,w.2.2.2.2.2.1,w.2.2.2.2.2.2)) (λv t=>[t,v.2.1,v.2.2.1,v.2.2.2])) x
def mN (x:oZ×(List Int)×(List Int)×List tY):Option (Int×gE×(List Bool)×(List dw)×(List Int)×(List Int)×Ya24×(List Int)×List (List Int)):=
 (obind (ig x.1) λU=>(bB (a_ (al ([]:List Int)+al x.2.1) 8) (bB (a_ (al ([]:List Int)+al x.p2) 8) (bx 0 (aX x.q3) (bD eT x.q3 0 λz2=>(obind (co z2) λM=>(bx 1 (aX x.q3) (bD eT x.q3 1 λz4=>(obind (co z4) λZ=>(bx 2 (aX x.q3) (bD eT x.q3 2 λz6=>(obind (co z6) λJ=>(bx 3 (aX x.q3) (bD eT x.q3 3 λz8=>(obind (co z8) λI=>(bx 4 (aX x.q3) (bD eT x.q3 4 λY=>(obind (co Y) λy11=>ah)) (af (U.1,U.2.1,U.p2,U.q3,(([]:List Int)++x.2.1),(([]:List Int)++x.p2),((M.1.1,M.2.1,M.2.2,M.1.2),Z.1.1,Z.1.2,(J.1.1,J.2.1,J.2.2,J.1.2),I.1.1,I.2.1,I.2.2,I.1.2),Z.2))))) ah))) ah))) ah))) ah))))
def mJ (x:zP×wX×Int×Int):Option DU:=
 SG 1 mN (λz=>z.2.1) (λz=>z.p2) (KG 1 (λz R T=>(z.1,z.2.1,R,T,z.p2,z.p3,z.q4)) (λw=>(w.1,(w.2.1,w.2.2.1,w.2.2.2.1,w.2.2.2.2.1),w.2.2.2.2.2.1,w.2.2.2.2.2.2)) (λv t=>[v.1,t,v.2.2.1,v.2.2.2])) x
def mM (x:oZ×(List Int)×(List Int)×List tY):Option (Int×gE×(List Bool)×(List dw)×(List Int)×(List Int)×Ya25×(List Int)×List (List Int)):=
 (obind (ig x.1) λU=>(bB (a_ (al ([]:List Int)+al x.2.1) 8) (bB (a_ (al ([]:List Int)+al x.p2) 8) (bx 0 (aX x.q3) (bD eT x.q3 0 λz2=>(obind (co z2) λM=>(bx 1 (aX x.q3) (bD eT x.q3 1 λz4=>(obind (co z4) λJ=>(bx 2 (aX x.q3) (bD eT x.q3 2 λz6=>(obind (co z6) λZ=>(bx 3 (aX x.q3) (bD eT x.q3 3 λz8=>(obind (co z8) λI=>(bx 4 (aX x.q3) (bD eT x.q3 4 λY=>(obind (co Y) λy11=>ah)) (af (U.1,U.2.1,U.p2,U.q3,(([]:List Int)++x.2.1),(([]:List Int)++x.p2),((M.1.1,M.2.1,M.2.2,M.1.2),(J.1.1,J.2.1,J.2.2,J.1.2),Z.1.1,Z.1.2,I.1.1,I.2.1,I.2.2,I.1.2),Z.2))))) ah))) ah))) ah))) ah))))
def li (x:zP×wX×Int×Int):Option DU:=
 SG 2 mM (λz=>z.p2) (λz=>z.p3) (KG 2 (λz R T=>(z.1,z.2.1,z.p2,R,T,z.p3,z.q4)) (λw=>(w.1,w.2.1,(w.2.2.1,w.2.2.2.1,w.2.2.2.2.1,w.2.2.2.2.2.1),w.2.2.2.2.2.2)) (λv t=>[v.1,v.2.1,t,v.2.2.2])) x
def mL (x:oZ×(List Int)×(List Int)×List tY):Option (Int×gE×(List Bool)×(List dw)×(List Int)×(List Int)×Ya42×(List Int)×List (List Int)):=
 (obind (ig x.1) λU=>(bB (a_ (al ([]:List Int)+al x.2.1) 8) (bB (a_ (al ([]:List Int)+al x.p2) 8) (bx 0 (aX x.q3) (bD eT x.q3 0 λz2=>(obind (co z2) λM=>(bx 1 (aX x.q3) (bD eT x.q3 1 λz4=>(obind (co z4) λJ=>(bx 2 (aX x.q3) (bD eT x.q3 2 λz6=>(obind (co z6) λI=>(bx 3 (aX x.q3) (bD eT x.q3 3 λz8=>(obind (co z8) λZ=>(bx 4 (aX x.q3) (bD eT x.q3 4 λY=>(obind (co Y) λy11=>ah)) (af (U.1,U.2.1,U.p2,U.q3,(([]:List Int)++x.2.1),(([]:List Int)++x.p2),((M.1.1,M.2.1,M.2.2,M.1.2),(J.1.1,J.2.1,J.2.2,J.1.2),(I.1.1,I.2.1,I.2.2,I.1.2),Z.1),Z.2))))) ah))) ah))) ah))) ah))))
def j8 (x:zP×wX×Int×Int):Option DU:=
 SG 3 mL (λz=>z.p3) (λz=>z.q4) (KG 3 (λz R T=>(z.1,z.2.1,z.p2,z.p3,R,T,z.q4)) (λw=>(w.1,w.2.1,w.2.2.1,(w.2.2.2.1,w.2.2.2.2.1,w.2.2.2.2.2.1,w.2.2.2.2.2.2))) (λv t=>[v.1,v.2.1,v.2.2.1,t])) x
def Ac (x:zP×wX×Int×Int):Option DU:=orE (mK x) (orE (mJ x) (orE (li x) (orE (j8 x) (orE (jp x) (orE (iC x) (orE (gZ x) (orE (gB x) (orE (fY x) (fZ x)))))))))
def wq (x:zP×wX×List (Int×Int)):Option ((List gw)×oZ×(List Int)×(List Int)×List tY):=
 (iter (σ:=Int×(List gw)×zP×wX×Int) (λJ=>(jn (α:=Bool×(List gw)×zP×wX×Int) (bx J.1 (aX x.2.2) (aE ((fO (aX J.2.1) 400),J.2)) (aE (aj,J.2))) λI=>(bcase I.1 (jn (α:=(List gw)×zP×wX×Int) (bD iK x.2.2 J.1 λU=>(obind (Ac (I.p2,I.p3,U)) λM=>(bcase M.2.2 (bB (a_ (al I.2.1+al ([M.2.1])) 88) (aE ((I.2.1++([M.2.1])),I.p2,M.1,I.q4))) (aE I.2)))) λY=>(cL ((cC J.1),Y))) (aE (I.2.1,I.p3))))) (0,([]:List gw),x.1,x.2.1,0))
def yU (x:zP×List (Int×Int)):Option ((dD×List gw)×oZ×(List Int)×(List Int)×List tY):=
 (obind (jA x.1) λM=>(bcase (!M) (af (((([]:List SD),([]:List ((List UInt8)×Bool)),([]:List fm),([]:List (List UInt8)),([]:List (List UInt8)),([]:List (Int×Int×Int))),([]:List gw)),(([]:List (Int×List Int)),0,([]:List Bool),([]:List dw)),([]:List Int),([]:List Int),([]:List tY))) (obind (ug x.1) λJ=>(obind (wq (x.1,J,x.2)) λI=>(af ((x.1.1,I.1),I.2))))))
def bz (x:Int×(List Int)×Int):Option (Int×(List Int)×Int):=
 (jn (α:=Bool×(List Int)×Int) (iR (aX x.2.1) x.2.2 (aE (ai,x.2)) (aE ((fO x.1 1),x.2))) λI=>(bcase I.1 (af (0,I.2)) (lt (cC I.2.2) λM=>(bD (.int .u8) I.2.1 (bk .i64 (M-1)) λJ=>(bB (!decide ((x.1:Int)=0)) (af ((zY (bk .i64 J) x.1),I.2.1,(cC I.2.2))))))))
def ry (x:Int):Option (Xp):=
 (af (dZ (1,x,[],([]:List Xp))))
def pj (x:List UInt8):Option (Xp):=
 (af (dZ (2,0,x,([]:List Xp))))
def nI (x:Int×Xp×Xp):Option (Xp):=
 (af (dZ (x.1,0,[],[dZ ((Xp.op x.2.1),(Xp.n x.2.1),(Xp.name x.2.1),(Xp.l x.2.1)),dZ ((Xp.op x.2.2),(Xp.n x.2.2),(Xp.name x.2.2),(Xp.l x.2.2))])))
def ji (x:(List UInt8)×Xp):Option (Sx):=
 (af (nJ (1,0,x.1,[],([]:List Xp),dZ ((Xp.op x.2),(Xp.n x.2),(Xp.name x.2),(Xp.l x.2)),([]:List Sx),([]:List Sx))))
def sd (x:Unit):Option rY:=
 (af ([(1,0,[120],0,0,[]),(1,0,[121],0,1,[]),(2,0,[118],0,0,[]),(1,0,[113],2,0,[]),(3,0,[109],0,0,[]),(3,0,[110],0,0,[]),(4,0,[114],0,0,[]),(5,0,[99],0,0,[109]),(6,0,[102],0,0,[])]))
def oG (x:List Int):Option (List (Int×Int)):=
 (iter (σ:=Int×List (Int×Int)) (λI=>(bx I.1 (aX x) (bD (.int .u8) x I.1 λM=>(bD (.int .u8) x I.1 λJ=>(bB (a_ (al I.2+al ([((zY (bk .i64 M) 4),(bk .i64 ((zY (bk .i64 (Int.tdiv (bk .i64 J) 4)) 5)-1)))])) 16) (cL ((cC I.1),(I.2++([((zY (bk .i64 M) 4),(bk .i64 ((zY (bk .i64 (Int.tdiv (bk .i64 J) 4)) 5)-1)))]))))))) (aE I.2))) (0,([]:List (Int×Int))))
def nP (rmade_maker_expr:Y0->Option afl) (x:Int×yJ×fD×Bool×List (List UInt8)):Option afl:=
 (obind (bz (10,x.p2)) λZ=>(jn (α:=Bool×yJ×fD×SE×(Int×Int×List UInt8)×List (List UInt8)) (bx Z.1 2 (aE (ai,x.2.1,Z.2,x.q3,(0,0,[]),[[97],[98],[120],[121],[118],[120],[121]])) (bd x.1 0 (aE ((c7 7 Z.1),x.2.1,Z.2,x.q3,(0,0,[]),[[97],[98],[120],[121],[118],[120],[121]])) (aE (aj,x.2.1,Z.2,x.q3,(0,0,[]),[[97],[98],[120],[121],[118],[120],[121]])))) λI=>(bcase I.1 (obind (bz (4,I.p2)) λy3=>(obind (ry y3.1) λy4=>(af (dZ ((Xp.op y4),(Xp.n y4),(Xp.name y4),(Xp.l y4)),I.2.1,y3.2,I.p3)))) (bx Z.1 7 (obind (bz ((aX I.q5),I.p2)) λy5=>(kz (.str) I.q5 y5.1 λz6=>(obind (pj z6) λy7=>(af (dZ ((Xp.op y7),(Xp.n y7),(Xp.name y7),(Xp.l y7)),I.2.1,y5.2,I.p3))))) (bd Z.1 7 (obind (rmade_maker_expr (0,I.2.1,I.p2,I.p3)) λY=>(bB (((I.p3.1==Y.p3)&&ai)&&aC (al I.p3.2) (al Y.q4)&&ai) (af (dZ (3,0,[113],[dZ ((Xp.op Y.1),(Xp.n Y.1),(Xp.name Y.1),(Xp.l Y.1))]),Y.2)))) (obind (bz ((aO (al ([6,7,8,11,13,17]))),I.p2)) λy9=>(kz aM ([6,7,8,11,13,17]) y9.1 λz10=>(obind (rmade_maker_expr ((bk .i64 (x.1-1)),I.2.1,y9.2,I.p3)) λJ=>(bB (((I.p3.1==J.p3)&&ai)&&aC (al I.p3.2) (al J.q4)&&ai) (obind (rmade_maker_expr ((bk .i64 (x.1-1)),J.2)) λU=>(bB (((J.p3==U.p3)&&ai)&&aC (al J.q4) (al U.q4)&&ai) (obind (nI (z10,J.1,U.1)) λM=>(af (dZ ((Xp.op M),(Xp.n M),(Xp.name M),(Xp.l M)),U.2))))))))))))))
def il:Nat->Y0->Option afl
 |0,_=>ah
 |n+1,x=>nP (il n) x
theorem yG (n:Nat) (x:Int×yJ×fD×Bool×List (List UInt8)):il (n+1) x=nP (il n) x:=rfl
def fc (x:Int×yJ×fD×Bool×List (List UInt8)):Option afl:=il fuel x
def eL (x:(List UInt8)×yJ×fD×Bool×List (List UInt8)):Option (Bool×yJ×fD×Bool×List (List UInt8)):=
 (obind (iU (x.q4,x.1)) λI=>(af ((c7 0 I),x.2)))
def mw (rmade_maker_stmts:afn->Option YZ) (rmade_maker_stmt:Y0->Option acd) (rmade_maker_block:afm->Option ace) (x:(Int×Int)×yJ×fD×Bool×List (List UInt8)):Option YZ:=
 (iter (σ:=Int×yJ×fD×(List Sx)×Bool×List (List UInt8)) (λJ=>(jn (α:=Bool×yJ×fD×(List Sx)×Bool×List (List UInt8)) (bx J.1 x.1.2 (bd J.1 0 (aE (ai,J.2)) (aE ((fO 0 J.2.1.2.1),J.2))) (aE (aj,J.2))) λI=>(bcase I.1 (obind (rmade_maker_stmt (x.1.1,I.2.1,I.p2,I.q4)) λM=>(bB (((I.p4==I.p4)&&ai)&&aC (al I.q5) (al I.q5)&&ai) (bB (a_ (al I.p3+al ([d_ M.1])) 176) (cL ((cC J.1),M.2.1,M.p2,(I.p3++([d_ M.1])),M.q3))))) (aE (I.2.1,I.p2,I.q4,I.p3))))) (0,x.2.1,x.p2,([]:List Sx),x.q3))
def nO (rmade_maker_stmts:afn->Option YZ) (rmade_maker_stmt:Y0->Option acd) (rmade_maker_block:afm->Option ace) (x:Int×yJ×fD×Bool×List (List UInt8)):Option acd:=
 (obind (bz (18,x.p2)) λy1=>(jn (α:=Bool×yJ×fD×Hg×Bool×List (List UInt8)) (bx 0 x.1 (lt (bk .i64 (x.2.1.2.1-1)) λz3=>(bx 0 z3 (aE ((!x.2.1.p3),(x.2.1.1,(bk .i64 (x.2.1.2.1-1)),x.2.1.2.2),y1.2,(0,0,[],[],0,0,[]),x.q3)) (aE (aj,(x.2.1.1,(bk .i64 (x.2.1.2.1-1)),x.2.1.2.2),y1.2,(0,0,[],[],0,0,[]),x.q3)))) (aE (aj,(x.2.1.1,(bk .i64 (x.2.1.2.1-1)),x.2.1.2.2),y1.2,(0,0,[],[],0,0,[]),x.q3))) λx2=>(bx y1.1 4 (kz (.str) ([[120],[121],[120],[118]]) y1.1 λz4=>(obind (fc (1,x2.2.1,x2.p2,x2.q4)) λy5=>(bB (((x2.p4==y5.p3)&&ai)&&aC (al x2.q5) (al y5.q4)&&ai) (obind (ji (z4,y5.1)) λy6=>(af (d_ y6,y5.2)))))) (bd y1.1 4 (obind (bz (2,x2.p2)) λy7=>(kz (.str) ([[97],[98]]) y7.1 λz8=>(obind (fc (1,x2.2.1,y7.2,x2.q4)) λy9=>(bB (((x2.p4==y9.p3)&&ai)&&aC (al x2.q5) (al y9.q4)&&ai) (obind (ji (z8,y9.1)) λy10=>(af (d_ y10,y9.2))))))) (bd y1.1 5 (obind (fc (0,x2.2.1,x2.p2,x2.q4)) λy11=>(bB (((x2.p4==y11.p3)&&ai)&&aC (al x2.q5) (al y11.q4)&&ai) (obind (fc (1,y11.2)) λy12=>(bB (((y11.p3==y12.p3)&&ai)&&aC (al y11.q4) (al y12.q4)&&ai) (af (nJ (1,0,[113],[],[dZ ((Xp.op y11.1),(Xp.n y11.1),(Xp.name y11.1),(Xp.l y11.1))],dZ ((Xp.op y12.1),(Xp.n y12.1),(Xp.name y12.1),(Xp.l y12.1)),([]:List Sx),([]:List Sx)),y12.2)))))) (jn (α:=Bool×yJ×fD×Hg×Bool×List (List UInt8)) (bd y1.1 6 (aE ((fO 0 x.1),x2.2)) (aE (aj,x2.2))) λx13=>(bcase x13.1 (obind (fc (1,x13.2.1,x13.p2,x13.q4)) λU=>(bB (((x13.p4==U.p3)&&ai)&&aC (al x13.q5) (al U.q4)&&ai) (obind (rmade_maker_stmts (((bk .i64 (x.1-1)),1),U.2)) λy15=>(bB (((U.p3==U.p3)&&ai)&&aC (al U.q4) (al U.q4)&&ai) (jn (α:=yJ×fD×Hg×(Int×Int×(List UInt8)×(List UInt8)×Int×Int×(List UInt8)×List Xp)×SE×(List Sx)×List Sx) (obind (bz (2,y15.2.1)) λy17=>(bd y17.1 1 (obind (rmade_maker_stmts (((bk .i64 (x.1-1)),1),y15.1,y17.2,y15.p2)) λy18=>(bB (((y15.p2.1==y15.p2.1)&&ai)&&aC (al y15.p2.2) (al y15.p2.2)&&ai) (aE (y18.1,y18.2.1,x13.p3,(2,0,[],[],(Xp.op U.1),(Xp.n U.1),(Xp.name U.1),(Xp.l U.1)),y18.p2,y15.q3,y18.q3)))) (aE (y15.1,y17.2,x13.p3,(2,0,[],[],(Xp.op U.1),(Xp.n U.1),(Xp.name U.1),(Xp.l U.1)),y15.p2,y15.q3,([]:List Sx))))) λx16=>(af (nJ (x16.p3.1,x16.p3.2.1,x16.p3.p2,x16.p3.p3,([]:List Xp),dZ x16.p3.q4,x16.q5),x16.1,x16.2.1,x16.p4))))))) (jn (α:=Bool×yJ×fD×Hg×Bool×List (List UInt8)) (bd y1.1 7 (aE ((fO 0 x.1),x13.2)) (aE (aj,x13.2))) λI=>(bcase I.1 (obind (pj ([98])) λy20=>(obind (ry 2) λy21=>(obind (nI (13,y20,y21)) λy22=>(obind (rmade_maker_stmts (((bk .i64 (x.1-1)),1),(I.2.1.1,I.2.1.2.1,I.2.1.p2,I.2.1.p3,I.2.1.p4,ai),I.p2,I.q4)) λy23=>(bB (((I.p4==I.p4)&&ai)&&aC (al I.q5) (al I.q5)&&ai) (obind (pj ([98])) λy24=>(obind (ry 1) λy25=>(obind (nI (6,y24,y25)) λy26=>(obind (ji ([98],y26)) λy27=>(bB (a_ (al y23.q3+al ([d_ y27])) 176) (af (nJ (3,0,[],[],([]:List Xp),dZ ((Xp.op y22),(Xp.n y22),(Xp.name y22),(Xp.l y22)),(y23.q3++([d_ y27])),([]:List Sx)),(y23.1.1,y23.1.2.1,y23.1.p2,y23.1.p3,y23.1.p4,I.2.1.q5),y23.2.1,y23.p2)))))))))))) (jn (α:=Bool×yJ×fD×Hg×Bool×List (List UInt8)) (bd y1.1 8 (bcase x2.1 (kz (.str) ([[109],[110]]) (bk .i64 (y1.1-8)) λz29=>(obind (eL (z29,I.2.1,I.p2,I.q4)) λy30=>(bB (((I.p4==y30.p3)&&ai)&&aC (al I.q5) (al y30.q4)&&ai) (aE ((!y30.1),y30.2.1,y30.p2,I.p3,y30.q3))))) (aE (aj,I.2))) (bd y1.1 9 (bcase x2.1 (kz (.str) ([[109],[110]]) (bk .i64 (y1.1-8)) λz31=>(obind (eL (z31,I.2.1,I.p2,I.q4)) λy32=>(bB (((I.p4==y32.p3)&&ai)&&aC (al I.q5) (al y32.q4)&&ai) (aE ((!y32.1),y32.2.1,y32.p2,I.p3,y32.q3))))) (aE (aj,I.2))) (aE (aj,I.2)))) λJ=>(bcase J.1 (kz (.str) ([[109],[110]]) (bk .i64 (y1.1-8)) λz33=>(obind (rmade_maker_block ((z33,(bk .i64 (x.1-1))),J.2.1,J.p2,J.q4)) λy34=>(bB (((J.p4==J.p4)&&ai)&&aC (al J.q5) (al J.q5)&&ai) (af (nJ (4,0,z33,[],([]:List Xp),dZ (0,0,[],([]:List Xp)),y34.1,([]:List Sx)),y34.2))))) (jn (α:=Bool×yJ×fD×Hg×Bool×List (List UInt8)) (bd y1.1 10 (bcase x2.1 (obind (eL ([114],J.2.1,J.p2,J.q4)) λy36=>(bB (((J.p4==y36.p3)&&ai)&&aC (al J.q5) (al y36.q4)&&ai) (aE ((!y36.1),y36.2.1,y36.p2,J.p3,y36.q3)))) (aE (aj,J.2))) (bd y1.1 11 (bcase x2.1 (obind (eL ([114],J.2.1,J.p2,J.q4)) λy37=>(bB (((J.p4==y37.p3)&&ai)&&aC (al J.q5) (al y37.q4)&&ai) (aE ((!y37.1),y37.2.1,y37.p2,J.p3,y37.q3)))) (aE (aj,J.2))) (aE (aj,J.2)))) λx35=>(bcase x35.1 (obind (rmade_maker_block (([114],(bk .i64 (x.1-1))),x35.2.1,x35.p2,x35.q4)) λy38=>(bB (((x35.p4==x35.p4)&&ai)&&aC (al x35.q5) (al x35.q5)&&ai) (af (nJ ((bk .i64 ((bk .i64 (y1.1-10))+5)),0,[114],[],([]:List Xp),dZ (0,0,[],([]:List Xp)),y38.1,([]:List Sx)),y38.2)))) (jn (α:=Bool×yJ×fD×Hg×Bool×List (List UInt8)) (bd y1.1 12 (aE (x2.1,x35.2)) (aE (aj,x35.2))) λY=>(bcase Y.1 (obind (bz (2,Y.p2)) λy40=>(obind (rmade_maker_stmts ((0,(bk .i64 (1+y40.1))),(Y.2.1.1,Y.2.1.2.1,Y.2.1.p2,ai,Y.2.1.q4),y40.2,Y.q4)) λy41=>(bB (((Y.p4==Y.p4)&&ai)&&aC (al Y.q5) (al Y.q5)&&ai) (af (nJ (7,0,[],[],([]:List Xp),dZ (0,0,[],([]:List Xp)),y41.q3,([]:List Sx)),(y41.1.1,y41.1.2.1,y41.1.p2,aj,y41.1.q4),y41.2.1,y41.p2))))) (jn (α:=Bool×yJ×fD×Hg×Bool×List (List UInt8)) (bd y1.1 13 (bcase x2.1 (aE ((!Y.2.1.p4),Y.2)) (aE (aj,Y.2))) (aE (aj,Y.2))) λM=>(bcase M.1 (obind (rmade_maker_stmts (((bk .i64 (x.1-1)),2),(M.2.1.1,M.2.1.2.1,M.2.1.p2,M.2.1.p3,ai,M.2.1.q5),M.p2,M.q4)) λy43=>(bB (((M.p4==M.p4)&&ai)&&aC (al M.q5) (al M.q5)&&ai) (af (nJ (8,0,[],[],([]:List Xp),dZ (0,0,[],([]:List Xp)),y43.q3,([]:List Sx)),(y43.1.1,y43.1.2.1,y43.1.p2,y43.1.p3,aj,y43.1.q5),y43.2.1,y43.p2)))) (jn (α:=Bool×yJ×fD×Hg×Bool×List (List UInt8)) (bd y1.1 14 (bcase x2.1 (bcase (!M.2.1.p4) (obind (eL ([109],M.2.1,M.p2,M.q4)) λy45=>(bB (((M.p4==y45.p3)&&ai)&&aC (al M.q5) (al y45.q4)&&ai) (aE ((!y45.1),y45.2.1,y45.p2,M.p3,y45.q3)))) (aE (aj,M.2))) (aE (aj,M.2))) (aE (aj,M.2))) λx44=>(bcase x44.1 (obind (pj ([120])) λy46=>(obind (ji ([97],y46)) λy47=>(af (nJ (4,0,[109],[],([]:List Xp),dZ (0,0,[],([]:List Xp)),[nJ (9,0,[99],[],([]:List Xp),dZ (0,0,[],([]:List Xp)),([]:List Sx),([]:List Sx)),d_ y47],([]:List Sx)),x44.2.1,x44.p2,x44.q4)))) (jn (α:=Bool×yJ×fD×Hg×Bool×List (List UInt8)) (bd y1.1 15 (bcase x2.1 (obind (eL ([109],x44.2.1,x44.p2,x44.q4)) λy49=>(bB (((x44.p4==y49.p3)&&ai)&&aC (al x44.q5) (al y49.q4)&&ai) (aE ((!y49.1),y49.2.1,y49.p2,x44.p3,y49.q3)))) (aE (aj,x44.2))) (aE (aj,x44.2))) λx48=>(bcase x48.1 (obind (bz (2,x48.p2)) λy50=>(af (nJ (4,0,[109],[],([]:List Xp),dZ (0,0,[],([]:List Xp)),[nJ ((bk .i64 (10+y50.1)),0,[99],[],([]:List Xp),dZ (0,0,[],([]:List Xp)),([]:List Sx),([]:List Sx))],([]:List Sx)),x48.2.1,y50.2,x48.q4))) (jn (α:=Bool×yJ×fD×Hg×Bool×List (List UInt8)) (bd y1.1 16 (bcase (!x48.2.1.p3) (bcase (!x48.2.1.q5) (aE ((!x48.2.1.p2),x48.2)) (aE (aj,x48.2))) (aE (aj,x48.2))) (aE (aj,x48.2))) λZ=>(bcase Z.1 (obind (fc (1,(Z.2.1.1,Z.2.1.2.1,ai,Z.2.1.q3),Z.p2,Z.q4)) λy52=>(bB (((Z.p4==y52.p3)&&ai)&&aC (al Z.q5) (al y52.q4)&&ai) (af (nJ (14,0,[102],[],([]:List Xp),dZ ((Xp.op y52.1),(Xp.n y52.1),(Xp.name y52.1),(Xp.l y52.1)),([]:List Sx),([]:List Sx)),y52.2)))) (jn (α:=Bool×yJ×fD×Hg×Bool×List (List UInt8)) (bd y1.1 17 (bcase (!Z.2.1.p3) (obind (bz (2,Z.p2)) λy54=>(aE ((decide ((y54.1:Int)=1)),Z.2.1,y54.2,Z.q3))) (aE (aj,Z.2))) (aE (aj,Z.2))) λx53=>(bcase x53.1 (af (nJ (15,0,[97],[102],([]:List Xp),dZ (0,0,[],([]:List Xp)),([]:List Sx),([]:List Sx)),x53.2.1,x53.p2,x53.q4)) (obind (fc (1,x53.2.1,x53.p2,x53.q4)) λy55=>(bB (((x53.p4==y55.p3)&&ai)&&aC (al x53.q5) (al y55.q4)&&ai) (obind (ji ([120],y55.1)) λy56=>(af (d_ y56,y55.2))))))))))))))))))))))))))))))
def my (rmade_maker_stmts:afn->Option YZ) (rmade_maker_stmt:Y0->Option acd) (rmade_maker_block:afm->Option ace) (x:fm×yJ×fD×Bool×List (List UInt8)):Option ace:=
 (bB (a_ (al x.q4+al ([x.1.1])) 16) (obind (bz (2,x.p2)) λJ=>(obind (rmade_maker_stmts ((x.1.2,(bk .i64 (1+J.1))),x.2.1,J.2,x.p3,(x.q4++([x.1.1])))) λI=>(bB (((x.p3==x.p3)&&ai)&&aC (al (x.q4++([x.1.1]))) (al (x.q4++([x.1.1])))&&ai) (bB (c7 0 (bk .i64 ((aX I.p2.2)-1))&&fO (bk .i64 ((aX I.p2.2)-1)) (al I.p2.2)) (af (I.q3,I.1,I.2.1,aj,(dO (aT (bk .i64 ((aX I.p2.2)-1))) I.p2.2))))))))
mutual
def dI:Nat->afn->Option YZ
 |0,_=>ah
 |n+1,x=>mw (dI n) (eD n) (dW n) x
def eD:Nat->Y0->Option acd
 |0,_=>ah
 |n+1,x=>nO (dI n) (eD n) (dW n) x
def dW:Nat->afm->Option ace
 |0,_=>ah
 |n+1,x=>my (dI n) (eD n) (dW n) x
end
def ql (x:(Int×Int)×yJ×fD×Bool×List (List UInt8)):Option YZ:=dI fuel x
def oF (x:List Int):Option (rY×List rX):=
 (obind (sd ()) λy1=>(obind (bz (3,x,0)) λy2=>(iter (σ:=Int×yJ×rY×ca×fD×SE×List rX) (λM=>(bx M.1 (bk .i64 (2+y2.1)) (kz (.str) M.p3 M.1 λz4=>(jn (α:=yJ×rY×ca×fm×fD×SE×(List rX)×ca×List Sx) (bd M.1 0 (iter (σ:=Int×yJ×rY×ca×fm×fD×SE×(List rX)×ca×List Sx) (λY=>(bx Y.1 (bk .i64 (2+y2.1)) (kz (.str) Y.p3 Y.1 λz7=>(bB (a_ (al Y.q9+al ([nJ (12,0,z7,[],([]:List Xp),dZ (0,0,[],([]:List Xp)),([]:List Sx),([]:List Sx))])) 176) (cL ((cC Y.1),Y.2.1,Y.p2,Y.p3,Y.p4,Y.p5,Y.p6,Y.p7,Y.p8,(Y.q9++([nJ (12,0,z7,[],([]:List Xp),dZ (0,0,[],([]:List Xp)),([]:List Sx),([]:List Sx))])))))) (aE (bQ Y.2)))) (1,(M.1,M.2.1.2),M.p2,M.p3,(z4,0),M.p4,M.p5,M.q6,[[97],[98]],([]:List Sx))) (aE ((M.1,M.2.1.2),M.p2,M.p3,(z4,0),M.p4,M.p5,M.q6,[[97],[98]],([]:List Sx)))) λU=>(obind (bz (3,U.p4)) λy8=>(obind (ql ((2,(bk .i64 (1+y8.1))),U.1,y8.2,U.p5)) λZ=>(bB (((U.p5.1==U.p5.1)&&ai)&&aC (al U.p5.2) (al U.p5.2)&&ai) (bB (a_ (al U.q8+al Z.q3) 176) (jn (α:=yJ×rY×ca×fm×fD×SE×(List rX)×ca×List Sx) (jn (α:=Bool×yJ×rY×ca×fm×fD×SE×(List rX)×ca×List Sx) (bd M.1 0 (obind (bz (3,Z.2.1)) λy12=>(aE ((decide ((y12.1:Int)=2)),Z.1,U.2.1,U.p2,U.p3,y12.2,Z.p2,U.p6,U.p7,(U.q8++Z.q3)))) (aE (aj,Z.1,U.2.1,U.p2,U.p3,Z.2.1,Z.p2,U.p6,U.p7,(U.q8++Z.q3)))) λI=>(bcase I.1 (kz (.str) I.p3 1 λz13=>(bB (a_ (al I.q9+al ([nJ (13,0,z13,[],([]:List Xp),dZ (0,0,[],([]:List Xp)),([]:List Sx),([]:List Sx))])) 176) (aE (I.2.1,I.p2,I.p3,I.p4,I.p5,I.p6,I.p7,I.p8,(I.q9++([nJ (13,0,z13,[],([]:List Xp),dZ (0,0,[],([]:List Xp)),([]:List Sx),([]:List Sx))])))))) (aE I.2))) λJ=>(bB (a_ (al J.p6+al ([(J.p3.1,J.p3.2,J.q7)])) 72) (cL ((cC M.1),J.1,J.2.1,J.p2,J.p4,J.p5,(J.p6++([(J.p3.1,J.p3.2,J.q7)])))))))))))) (obind (obind (fk (M.p2,M.q6)) λy14=>(jd y14.1 0 (obind (sd ()) λy15=>(obind (ry 1) λy16=>(obind (ji ([120],y16)) λy17=>(af (y15,[([109,97,105,110],0,[[97],[98]],[d_ y17])]))))) (af (M.p2,M.q6)))) λr=>af (bQ r)))) (0,(0,20,aj,aj,aj,aj),y1,[[109,97,105,110],[116,49],[116,50],[116,51]],y2.2,(ai,([]:List (List UInt8))),([]:List rX)))))
def xr (x:List Int):Option zP:=
 (obind (oF x) λJ=>(obind (qj J) λI=>(af I.1)))
def sg (x:(List Int)×List Int):Option (dD×List gw):=
 (obind (xr x.1) λM=>(obind (oG x.2) λJ=>(obind (yU (M,J)) λI=>(af I.1))))
def nB (x:Unit):Option dD:=
 (iter (σ:=Int×gK×gu×(List fm)×ca×ca×List (Int×Int×Int)) (λJ=>(bx J.1 (aO (al ([[109,97,105,110],[116,49],[116,50],[116,51]]))) (iter (σ:=Int×gK×gu×(List fm)×ca×ca×List (Int×Int×Int)) (λI=>(bx I.1 6 (bB (a_ (al I.q6+al ([(J.1,I.1,(bk .i64 ((bk .i64 ((bk .i64 (10*J.1))+I.1))+1)))])) 24) (cL ((cC I.1),I.2.1,I.p2,I.p3,I.p4,I.p5,(I.q6++([(J.1,I.1,(bk .i64 ((bk .i64 ((bk .i64 (10*J.1))+I.1))+1)))]))))) (aE (mm ((cC J.1),I.2))))) (0,J.2)) (aE J.2))) (0,[([120],0,0,aj,0),([121],0,0,aj,1),([118],0,0,ai,0),([113],0,2,aj,0),([113],1,2,aj,0)],[([109],aj),([110],aj),([114],ai)],[([99],0)],[[102]],[[109,97,105,110],[116,49],[116,50],[116,51]],([]:List (Int×Int×Int))))
def kS (x:oZ×(List Int)×(List Int)×List Int):Option (List Int):=
 (iter (σ:=Int×List Int) (λI=>(bx I.1 (aX x.1.q3) (jn (α:=List Int) (bD hY x.1.q3 I.1 λJ=>(bd J.1 3 (bB (a_ (al I.2+al ([I.1])) 8) (aE (I.2++([I.1])))) (aE I.2))) λM=>(cL ((cC I.1),M))) (aE I.2))) (0,([]:List Int)))
def tm (x:Unit):Option (List Int):=
 (af ([3,3,3,3,3,4,4,4,4,4,5,5,5,6,6,6,7,7,7,8,9,10,11,12,13,14,14,15,16,16,17,17,18,18,19,20,1,1,2,21,22,23,23]))
def oz (x:(Int×Int)×(List Int)×Int):Option (Int×(List Int)×Int):=
 (jn (α:=Bool×(List Int)×Int) (bd x.1.1 3 (aE ((decide ((x.1.1:Int)=3)),x.2)) (aE ((decide ((x.1.1:Int)=4)),x.2))) λU=>(bcase U.1 (obind (bz (8,U.2)) λy2=>(kz aM ([0,0,0,1,1,2,3,4]) y2.1 λz3=>(af (z3,y2.2)))) (jn (α:=Bool×(List Int)×Int) (bd x.1.1 6 (aE ((decide ((x.1.1:Int)=6)),U.2)) (aE ((decide ((x.1.1:Int)=7)),U.2))) λJ=>(bcase J.1 (obind (bz (2,J.2)) λy5=>(af y5)) (jn (α:=Bool×(List Int)×Int) (bd x.1.1 8 (aE ((decide ((x.1.1:Int)=8)),J.2)) (bd x.1.1 9 (aE ((decide ((x.1.1:Int)=9)),J.2)) (bd x.1.1 10 (aE ((decide ((x.1.1:Int)=10)),J.2)) (aE ((decide ((x.1.1:Int)=11)),J.2))))) λI=>(bcase I.1 (af (2,I.2)) (jn (α:=Bool×(List Int)×Int) (bd x.1.1 16 (aE ((decide ((x.1.1:Int)=16)),I.2)) (bd x.1.1 17 (aE ((decide ((x.1.1:Int)=17)),I.2)) (bd x.1.1 18 (aE ((decide ((x.1.1:Int)=18)),I.2)) (bd x.1.1 19 (aE ((decide ((x.1.1:Int)=19)),I.2)) (bd x.1.1 22 (aE ((decide ((x.1.1:Int)=22)),I.2)) (aE ((decide ((x.1.1:Int)=23)),I.2))))))) λM=>(bcase M.1 (af (0,M.2)) (jn (α:=Bool×(List Int)×Int) (bd x.1.1 20 (aE ((decide ((x.1.1:Int)=20)),M.2)) (aE ((decide ((x.1.1:Int)=21)),M.2))) λY=>(bcase Y.1 (obind (bz (3,Y.2)) λZ=>(af ((zY (bk .i64 ((cC x.1.2)+Z.1)) 4),Z.2))) (af ((-1),Y.2))))))))))))
def qd (x:(eE×Int×Int)×(List Int)×Int):Option (Int×(List Int)×Int):=
 (bd x.1.2.1 3 (bD aM x.1.1.2.1 x.1.2.2 λZ=>(af (Z,x.2))) (bd x.1.2.1 23 (bD aM x.1.1.p2 0 λY=>(af (Y,x.2))) (jn (α:=Bool×fD×oZ×(List Int)×(List Int)×List Int) (bd x.1.2.1 4 (aE ((decide ((x.1.2.1:Int)=4)),x.2,x.1.1)) (aE ((decide ((x.1.2.1:Int)=22)),x.2,x.1.1))) λI=>(bcase I.1 (obind (bz (3,I.2.1)) λy4=>(af y4)) (bd x.1.2.1 5 (obind (bz (2,I.2.1)) λy5=>(af y5)) (bd x.1.2.1 18 (obind (kS I.2.2) λJ=>(bx 0 (aX J) (obind (bz ((aX J),I.2.1)) λM=>(bD aM J M.1 λU=>(af (U,M.2)))) (af ((-1),I.2.1)))) (bd x.1.2.1 19 (obind (kS I.2.2) λy9=>(af ((aX y9),I.2.1))) (af (0,I.2.1)))))))))
def gA (x:fD×List Int):Option ((List Int)×fD×List Int):=
 (iter (σ:=Int×fD×(List Int)×List Int) (λI=>(bx I.1 (aX x.2) (jn (α:=fD×(List Int)×List Int) (kz aM I.p2 I.1 λM=>(jn (α:=Bool×fD×(List Int)×List Int) (iR (aX I.p2) (bk .i64 (I.1+3)) (obind (bz (2,I.2.1)) λU=>(aE ((decide ((U.1:Int)=1)),U.2,I.2.2))) (aE (aj,I.2))) λJ=>(bcase J.1 (bB (a_ (al J.q3+al ([M])) 8) (aE (J.2.1,J.p2,(J.q3++([M]))))) (aE J.2)))) λY=>(cL ((cC I.1),Y))) (aE (I.q3,I.2.1,I.p2)))) (0,x.1,x.2,([]:List Int)))
def qe (x:(eE×gK×gu×(List fm)×ca×ca×List (Int×Int×Int))×fD×(List Int)×(List Int)×(List Int)×List Int):Option (gw×fD×(List Int)×(List Int)×(List Int)×List Int):=
 (obind (bz (4,x.2.1)) λU=>(obind (tm ()) λy2=>(obind (bz ((aX y2),U.2)) λy3=>(bD aM y2 y3.1 λz4=>(obind (bz (6,y3.2)) λy5=>(jn (α:=fD×(List Int)×(List Int)×(List Int)×(List Int)×eE×dD×vR×Int×Int×Int×Int×Int) (jn (α:=Bool×fD×(List Int)×(List Int)×(List Int)×(List Int)×eE×dD×vR×Int×Int×Int×Int×Int) (bd z4 1 (aE (ai,y5.2,x.p2,x.p3,x.p4,x.q5,x.1.1,x.1.2,(0,0,0,0,0),U.1,z4,0,0,(bk .i64 ((bk .i64 (U.1*6))+y5.1)))) (aE ((decide ((z4:Int)=2)),y5.2,x.p2,x.p3,x.p4,x.q5,x.1.1,x.1.2,(0,0,0,0,0),U.1,z4,0,0,(bk .i64 ((bk .i64 (U.1*6))+y5.1))))) λY=>(bcase Y.1 (aE (Y.2.1,Y.p2,Y.p3,Y.p4,Y.p5,Y.p6,Y.p7,Y.p8,Y.p9,Y.p10,Y.p11,Y.p12,(-1))) (aE Y.2))) λM=>(obind (oz ((M.p9,U.1),M.1)) λy8=>(obind (qd ((M.p5,M.p9,y8.1),y8.2)) λy9=>(jn (α:=fD×(List Int)×(List Int)×(List Int)×(List Int)×vR×Int×Int×Int×Int×Int×List Int) (jn (α:=Bool×fD×(List Int)×(List Int)×(List Int)×(List Int)×vR×Int×Int×Int×Int×Int) (bd M.p9 5 (aE (ai,y9.2,M.2.1,M.p2,M.p3,M.p4,M.p7,M.p8,M.p9,y8.1,y9.1,M.q12)) (bd M.p9 3 (bD kw M.p6.1 y8.1 λz12=>(aE ((fO 0 z12.2.2.1),y9.2,M.2.1,M.p2,M.p3,M.p4,M.p7,M.p8,M.p9,y8.1,y9.1,M.q12))) (bd M.p9 4 (bD kw M.p6.1 y8.1 λz13=>(aE ((fO 0 z13.2.2.1),y9.2,M.2.1,M.p2,M.p3,M.p4,M.p7,M.p8,M.p9,y8.1,y9.1,M.q12))) (aE (aj,y9.2,M.2.1,M.p2,M.p3,M.p4,M.p7,M.p8,M.p9,y8.1,y9.1,M.q12))))) λJ=>(bcase J.1 (bd U.1 0 (obind (gA (J.2.1,J.p2)) λy14=>(bB (aC (al J.p2) (al y14.2.2)&&ai) (aE (y14.2.1,y14.2.2,J.p3,J.p4,J.p5,J.p6,J.p7,J.p8,J.p9,J.p10,J.q11,y14.1)))) (bd U.1 1 (obind (gA (J.2.1,J.p3)) λy15=>(bB (aC (al J.p3) (al y15.2.2)&&ai) (aE (y15.2.1,J.p2,y15.2.2,J.p4,J.p5,J.p6,J.p7,J.p8,J.p9,J.p10,J.q11,y15.1)))) (bd U.1 2 (obind (gA (J.2.1,J.p4)) λy16=>(bB (aC (al J.p4) (al y16.2.2)&&ai) (aE (y16.2.1,J.p2,J.p3,y16.2.2,J.p5,J.p6,J.p7,J.p8,J.p9,J.p10,J.q11,y16.1)))) (bd U.1 3 (obind (gA (J.2.1,J.p5)) λy17=>(bB (aC (al J.p5) (al y17.2.2)&&ai) (aE (y17.2.1,J.p2,J.p3,J.p4,y17.2.2,J.p6,J.p7,J.p8,J.p9,J.p10,J.q11,y17.1)))) ah)))) (aE (J.2.1,J.p2,J.p3,J.p4,J.p5,J.p6,J.p7,J.p8,J.p9,J.p10,J.q11,([]:List Int))))) λx10=>(jn (α:=fD×(List Int)×(List Int)×(List Int)×(List Int)×vR×Int×Int×Int×Int×Int×(List Int)×List Int) (jn (α:=Bool×fD×(List Int)×(List Int)×(List Int)×(List Int)×vR×Int×Int×Int×Int×Int×List Int) (bd x10.p7 4 (aE (ai,x10)) (aE ((decide ((x10.p7:Int)=22)),x10))) λI=>(bcase I.1 (bd U.1 0 (obind (gA (I.2.1,I.p2)) λy20=>(bB (aC (al I.p2) (al y20.2.2)&&ai) (aE (y20.2.1,y20.2.2,I.p3,I.p4,I.p5,I.p6,I.p7,I.p8,I.p9,I.p10,I.p11,I.q12,y20.1)))) (bd U.1 1 (obind (gA (I.2.1,I.p3)) λy21=>(bB (aC (al I.p3) (al y21.2.2)&&ai) (aE (y21.2.1,I.p2,y21.2.2,I.p4,I.p5,I.p6,I.p7,I.p8,I.p9,I.p10,I.p11,I.q12,y21.1)))) (bd U.1 2 (obind (gA (I.2.1,I.p4)) λy22=>(bB (aC (al I.p4) (al y22.2.2)&&ai) (aE (y22.2.1,I.p2,I.p3,y22.2.2,I.p5,I.p6,I.p7,I.p8,I.p9,I.p10,I.p11,I.q12,y22.1)))) (bd U.1 3 (obind (gA (I.2.1,I.p5)) λy23=>(bB (aC (al I.p5) (al y23.2.2)&&ai) (aE (y23.2.1,I.p2,I.p3,I.p4,y23.2.2,I.p6,I.p7,I.p8,I.p9,I.p10,I.p11,I.q12,y23.1)))) ah)))) (aE (I.2.1,I.p2,I.p3,I.p4,I.p5,I.p6,I.p7,I.p8,I.p9,I.p10,I.p11,I.q12,([]:List Int))))) λZ=>(af (Z.q6,Z.1,Z.2.1,Z.p2,Z.p3,Z.p4))))))))))))
def r7 (x:(eE×dD×Int×Bool)×(List Int)×Int):Option ((List gw)×(List Int)×Int):=
 (bB (c7 0 (aX x.1.2.1.p4)&&c7 (aX x.1.2.1.p4) (aX x.1.2.1.p4)&&a_ (aT (aX x.1.2.1.p4)) 24&&decide (((aX x.1.2.1.p4):Int)=4)) (jn (α:=fD×eE×dD×(List Int)×(List Int)×(List Int)×List Int) (bx 0 (aO 4) (jn (α:=fD×eE×dD×(List Int)×(List Int)×(List Int)×List Int) (jn (α:=Bool×fD×eE×dD×(List Int)×(List Int)×(List Int)×List Int) (bcase x.1.q3 (bD aM x.1.1.q3 0 λz4=>(bx 1 z4 (obind (bz (3,x.2)) λy5=>(aE ((decide ((y5.1:Int)=2)),y5.2,x.1.1,x.1.2.1,([]:List Int),([]:List Int),([]:List Int),([]:List Int)))) (aE (aj,x.2,x.1.1,x.1.2.1,([]:List Int),([]:List Int),([]:List Int),([]:List Int))))) (aE (aj,x.2,x.1.1,x.1.2.1,([]:List Int),([]:List Int),([]:List Int),([]:List Int)))) λx3=>(bcase x3.1 (bB (a_ (al x3.p4+al ([1])) 8) (aE (x3.2.1,x3.p2,x3.p3,(x3.p4++([1])),x3.q5))) (aE x3.2))) λx2=>(bx 1 (aO 4) (jn (α:=fD×eE×dD×(List Int)×(List Int)×(List Int)×List Int) (jn (α:=Bool×fD×eE×dD×(List Int)×(List Int)×(List Int)×List Int) (bcase x.1.q3 (bD aM x2.2.1.q3 1 λz8=>(bx 1 z8 (obind (bz (3,x2.1)) λy9=>(aE ((decide ((y9.1:Int)=2)),y9.2,x2.2))) (aE (aj,x2)))) (aE (aj,x2))) λx7=>(bcase x7.1 (bB (a_ (al x7.p5+al ([1])) 8) (aE (x7.2.1,x7.p2,x7.p3,x7.p4,(x7.p5++([1])),x7.q6))) (aE x7.2))) λx6=>(bx 2 (aO 4) (jn (α:=fD×eE×dD×(List Int)×(List Int)×(List Int)×List Int) (jn (α:=Bool×fD×eE×dD×(List Int)×(List Int)×(List Int)×List Int) (bcase x.1.q3 (bD aM x6.2.1.q3 2 λz12=>(bx 1 z12 (obind (bz (3,x6.1)) λy13=>(aE ((decide ((y13.1:Int)=2)),y13.2,x6.2))) (aE (aj,x6)))) (aE (aj,x6))) λY=>(bcase Y.1 (bB (a_ (al Y.p6+al ([1])) 8) (aE (Y.2.1,Y.p2,Y.p3,Y.p4,Y.p5,(Y.p6++([1])),Y.q7))) (aE Y.2))) λx10=>(bx 3 (aO 4) (jn (α:=fD×eE×dD×(List Int)×(List Int)×(List Int)×List Int) (jn (α:=Bool×fD×eE×dD×(List Int)×(List Int)×(List Int)×List Int) (bcase x.1.q3 (bD aM x10.2.1.q3 3 λz16=>(bx 1 z16 (obind (bz (3,x10.1)) λy17=>(aE ((decide ((y17.1:Int)=2)),y17.2,x10.2))) (aE (aj,x10)))) (aE (aj,x10))) λU=>(bcase U.1 (bB (a_ (al U.q7+al ([1])) 8) (aE (U.2.1,U.p2,U.p3,U.p4,U.p5,U.p6,(U.q7++([1]))))) (aE U.2))) λx14=>(bx 4 (aO 4) (jn (α:=fD×eE×dD×(List Int)×(List Int)×(List Int)×List Int) (jn (α:=Bool×fD×eE×dD×(List Int)×(List Int)×(List Int)×List Int) (bcase x.1.q3 (bD aM x14.2.1.q3 4 λz20=>(bx 1 z20 (obind (bz (3,x14.1)) λy21=>(aE ((decide ((y21.1:Int)=2)),y21.2,x14.2))) (aE (aj,x14)))) (aE (aj,x14))) λx19=>(bcase x19.1 ah (aE x19.2))) λx18=>ah) (aE x14))) (aE x10))) (aE x6))) (aE x2))) (aE (x.2,x.1.1,x.1.2.1,([]:List Int),([]:List Int),([]:List Int),([]:List Int)))) λx1=>(iter (σ:=fD×eE×dD×(List gw)×(List Int)×(List Int)×(List Int)×List Int) (λx22=>(jn (α:=Bool×fD×eE×dD×(List gw)×(List Int)×(List Int)×(List Int)×List Int) (bx (aX x22.p3) x.1.p2 (aE ((fO x22.1.2 (aX x22.1.1)),x22)) (aE (aj,x22))) λJ=>(bcase J.1 (jn (α:=fD×eE×dD×(List gw)×(List Int)×(List Int)×(List Int)×List Int) (obind (qe ((J.p2,J.p3),J.2.1,J.q5)) λM=>(bB (aC (al J.q8) (al M.q5)&&(aC (al J.p7) (al M.p4)&&(aC (al J.p6) (al M.p3)&&(aC (al J.p5) (al M.p2)&&ai)))) (obind (ri (J.p3,J.p2,M.1)) λy26=>(bcase (!y26.2) (aE (M.2.1,J.p2,J.p3,J.p4,M.2.2)) (jn (α:=fD×eE×dD×(List gw)×gw×eE×(List Int)×(List Int)×(List Int)×List Int) (jn (α:=Bool×fD×eE×dD×(List gw)×gw×eE×(List Int)×(List Int)×(List Int)×List Int) (bd M.1.2.1 3 (aE (ai,M.2.1,J.p2,J.p3,J.p4,M.1,y26.1,M.2.2)) (aE ((decide ((M.1.2.1:Int)=23)),M.2.1,J.p2,J.p3,J.p4,M.1,y26.1,M.2.2))) λI=>(bcase I.1 (bd I.p5.1 0 (bD aM I.p2.q3 0 λz29=>(bB (a_ (al I.p7+al ([z29])) 8) (aE (I.2.1,I.p2,I.p3,I.p4,(0,I.p5.2),I.p6,(I.p7++([z29])),I.q8)))) (bd I.p5.1 1 (bD aM I.p2.q3 1 λz30=>(bB (a_ (al I.p8+al ([z30])) 8) (aE (I.2.1,I.p2,I.p3,I.p4,(1,I.p5.2),I.p6,I.p7,(I.p8++([z30])),I.q9)))) (bd I.p5.1 2 (bD aM I.p2.q3 2 λz31=>(bB (a_ (al I.p9+al ([z31])) 8) (aE (I.2.1,I.p2,I.p3,I.p4,(2,I.p5.2),I.p6,I.p7,I.p8,(I.p9++([z31])),I.q10)))) (bd I.p5.1 3 (bD aM I.p2.q3 3 λz32=>(bB (a_ (al I.q10+al ([z32])) 8) (aE (I.2.1,I.p2,I.p3,I.p4,(3,I.p5.2),I.p6,I.p7,I.p8,I.p9,(I.q10++([z32])))))) ah)))) (aE I.2))) λZ=>(bB (a_ (al Z.p3+al ([Z.p4])) 88) (aE (Z.1,Z.p5,Z.p2,(Z.p3++([Z.p4])),Z.q6)))))))) λx24=>(cL x24)) (aE (J.p4,J.2.1))))) (x1.1,x1.2.1,x1.p2,([]:List gw),x1.q3))))
def qf (x:(List Int)×Int):Option (dD×List gw):=
 (jn (α:=List Int) (bx 600 (aX x.1) (bB (c7 0 600&&c7 600 (al x.1)) (aE (dO (aT 600) x.1))) (aE x.1)) λx1=>(obind (nB ()) λy2=>(obind (mI y2) λy3=>(obind (bz (3,x1,0)) λy4=>(iter (σ:=Int×fD×dD×eE×List gw) (λJ=>(iR J.1 (bk .i64 (1+y4.1)) (bB (a_ (al J.q4+al ([(0,20,J.1,0,0,([]:List Int),([]:List Int)),(J.1,1,(-1),0,(-1),([]:List Int),([]:List Int))])) 88) (cL ((cC J.1),J.2.1,J.p2,J.p3,(J.q4++([(0,20,J.1,0,0,([]:List Int),([]:List Int)),(J.1,1,(-1),0,(-1),([]:List Int),([]:List Int))]))))) (obind (iter (σ:=Int×fD×dD×eE×(List gw)×List gw) (λI=>(bx I.1 (aX J.q4) (jn (α:=fD×dD×eE×(List gw)×List gw) (kz gd I.p4 I.1 λU=>(obind (ri (I.p2,I.p3,U)) λy9=>(bcase y9.2 (bB (a_ (al I.q5+al ([U])) 88) (aE (I.2.1,I.p2,y9.1,I.p4,(I.q5++([U]))))) (aE I.2)))) λx7=>(cL ((cC I.1),x7))) (obind (obind (r7 ((I.p3,I.p2,(GW (ik x.2 0) 60),aj),I.2.1)) λM=>(bB (a_ (al I.q5+al M.1) 88) (obind (uf (I.p2,(I.q5++M.1))) λZ=>(jd Z.2 0 (obind (nB ()) λY=>(af (Y,([]:List gw)))) (af (I.p2,(I.q5++M.1))))))) λr=>af (bQ r)))) (0,J.2.1,J.p2,J.p3,J.q4,([]:List gw))) λr=>af (bQ r)))) (1,y4.2,y2,y3,[(0,1,(-1),0,(-1),([]:List Int),([]:List Int))]))))))
def kT (x:((List Int)×(List Int)×List Int)×Int):Option (dD×List gw):=
 (bx 0 (aX x.1.2.2) (obind (qf (x.1.2.2,x.2)) λJ=>(af J)) (bB (c7 0 (GW (aX x.1.2.1) x.2)&&c7 (GW (aX x.1.2.1) x.2) (al x.1.2.1)) (obind (sg (x.1.1,(dO (aT (GW (aX x.1.2.1) x.2)) x.1.2.1))) λI=>(af I))))
end
end Go.Proofs.YtkagidinekdnoaaGreatDoor.AI
