/-
  Texts of the proof, part 1 of 6: what is used to prove the statement. No condition.
-/
import Derived.WalkKit
import Derived.Lib.Hide
import Derived.Deep.QuietTactic
namespace Prod
variable {A0 A1 A2 A3 A4 A5 A6 A7 A8 A9 A10 A11 A12 A13 A14 A15 A16 A17 A18 A19 A20 A21 A22 A23 A24:Type}
abbrev p2 (x:A0×A1×A2×A3):A2:=x.2.2.1
abbrev p3 (x:A0×A1×A2×A3×A4):A3:=x.2.2.2.1
abbrev q3 (x:A0×A1×A2×A3):A3:=x.2.2.2
abbrev p4 (x:A0×A1×A2×A3×A4×A5):A4:=x.2.2.2.2.1
abbrev q4 (x:A0×A1×A2×A3×A4):A4:=x.2.2.2.2
abbrev p5 (x:A0×A1×A2×A3×A4×A5×A6):A5:=x.2.2.2.2.2.1
abbrev q5 (x:A0×A1×A2×A3×A4×A5):A5:=x.2.2.2.2.2
abbrev p6 (x:A0×A1×A2×A3×A4×A5×A6×A7):A6:=x.2.2.2.2.2.2.1
abbrev q6 (x:A0×A1×A2×A3×A4×A5×A6):A6:=x.2.2.2.2.2.2
abbrev p7 (x:A0×A1×A2×A3×A4×A5×A6×A7×A8):A7:=x.2.2.2.2.2.2.2.1
abbrev q7 (x:A0×A1×A2×A3×A4×A5×A6×A7):A7:=x.2.2.2.2.2.2.2
abbrev p8 (x:A0×A1×A2×A3×A4×A5×A6×A7×A8×A9):A8:=x.2.2.2.2.2.2.2.2.1
abbrev q8 (x:A0×A1×A2×A3×A4×A5×A6×A7×A8):A8:=x.2.2.2.2.2.2.2.2
abbrev p9 (x:A0×A1×A2×A3×A4×A5×A6×A7×A8×A9×A10):A9:=x.2.2.2.2.2.2.2.2.2.1
abbrev q9 (x:A0×A1×A2×A3×A4×A5×A6×A7×A8×A9):A9:=x.2.2.2.2.2.2.2.2.2
abbrev p10 (x:A0×A1×A2×A3×A4×A5×A6×A7×A8×A9×A10×A11):A10:=x.2.2.2.2.2.2.2.2.2.2.1
abbrev q10 (x:A0×A1×A2×A3×A4×A5×A6×A7×A8×A9×A10):A10:=x.2.2.2.2.2.2.2.2.2.2
abbrev p11 (x:A0×A1×A2×A3×A4×A5×A6×A7×A8×A9×A10×A11×A12):A11:=x.2.2.2.2.2.2.2.2.2.2.2.1
abbrev q11 (x:A0×A1×A2×A3×A4×A5×A6×A7×A8×A9×A10×A11):A11:=x.2.2.2.2.2.2.2.2.2.2.2
abbrev p12 (x:A0×A1×A2×A3×A4×A5×A6×A7×A8×A9×A10×A11×A12×A13):A12:=x.2.2.2.2.2.2.2.2.2.2.2.2.1
abbrev q12 (x:A0×A1×A2×A3×A4×A5×A6×A7×A8×A9×A10×A11×A12):A12:=x.2.2.2.2.2.2.2.2.2.2.2.2
abbrev p13 (x:A0×A1×A2×A3×A4×A5×A6×A7×A8×A9×A10×A11×A12×A13×A14):A13:=x.2.2.2.2.2.2.2.2.2.2.2.2.2.1
abbrev q13 (x:A0×A1×A2×A3×A4×A5×A6×A7×A8×A9×A10×A11×A12×A13):A13:=x.2.2.2.2.2.2.2.2.2.2.2.2.2
abbrev p14 (x:A0×A1×A2×A3×A4×A5×A6×A7×A8×A9×A10×A11×A12×A13×A14×A15):A14:=x.2.2.2.2.2.2.2.2.2.2.2.2.2.2.1
abbrev p15 (x:A0×A1×A2×A3×A4×A5×A6×A7×A8×A9×A10×A11×A12×A13×A14×A15×A16):A15:=x.2.2.2.2.2.2.2.2.2.2.2.2.2.2.2.1
abbrev p16 (x:A0×A1×A2×A3×A4×A5×A6×A7×A8×A9×A10×A11×A12×A13×A14×A15×A16×A17):A16:=x.2.2.2.2.2.2.2.2.2.2.2.2.2.2.2.2.1
abbrev q16 (x:A0×A1×A2×A3×A4×A5×A6×A7×A8×A9×A10×A11×A12×A13×A14×A15×A16):A16:=x.2.2.2.2.2.2.2.2.2.2.2.2.2.2.2.2
abbrev p17 (x:A0×A1×A2×A3×A4×A5×A6×A7×A8×A9×A10×A11×A12×A13×A14×A15×A16×A17×A18):A17:=x.2.2.2.2.2.2.2.2.2.2.2.2.2.2.2.2.2.1
abbrev q17 (x:A0×A1×A2×A3×A4×A5×A6×A7×A8×A9×A10×A11×A12×A13×A14×A15×A16×A17):A17:=x.2.2.2.2.2.2.2.2.2.2.2.2.2.2.2.2.2
abbrev p18 (x:A0×A1×A2×A3×A4×A5×A6×A7×A8×A9×A10×A11×A12×A13×A14×A15×A16×A17×A18×A19):A18:=x.2.2.2.2.2.2.2.2.2.2.2.2.2.2.2.2.2.2.1
abbrev q18 (x:A0×A1×A2×A3×A4×A5×A6×A7×A8×A9×A10×A11×A12×A13×A14×A15×A16×A17×A18):A18:=x.2.2.2.2.2.2.2.2.2.2.2.2.2.2.2.2.2.2
abbrev p19 (x:A0×A1×A2×A3×A4×A5×A6×A7×A8×A9×A10×A11×A12×A13×A14×A15×A16×A17×A18×A19×A20):A19:=x.2.2.2.2.2.2.2.2.2.2.2.2.2.2.2.2.2.2.2.1
abbrev p20 (x:A0×A1×A2×A3×A4×A5×A6×A7×A8×A9×A10×A11×A12×A13×A14×A15×A16×A17×A18×A19×A20×A21):A20:=x.2.2.2.2.2.2.2.2.2.2.2.2.2.2.2.2.2.2.2.2.1
abbrev q21 (x:A0×A1×A2×A3×A4×A5×A6×A7×A8×A9×A10×A11×A12×A13×A14×A15×A16×A17×A18×A19×A20×A21):A21:=x.2.2.2.2.2.2.2.2.2.2.2.2.2.2.2.2.2.2.2.2.2
end Prod
namespace Go.Proofs.YthehadcddfilhaaGreatDoor.AI
open Go.RowKit
set_option maxRecDepth 100000
set_option maxHeartbeats 4000000
set_option linter.unusedVariables false
set_option linter.unusedSimpArgs false
open Act renaming put→NK
open _root_.Array renaming length_toList→iy,replicate→oz
open _root_.Bool renaming true→ai,false→aj
open _root_.Int renaming ofNat→aO,toNat→aU,tmod→me
open IntKind renaming wrap→kJ
open _root_.List renaming length→al,replicate→aG,range→cS,take→dP,length_singleton→dR,getElem?_cons_zero→qV
open _root_.Nat renaming beq→aC,testBit→aN,ble→eM,blt→gp,min→iS
open Oper renaming wp→HA
open _root_.Option renaming some→af,none→ah,bind_some→aH
open Region renaming wanted→iM,binds→z_,ready→Hz
open _root_.Sum renaming inr→bP,inl→mr
open World renaming shape?→rR,cell?→NH
noncomputable section
abbrev ay:=@if_neg
abbrev aF:=@if_pos
abbrev aQ:=@decide_eq_true
abbrev be:=@decide_eq_true_eq
abbrev bn:=@of_decide_eq_true
abbrev bG:=@decide_eq_false
abbrev bH:=@if_true
abbrev cu:=@decide_false
abbrev cM:=@decide_true
abbrev cR:=@absurd
abbrev cY:=@beq_self_eq_true
abbrev c5:=@beq_iff_eq
abbrev ef:=@if_false
abbrev gi:=@or_false
abbrev gO:=@congrArg
abbrev BA:=@true_and
abbrev TK:=@of_decide_eq_false
abbrev ak:=@Option.some.injEq
abbrev av:=@Bool.and_eq_true
abbrev aw:=@Nat.eq_of_beq_eq_true
abbrev aA:=@List.getD_eq_getElem?_getD
abbrev aB:=@List.getElem?_eq_getElem
abbrev aD:=@Prod.mk.injEq
abbrev aL:=@List.mem_singleton
abbrev a8:=@Nat.le_of_ble_eq_true
abbrev ba:=@List.getElem?_map
abbrev bd:=@List.mem_of_getElem?
abbrev bl:=@List.getElem?_eq_some_iff
abbrev bm:=@List.mem_cons
abbrev bt:=@Nat.testBit_or
abbrev bu:=@List.length_append
abbrev bE:=@Nat.ble_eq_true_of_le
abbrev bI:=@List.length_take
abbrev bN:=@Nat.zero_add
abbrev bO:=@List.getElem?_append_left
abbrev bQ:=@List.mem_append
abbrev bR:=@List.length_map
abbrev bS:=@List.getElem?_eq_none
abbrev bW:=@Nat.le_refl
abbrev b9:=@Nat.lt_or_ge
abbrev b_:=@List.getElem?_append_right
abbrev cw:=@List.not_mem_nil
abbrev cz:=@Bool.false_eq_true
abbrev cC:=@List.map_append
abbrev cF:=@Array.getElem?_eq_some_iff
abbrev cH:=@Nat.mul_le_mul_right
abbrev cI:=@List.mem_cons_of_mem
abbrev cJ:=@Array.getElem?_toList
abbrev cP:=@List.take_length
abbrev cU:=@List.getElem?_take
abbrev dh:=@Nat.le_trans
abbrev di:=@List.mem_map
abbrev dj:=@List.mem_cons_self
abbrev dD:=@Nat.lt_of_lt_of_le
abbrev dE:=@List.ext_getElem
abbrev dQ:=@List.foldl_append
abbrev dS:=@Int.natCast_nonneg
abbrev eA:=@Bool.not_eq_true'
abbrev eO:=@List.length_replicate
abbrev eT:=@Int.le_refl
abbrev fc:=@List.getElem?_of_mem
abbrev fK:=@List.length_range
abbrev fM:=@List.flatMap_cons
abbrev f_:=@List.take_of_length_le
abbrev gr:=@List.map_cons
abbrev gw:=@List.all_eq_true
abbrev gH:=@Array.getD_eq_getD_getElem?
abbrev gM:=@List.length_eq_zero_iff
abbrev gY:=@List.mem_of_mem_take
abbrev gZ:=@List.getElem?_drop
abbrev ie:=@Nat.ne_of_beq_eq_false
abbrev ij:=@Array.getElem?_eq_getElem
abbrev iz:=@Nat.le_succ_of_le
abbrev iB:=@List.append_assoc
abbrev iN:=@Option.isSome_iff_exists
abbrev iR:=@Nat.succ_mul
abbrev iT:=@List.cons.injEq
abbrev iU:=@List.append_nil
abbrev iV:=@Bool.or_eq_true
abbrev jO:=@Option.map_eq_some_iff
abbrev jS:=@Option.some.inj
abbrev km:=@List.getElem?_toArray
abbrev kF:=@Nat.or_assoc
abbrev kH:=@List.map_take
abbrev kK:=@Bool.and_self
abbrev li:=@Nat.zero_le
abbrev lj:=@List.take_append_of_le_length
abbrev ll:=@List.mem_range
abbrev lm:=@List.mem_append_left
abbrev lz:=@List.getElem?_replicate
abbrev mF:=@List.length_drop
abbrev nA:=@List.getElem_range
abbrev nB:=@Bool.false_and
abbrev nE:=@List.mem_append_right
abbrev oS:=@List.take_succ_eq_append_getElem
abbrev oU:=@List.getElem?_set
abbrev oV:=@Bool.and_eq_true_iff
abbrev px:=@Nat.add_assoc
abbrev py:=@List.eq_of_mem_replicate
abbrev pB:=@Bool.true_and
abbrev pU:=@Array.getElem?_setIfInBounds_ne
abbrev p_:=@List.map_congr_left
abbrev qa:=@List.length_take_le
abbrev qU:=@List.getElem_map
abbrev rS:=@Nat.beq_refl
abbrev rT:=@List.drop_of_length_le
abbrev sM:=@Nat.min_eq_left
abbrev sO:=@List.length_set
abbrev sZ:=@List.contains_iff_mem
abbrev tm:=@List.size_toArray
abbrev uK:=@List.replicate_succ'
abbrev uY:=@List.mem_flatMap
abbrev uZ:=@List.getElem_set
abbrev u_:=@List.getElem_mem
abbrev vb:=@List.drop_append
abbrev vF:=@Classical.byContradiction
abbrev vX:=@List.getElem?_range
abbrev vY:=@List.drop_succ_cons
abbrev xi:=@Nat.not_lt_zero
abbrev xj:=@List.mem_filter
abbrev xZ:=@List.filter_append
abbrev yG:=@Nat.zero_or
abbrev Ab:=@Nat.lt_succ_of_lt
abbrev Ac:=@List.map_map
abbrev By:=@List.take_append_drop
abbrev Bz:=@List.length_filter_le
abbrev Cj:=@Nat.lt_succ_self
abbrev Ck:=@Int.not_lt
abbrev Co:=@Nat.lt_irrefl
abbrev Ea:=@List.getElem?_mapIdx
abbrev Eb:=@List.drop_append_of_le_length
abbrev Fz:=@List.sum_append
abbrev FA:=@List.range_succ
abbrev G0:=@Int.toNat_of_nonneg
abbrev HB:=@Nat.sub_self
abbrev HC:=@Nat.mul_comm
abbrev Lc:=@Nat.eq_zero_or_pos
abbrev Lf:=@Array.ext'
abbrev NI:=@Nat.lt_trichotomy
abbrev NJ:=@Nat.add_mul
inductive FV where
 |raw (v:Value)
 |sl (cells:List FV) (n:Nat)
 |ptr (cells:List FV) (off:Nat)
 |agg (cells:List FV)
inductive AV where
 |f (x:FV)
 |ptr (id off:Nat)
 |sl (id off n:Nat)
 |row (id sz n:Nat)
 |mp (id:Nat)
 |emp
 |anyb
 |agg (cells:List AV)
 |tup (vs:List AV)
 |clo (g:FuncId) (cap:List AV)
def FV.isCell:FV->Bool
 |.raw v=>v.oneCell'
 |.sl _ _=>ai
 |.ptr _ _=>ai
 |.agg _=>aj
def AV.isCell:AV->Bool
 |.f x=>x.isCell
 |.ptr _ _=>ai
 |.sl _ _ _=>ai
 |.row _ _ _=>ai
 |.mp _=>ai
 |.emp=>ai
 |.clo _ _=>ai
 |_=>aj
inductive ny (O:Nat->Prop) (w:World):FV->Value->Prop
 |raw (v:Value):ny O w (.raw v) v
 |nil (a:Option Addr) (c:Nat) (hc:c<=maxLen):ny O w (.sl [] 0) (.slice a 0 c)
 |sl (cells:List FV) (n c b off:Nat) (us:Nat->Value) (hn:n<=c) (hc:c<=maxLen) (hO:¬O b) (hb:b<w.heap.size)
   (hcl:∀ x∈cells,x.isCell=ai)
   (hu:∀ j,j<cells.length->w.cell? ⟨b,off+j,ah⟩=af (us j)) (hr:∀ (j:Nat) x,cells[j]? =af x->ny O w x (us j)):
   ny O w (.sl cells n) (.slice (af ⟨b,off,ah⟩) n c)
 |ptr (cells:List FV) (o b off:Nat) (us:Nat->Value) (hO:¬O b) (hb:b<w.heap.size)
   (hcl:∀ x∈cells,x.isCell=ai)
   (hu:∀ j,j<cells.length->w.cell? ⟨b,off+j,ah⟩=af (us j)) (hr:∀ (j:Nat) x,cells[j]? =af x->ny O w x (us j)):
   ny O w (.ptr cells o) (.pointer (af ⟨b,off+o,ah⟩))
 |agg (cells:List FV) (vs:List Value) (hl:vs.length=cells.length) (hcl:∀ x∈cells,x.isCell=ai)
   (hr:∀ (j:Nat) x v,cells[j]? =af x->vs[j]? =af v->ny O w x v):ny O w (.agg cells) (.agg vs.toArray)
abbrev PM:=Nat->Option Nat
inductive cO (φ:PM) (O:Nat->Prop) (w:World):AV->Value->Prop
 |f {x:FV} {v:Value} (h:ny O w x v):cO φ O w (.f x) v
 |ptr {id off b:Nat} (h:φ id=af b):cO φ O w (.ptr id off) (.pointer (af ⟨b,off,ah⟩))
 |sl {id off n c b:Nat} (h:φ id=af b) (hn:n<=c) (hc:c<=maxLen):cO φ O w (.sl id off n) (.slice (af ⟨b,off,ah⟩) n c)
 |row {id sz n c b:Nat} (h:φ id=af b) (hn:n<=c) (hc:c<=maxLen) (hs:∃ ty,w.shape? b=af (ty,c*sz)):
   cO φ O w (.row id sz n) (.slice (af ⟨b,0,ah⟩) n c)
 |emp {a:Option Addr}:cO φ O w .emp (.slice a 0 0)
 |anyb {b:Bool}:cO φ O w .anyb (.bool b)
 |mp {id b:Nat} (h:φ id=af b):cO φ O w (.mp id) (.map (af b))
 |agg {cells:List AV} {vs:List Value} (hl:vs.length=cells.length) (hcl:∀ x∈cells,x.isCell=ai)
   (hr:∀ (j:Nat) x v,cells[j]? =af x->vs[j]? =af v->cO φ O w x v):cO φ O w (.agg cells) (.agg vs.toArray)
 |tup {cells:List AV} {vs:List Value} (hl:vs.length=cells.length)
   (hr:∀ (j:Nat) x v,cells[j]? =af x->vs[j]? =af v->cO φ O w x v):cO φ O w (.tup cells) (.tuple vs.toArray)
 |clo {g:FuncId} {cells:List AV} {vs:List Value} (hl:vs.length=cells.length)
   (hr:∀ (j:Nat) x v,cells[j]? =af x->vs[j]? =af v->cO φ O w x v):cO φ O w (.clo g cells) (.func (.func g) #[] vs.toArray)
structure K7 (O:Nat->Prop) (w w':World):Prop where
 os:w'.os=w.os
 tape:w'.tape=w.tape
 output:w'.output=w.output
 size:w.heap.size<=w'.heap.size
 blk:∀ k,k<w.heap.size->¬O k->w'.heap[k]? =w.heap[k]?
 shp:∀ k,k<w.heap.size->w'.shape? k=w.shape? k
theorem K7.refl (O:Nat->Prop) (w:World):K7 O w w:=⟨rfl,rfl,rfl,bW _,λ_ _ _=>rfl,λ_ _=>rfl⟩
theorem DV {w w':World} {b:Nat} (h:w'.heap[b]? =w.heap[b]?) (o:Nat):w'.cell? ⟨b,o,ah⟩=w.cell? ⟨b,o,ah⟩:=by
 unfold NH;rw[h]
theorem ny.ext {O O':Nat->Prop} {w w':World} (he:K7 O w w') (J:∀ k,k<w.heap.size->O' k->O k) {x:FV} {v:Value} (h:ny O w x v):ny O' w' x v:=by
 induction h with
 |raw v=>exact .raw v
 |nil a c hc=>exact .nil a c hc
 |sl cells n c b off us hn hc hO hb hcl hu hr I=>
  exact .sl cells n c b off us hn hc (λh=>hO (J b hb h)) (dD hb he.size) hcl (λj hj=>by rw[DV (he.blk b hb hO)];exact hu j hj) I
 |ptr cells o b off us hO hb hcl hu hr I=>
  exact .ptr cells o b off us (λh=>hO (J b hb h)) (dD hb he.size) hcl (λj hj=>by rw[DV (he.blk b hb hO)];exact hu j hj) I
 |agg cells vs hl hcl hr I=>exact .agg cells vs hl hcl I
theorem cO.ext {φ φ':PM} {O O':Nat->Prop} {w w':World} (hs:∀ i k,φ i=af k->φ' i=af k) (he:K7 O w w') (J:∀ k,k<w.heap.size->O' k->O k) {x:AV} {v:Value} (h:cO φ O w x v):cO φ' O' w' x v:=by
 induction h with
 |f h=>exact .f (h.ext he J)
 |ptr h=>exact .ptr (hs _ _ h)
 |sl h hn hc=>exact .sl (hs _ _ h) hn hc
 |row h hn hc hsh=>
  obtain⟨ty,hty⟩:=hsh;refine .row (hs _ _ h) hn hc ⟨ty,?_⟩;rw[he.shp _ ?_];exact hty;unfold rR at hty;rcases b9 _ w.heap.size with hlt|hge
  .exact hlt
  .rw[Array.getElem?_eq_none hge] at hty;cases hty
 |emp=>exact .emp
 |anyb=>exact .anyb
 |mp h=>exact .mp (hs _ _ h)
 |agg hl hcl hr I=>exact .agg hl hcl I
 |tup hl hr I=>exact .tup hl I
 |clo hl hr I=>exact .clo hl I
inductive BC where
 |fz (l:List FV)
 |mx (l:List AV)
 |mp (es:List (Value×AV))
 |it (s:ByteArray) (pos:Nat)
def BC.get:BC->Nat->Option AV
 |.fz l,j=>l[j]?.map AV.f
 |.mx l,j=>l[j]?
 |_,_=>ah
def BC.len:BC->Nat
 |.fz l=>l.length
 |.mx l=>l.length
 |_=>0
def BC.isCells:BC->Bool
 |.fz _=>ai
 |.mx _=>ai
 |_=>aj
structure xh where
 ty:TypeId
 c:BC
abbrev HF:=Nat->Option xh
def own (φ:PM) (h:HF) (k:Nat):Prop:=∃ id b,h id=af b/\φ id=af k
def tot (E:Nat->Prop) (φ:PM) (h:HF) (k:Nat):Prop:=E k\/own φ h k
def vE (φ:PM) (O:Nat->Prop) (w:World) (c:BC) (arr:Array Value):Prop:=
 c.len<=arr.size/\∀ j x,c.get j=af x->x.isCell=ai/\∃ v,arr[j]? =af v/\cO φ O w x v
def jv (φ:PM) (O:Nat->Prop) (w:World) (b:xh) (o:Obj):Prop:=
 match b.c with
 |.mp es=>∃ ents clock,o= .map ents clock/\ents.toList.map (·.key)=es.map (·.1)/\∀ (j:Nat) x,es[j]? =af x->∃ m,ents[j]? =af m/\cO φ O w x.2 m.val
 |.it s p=>o= .stringIter s p
 |c=>∃ arr,o= .cells arr b.ty (0,0)/\vE φ O w c arr
def XS (φ:PM) (O:Nat->Prop) (w:World) (k:Nat) (b:xh):Prop:=∃ o,w.heap[k]? =af o/\jv φ O w b o
theorem XS.cells {φ:PM} {O:Nat->Prop} {w:World} {k:Nat} {b:xh} (h:XS φ O w k b) (hc:b.c.isCells=ai):
 ∃ arr,w.heap[k]? =af (.cells arr b.ty (0,0))/\vE φ O w b.c arr:=by
 obtain⟨o,h1,h2⟩:=h;unfold jv at h2;cases hb:b.c with
 |fz l=>rw[hb] at h2;obtain⟨arr,rfl,I⟩:=h2;exact⟨arr,h1,I⟩
 |mx l=>rw[hb] at h2;obtain⟨arr,rfl,I⟩:=h2;exact⟨arr,h1,I⟩
 |mp _=>rw[hb] at hc;cases hc
 |it _ _=>rw[hb] at hc;cases hc
theorem jv.mono {φ φ':PM} {O O':Nat->Prop} {w w':World} (hk:∀ x v,cO φ O w x v->cO φ' O' w' x v) {b:xh} {o:Obj} (h:jv φ O w b o):jv φ' O' w' b o:=by
 unfold jv at h ⊢;cases hb:b.c with
 |fz l=>rw[hb] at h;obtain⟨arr,h1,h2,J⟩:=h;exact⟨arr,h1,h2,λj x I=>by obtain⟨a,v,c,d⟩:=J j x I;exact⟨a,v,c,hk _ _ d⟩⟩
 |mx l=>rw[hb] at h;obtain⟨arr,h1,h2,J⟩:=h;exact⟨arr,h1,h2,λj x I=>by obtain⟨a,v,c,d⟩:=J j x I;exact⟨a,v,c,hk _ _ d⟩⟩
 |mp es=>rw[hb] at h;obtain⟨e,c,h1,h2,J⟩:=h;exact⟨e,c,h1,h2,λj x I=>by obtain⟨m,a,b⟩:=J j x I;exact⟨m,a,hk _ _ b⟩⟩
 |it s p=>rw[hb] at h;exact h
theorem vE.mono {φ φ':PM} {O O':Nat->Prop} {w w':World} (hk:∀ x v,cO φ O w x v->cO φ' O' w' x v) {c:BC} {arr:Array Value} (h:vE φ O w c arr):vE φ' O' w' c arr:=
 ⟨h.1,λj x I=>by obtain⟨a,v,c,d⟩:=h.2 j x I;exact⟨a,v,c,hk _ _ d⟩⟩
def uP (l:List UInt8):FV:=.raw (.string ⟨l.toArray⟩)
def CX:List FV:=[uP [118,97,114],uP [118,111,108,97,116,105,108,101],uP [109,117,116,101,120],uP [114,119,108,111,99,107],uP [99,111,110,100],uP [102,117,116,117,114,101],uP [116,104,114,101,97,100],uP [105,102],uP [101,108,115,101],uP [119,104,105,108,101],uP [108,111,99,107],uP [114,101,97,100],uP [119,114,105,116,101],uP [116,114,97,110,115,97,99,116,105,111,110],uP [97,116,111,109,105,99],uP [119,97,105,116],uP [110,111,116,105,102,121],uP [110,111,116,105,102,121,97,108,108],uP [115,112,97,119,110],uP [106,111,105,110],uP [115,101,116],uP [103,101,116]]
def G (g:Nat):Option (List FV):=if g==0 then af CX else ah
structure rf (φ:PM) (E:Nat->Prop) (h:HF) (w:World):Prop where
 inj:∀ i j b b' k,h i=af b->h j=af b'->φ i=af k->φ j=af k->i=j
 at_:∀ i b,h i=af b->∃ k,φ i=af k/\¬E k/\XS φ (tot E φ h) w k b
 el:∀ k,E k->k<w.heap.size
 gl:∀ g cells,G g=af cells->ny (tot E φ h) w (.ptr cells 0) (.pointer (af ⟨g,0,ah⟩))
structure i_ (φ φ':PM) (h h':HF) (w w':World):Prop where
 sub:∀ i k,φ i=af k->φ' i=af k
 ext:K7 (own φ h) w w'
 own_:∀ k,k<w.heap.size->own φ' h' k->own φ h k
theorem i_.refl (φ:PM) (h:HF) (w:World):i_ φ φ h h w w:=⟨λ_ _ h=>h,K7.refl _ _,λ_ _ h=>h⟩
theorem i_.trans {φ φ' φ'':PM} {h h' h'':HF} {w w' w'':World} (m:i_ φ φ' h h' w w') (n:i_ φ' φ'' h' h'' w' w''):i_ φ φ'' h h'' w w'' where
 sub:=λi k e=>n.sub i k (m.sub i k e)
 ext:=⟨n.ext.os.trans m.ext.os,n.ext.tape.trans m.ext.tape,n.ext.output.trans m.ext.output,dh m.ext.size n.ext.size,
  λk hk I=>(n.ext.blk k (dD hk m.ext.size) (λh=>I (m.own_ k hk h))).trans (m.ext.blk k hk I),
  λk hk=>(n.ext.shp k (dD hk m.ext.size)).trans (m.ext.shp k hk)⟩
 own_:=λk hk h=>m.own_ k hk (n.own_ k (dD hk m.ext.size) h)
theorem K7.mono {O O':Nat->Prop} {w w':World} (h:K7 O w w') (I:∀ k,O k->O' k):K7 O' w w':=
 ⟨h.os,h.tape,h.output,h.size,λk hk hO=>h.blk k hk (λx=>hO (I k x)),h.shp⟩
theorem i_.keep {φ φ':PM} {h h':HF} {w w':World} (m:i_ φ φ' h h' w w') {E:Nat->Prop} {x:AV} {v:Value} (r:cO φ (tot E φ h) w x v):cO φ' (tot E φ' h') w' x v:=
 r.ext m.sub (m.ext.mono λ_ h=>.inr h) λk hk I=>I.elim .inl λo=>.inr (m.own_ k hk o)
theorem i_.keepF {φ φ':PM} {h h':HF} {w w':World} (m:i_ φ φ' h h' w w') {E:Nat->Prop} {x:FV} {v:Value} (r:ny (tot E φ h) w x v):ny (tot E φ' h') w' x v:=
 r.ext (m.ext.mono λ_ h=>.inr h) λk hk I=>I.elim .inl λo=>.inr (m.own_ k hk o)
abbrev EF:=Nat->Option AV
def NC (φ:PM) (O:Nat->Prop) (w:World) (e:EF) (a:Act):Prop:=∀ t x,e t=af x->cO φ O w x (a.tmps.getD t undef)
def CJ (e:EF) (dst:Option Nat) (x:AV):EF:=λt=>if dst=af t then af x else e t
def eV (h:HF) (wr:List Nat) (nw:HF):HF:=λi=>if i∈wr then nw i else h i
structure Bx where
 val:AV
 rd:List Nat
 wr:List Nat
 nw:HF
 N:List Nat
def gQ (P:Program) (o:Oper) (e:EF) (h:HF) (f:Bx):Prop:=
 ∀ (φ:PM) (E:Nat->Prop) (h':HF) (w:World) (a:Act),(∀ i∈f.rd,h' i=h i)->(∀ i∈f.wr,h' i=h i)->
  (∀ t,.tmp t∈o.op.operands->∀ y,e t=af y->cO φ (tot E φ h') w y (a.tmps.getD t undef))->rf φ E h' w->(∀ n∈f.N,φ n=ah)->
  o.wp P a w (λa' w'=>∃ v φ',a'=a.put o.dst v/\i_ φ φ' h' (eV h' f.wr f.nw) w w'/\(∀ i k,φ' i=af k->φ i=af k\/i∈f.N)/\
   rf φ' E (eV h' f.wr f.nw) w'/\cO φ' (tot E φ' (eV h' f.wr f.nw)) w' f.val v) (λ_ _ _=>False)
def rU:Bx:=⟨.f (.raw undef),[],[],λ_=>ah,[]⟩
inductive KQ (P:Program) (ops:Array Oper) (o:Oper) (f:Bx) (e:EF) (h:HF):Prop
 |run (hg:o.guard=ah) (ht:gQ P o e h f)
 |runG (j t:Nat) (want:Bool) (hg:o.guard=af (j,want)) (hj:(ops[j]?).bind (·.dst)=af t) (he:e t=af (.f (.raw (.bool want)))) (ht:gQ P o e h f)
 |skip (j t:Nat) (want:Bool) (hg:o.guard=af (j,want)) (hj:(ops[j]?).bind (·.dst)=af t) (v:Value) (he:e t=af (.f (.raw v))) (hv:v≠ .bool want) (hf:f=rU)
inductive zZ (P:Program) (ops:Array Oper):List (Oper×Bx)->EF->HF->EF->HF->Prop
 |nil (e:EF) (h:HF):zZ P ops [] e h e h
 |cons {o:Oper} {f:Bx} {r:List (Oper×Bx)} {e e':EF} {h h':HF} (hs:KQ P ops o f e h)
   (hr:zZ P ops r (CJ e o.dst f.val) (eV h f.wr f.nw) e' h'):zZ P ops ((o,f)::r) e h e' h'
def Lh (S:Nat->Bool):Nat->List (Oper×Bx)->EF->EF
 |_,[],e=>e
 |k,(o,f)::r,e=>Lh S (k+1) r (if S k then CJ e o.dst f.val else e)
def Cl (S:Nat->Bool):Nat->List (Oper×Bx)->HF->HF
 |_,[],h=>h
 |k,(_,f)::r,h=>Cl S (k+1) r (if S k then eV h f.wr f.nw else h)
theorem Ei {S S':Nat->Bool} {t:Nat}:∀ (l:List (Oper×Bx)) (k:Nat) (e e':EF),e t=e' t->
 (∀ (j:Nat) o f,l[j]? =af (o,f)->o.dst=af t->S (k+j)=S' (k+j))->Lh S k l e t=Lh S' k l e' t
 |[],_,_,_,he,_=>he
 |(o,f)::r,k,e,e',he,I=>by
  simp only[Lh];refine Ei r (k+1) _ _ ?_ (λj o f hj hd=>by have:=I (j+1) o f (by simpa using hj) hd;rwa [show k+(j+1)=k+1+j from by omega] at this);by_cases hd:o.dst=af t
  .rw[show S k=S' k from by simpa using I 0 o f rfl hd];split
   .simp[CJ,hd]
   .exact he
  .split<;>split<;>simp[CJ,hd,he]
theorem Eh {S S':Nat->Bool} {t:Nat}:∀ (l:List (Oper×Bx)) (k:Nat) (e e':HF),e t=e' t->
 (∀ (j:Nat) o f,l[j]? =af (o,f)->t∈f.wr->S (k+j)=S' (k+j))->Cl S k l e t=Cl S' k l e' t
 |[],_,_,_,he,_=>he
 |(o,f)::r,k,e,e',he,I=>by
  simp only[Cl];refine Eh r (k+1) _ _ ?_ (λj o f hj hd=>by have:=I (j+1) o f (by simpa using hj) hd;rwa [show k+(j+1)=k+1+j from by omega] at this);by_cases hd:t∈f.wr
  .rw[show S k=S' k from by simpa using I 0 o f rfl hd];split
   .simp[eV,hd]
   .exact he
  .split<;>split<;>simp[eV,hd,he]
theorem Cy {S:Nat->Bool} {t:Nat}:∀ (l:List (Oper×Bx)) (k:Nat) (e:EF),(∀ (j:Nat) o f,l[j]? =af (o,f)->o.dst=af t->S (k+j)=aj)->Lh S k l e t=e t
 |[],_,_,_=>rfl
 |(o,f)::r,k,e,I=>by
  simp only[Lh];rw[Cy r (k+1) _ (λj o f hj hd=>by have:=I (j+1) o f (by simpa using hj) hd;rwa [show k+(j+1)=k+1+j from by omega] at this)];split
  .rename_i h;unfold CJ;rw[ay];intro hd;have:=I 0 o f rfl hd;simp_all
  .rfl
theorem Cx {S:Nat->Bool} {t:Nat}:∀ (l:List (Oper×Bx)) (k:Nat) (e:HF),(∀ (j:Nat) o f,l[j]? =af (o,f)->t∈f.wr->S (k+j)=aj)->Cl S k l e t=e t
 |[],_,_,_=>rfl
 |(o,f)::r,k,e,I=>by
  simp only[Cl];rw[Cx r (k+1) _ (λj o f hj hd=>by have:=I (j+1) o f (by simpa using hj) hd;rwa [show k+(j+1)=k+1+j from by omega] at this)];split
  .rename_i h;unfold eV;rw[ay];intro hd;have:=I 0 o f rfl hd;simp_all
  .rfl
theorem P9 {S:Nat->Bool} {t:Nat}:∀ (l:List (Oper×Bx)) (k i:Nat) (e:EF) (o:Oper) (f:Bx),l[i]? =af (o,f)->o.dst=af t->S (k+i)=ai->
 (∀ (j:Nat) o' f',i<j->l[j]? =af (o',f')->o'.dst=af t->S (k+j)=aj)->Lh S k l e t=af f.val
 |[],_,_,_,_,_,h,_,_,_=>by simp at h
 |(o',f')::r,k,0,e,o,f,h,hd,I,hl=>by
  simp only[qV,ak,aD] at h;obtain⟨rfl,rfl⟩:=h;simp only[Lh];rw[Cy r (k+1) _ (λj o f hj hd=>by have:=hl (j+1) o f (by omega) (by simpa using hj) hd;rwa [show k+(j+1)=k+1+j from by omega] at this)];simp at I;simp[I,CJ,hd]
 |(o',f')::r,k,i+1,e,o,f,h,hd,I,hl=>by
  simp only[Lh];exact P9 r (k+1) i _ o f (by simpa using h) hd (by rwa [show k+1+i=k+(i+1) from by omega])
   (λj o f hij hj hd=>by have:=hl (j+1) o f (by omega) (by simpa using hj) hd;rwa [show k+(j+1)=k+1+j from by omega] at this)
theorem P5 {S:Nat->Bool} {t:Nat}:∀ (l:List (Oper×Bx)) (k i:Nat) (e:HF) (o:Oper) (f:Bx),l[i]? =af (o,f)->t∈f.wr->S (k+i)=ai->
 (∀ (j:Nat) o' f',i<j->l[j]? =af (o',f')->t∈f'.wr->S (k+j)=aj)->Cl S k l e t=f.nw t
 |[],_,_,_,_,_,h,_,_,_=>by simp at h
 |(o',f')::r,k,0,e,o,f,h,hd,I,hl=>by
  simp only[qV,ak,aD] at h;obtain⟨rfl,rfl⟩:=h;simp only[Cl];rw[Cx r (k+1) _ (λj o f hj hd=>by have:=hl (j+1) o f (by omega) (by simpa using hj) hd;rwa [show k+(j+1)=k+1+j from by omega] at this)];simp at I;simp[I,eV,hd]
 |(o',f')::r,k,i+1,e,o,f,h,hd,I,hl=>by
  simp only[Cl];exact P5 r (k+1) i _ o f (by simpa using h) hd (by rwa [show k+1+i=k+(i+1) from by omega])
   (λj o f hij hj hd=>by have:=hl (j+1) o f (by omega) (by simpa using hj) hd;rwa [show k+(j+1)=k+1+j from by omega] at this)
theorem zZ.step {P:Program} {ops:Array Oper}:∀ {l:List (Oper×Bx)} {e e':EF} {h h':HF} (_:zZ P ops l e h e' h') (k i:Nat) (o:Oper) (f:Bx),l[i]? =af (o,f)->
 KQ P ops o f (Lh (λj=>decide (j<k+i)) k l e) (Cl (λj=>decide (j<k+i)) k l h):=by
 intro l e e' h h' hc;induction hc with
 |nil=>intro k i o f hi;simp at hi
 |@cons o1 I r e e' h h' hs hr J=>
  intro k i o f hi;cases i with
  |zero=>
   simp only[qV,ak,aD] at hi;obtain⟨rfl,rfl⟩:=hi;have e1:Lh (λj=>decide (j<k+0)) k ((o1,I)::r) e=e:=by
    funext t;rw[Cy];intro j o f _ _;simp
   have e2:Cl (λj=>decide (j<k+0)) k ((o1,I)::r) h=h:=by
    funext t;rw[Cx];intro j o f _ _;simp
   rw[e1,e2];exact hs
  |succ i=>
   have:=J (k+1) i o f (by simpa using hi);simp only[Lh,Cl];rw[show k+(i+1)=k+1+i from by omega];simpa[show k<k+1+i from by omega] using this
theorem zZ.final {P:Program} {ops:Array Oper}:∀ {l:List (Oper×Bx)} {e e':EF} {h h':HF} (_:zZ P ops l e h e' h') (k:Nat) (S:Nat->Bool),(∀ j,j<l.length->S (k+j)=ai)->
 Lh S k l e=e'/\Cl S k l h=h':=by
 intro l e e' h h' hc;induction hc with
 |nil=>intro k S _;exact⟨rfl,rfl⟩
 |@cons o1 M r e e' h h' hs hr J=>
  intro k S I;have h0:S k=ai:=by simpa using I 0 (by simp)
  simp only[Lh,Cl,h0,bH];exact J (k+1) S (λj hj=>by have:=I (j+1) (by simpa using hj);rwa [show k+(j+1)=k+1+j from by omega] at this)
theorem PU {P:Program} {o:Oper} {a:Act} {w:World} {K K':Act->World->Prop} {Q:Exit->Act->World->Prop} (h:∀ a w,K a w->K' a w)
 (hh:o.wp P a w K (λ_ _ _=>False)):o.wp P a w K' Q:=by
 unfold HA at*
 generalize (execOp a.eval o).run P w=r at*
 cases r with
 |ok n w'=>
  cases n<;>simp only[Oper.upon] at hh ⊢<;>
   first
    |exact h _ _ hh
    |exact Calls.mono hh (λe w'' he=>by
      cases e with
      |returned v=>exact h _ _ he
      |panicked c=>exact he.elim
      |outgrown=>obtain⟨_,_,h⟩:=he;exact h.elim)
    |exact Rows.mono hh (λ_ _ he=>h _ _ he)
 |halt x w'=>cases x<;>simp only[Oper.upon] at hh ⊢<;>first|exact hh.elim|exact hh
inductive Bef (ops:Array Oper):Nat->Nat->Prop
 |one {j:Nat} {o:Oper} {e:Edge} (h:ops[j]? =af o) (he:e∈o.after) (hb:z_ .any e=ai):Bef ops j e.on
 |more {j i:Nat} {o:Oper} {e:Edge} (h:ops[j]? =af o) (he:e∈o.after) (hb:z_ .any e=ai) (hi:Bef ops e.on i):Bef ops j i
structure NIP (ops:Array Oper) (l:List (Oper×Bx)):Prop where
 edge:∀ (j:Nat) o,ops[j]? =af o->∀ e∈o.after,z_ .any e=ai->e.on<j
 pair:∀ (i j:Nat) oi fi oj fj,i<j->l[i]? =af (oi,fi)->l[j]? =af (oj,fj)->Bef ops j i\/
  (oi.apart ops oj=ai/\(∀ x∈fi.wr,x∉fj.rd/\x∉fj.wr)/\(∀ x∈fj.wr,x∉fi.rd))
 names:∀ (i j:Nat) oi fi oj fj,i<j->l[i]? =af (oi,fi)->l[j]? =af (oj,fj)->∀ n∈fi.N,n∉fj.N
def Fx (ops:Array Oper) (listed:Array Bool):Prop:=∀ (j:Nat) o,ops[j]? =af o->listed.getD j aj=ai->∀ e∈o.after,z_ .any e=ai->listed.getD e.on aj=ai
theorem Fx.bef {ops:Array Oper} {listed:Array Bool} (hc:Fx ops listed) {j i:Nat} (h:Bef ops j i):listed.getD j aj=ai->listed.getD i aj=ai:=by
 induction h with
 |one h he hb=>intro hj;exact hc _ _ h hj _ he hb
 |more h he hb hi I=>intro hj;exact I (hc _ _ h hj _ he hb)
theorem X1 {ops:Array Oper} {listed:Array Bool} (hc:Fx ops listed) {j i:Nat} {o:Oper} (I:ops[j]? =af o) (hr:∀ e∈o.after,z_ .any e=ai->listed.getD e.on aj=ai) (h:Bef ops j i):listed.getD i aj=ai:=by
 cases h with
 |one h he hb=>rw[h] at I;cases I;exact hr _ he hb
 |more h he hb hi=>rw[h] at I;cases I;exact hc.bef hi (hr _ he hb)
theorem sT {listed:Array Bool} {j:Nat} (h:listed.getD j ai=aj):listed.getD j aj=aj/\j<listed.size:=by
 rcases b9 j listed.size with h1|h1
 .simp[h1] at h ⊢;exact h
 .simp[Array.getElem?_eq_none h1] at h
def StP (φ0:PM) (E:Nat->Prop) (e0:EF) (h0:HF) (w0:World) (a0:Act) (l:List (Oper×Bx)) (S:Nat->Bool) (a:Act) (w:World):Prop:=
 ∃ φ,i_ φ0 φ h0 (Cl S 0 l h0) w0 w/\(∀ i k,φ i=af k->φ0 i=af k\/∃ (j:Nat) (o:Oper) (f:Bx),S j=ai/\l[j]? =af (o,f)/\i∈f.N)/\
  rf φ E (Cl S 0 l h0) w/\NC φ (tot E φ (Cl S 0 l h0)) w (Lh S 0 l e0) a/\a.defers=a0.defers/\a.tmps.size=a0.tmps.size
theorem Io {a:Act} {dst:Option Tmp} {v:Value} {t:Nat} (hd:∀ d,dst=af d->d<a.tmps.size):(a.put dst v).tmps.getD t undef=if dst=af t then v else a.tmps.getD t undef:=by
 cases dst with
 |none=>simp[NK]
 |some d=>
  by_cases h:d=t
  .subst h;simp[NK,hd d rfl]
  .simp[NK,h,pU h]
theorem Qo {a:Act} {dst:Option Tmp} {v:Value}:(a.put dst v).tmps.size=a.tmps.size:=by cases dst<;>simp[NK]
theorem Ip {a:Act} {dst:Option Tmp} {v:Value}:(a.put dst v).defers=a.defers:=by cases dst<;>rfl
theorem aak {P:Program} {ops:Array Oper} {l:List (Oper×Bx)} {e0 e':EF} {h0 h':HF} {φ0:PM} {E:Nat->Prop} {w0:World} {a0:Act}
 (hl:l.map (·.1)=ops.toList) (hc:zZ P ops l e0 h0 e' h') (ni:NIP ops l) (hfr:∀ (j:Nat) o f,l[j]? =af (o,f)->∀ n∈f.N,φ0 n=ah)
 (hsz:∀ (j:Nat) o,ops[j]? =af o->∀ d,o.dst=af d->d<a0.tmps.size) {listed:Array Bool} (hcl:Fx ops listed) {i:Nat} (hi:i∈Hz .any ops listed) {Q:Exit->Act->World->Prop} {K:Act->World->Prop}
 (hK:∀ a w,StP φ0 E e0 h0 w0 a0 l (λj=>(listed.setIfInBounds i ai).getD j aj) a w->K a w) {a:Act} {w:World} (hst:StP φ0 E e0 h0 w0 a0 l (λj=>listed.getD j aj) a w):
 wpOp P ops Q i K a w:=by
 obtain⟨hun,o,ho,hdeps⟩:=mem_ready.1 hi;obtain⟨hnf,hlt⟩:=sT hun;have hln:∀ (j:Nat) o',ops[j]? =af o'->∃ f,l[j]? =af (o',f):=λj o' h=>by
  have h1:(l.map (·.1))[j]? =af o':=by rw[hl];simpa using h
  rw[ba] at h1;cases hj:l[j]? with
  |none=>rw[hj] at h1;cases h1
  |some p=>rw[hj] at h1;obtain⟨a,b⟩:=p;simp at h1;subst h1;exact⟨b,rfl⟩
 have hnl:∀ (j:Nat) o' f,l[j]? =af (o',f)->ops[j]? =af o':=λj o' f h=>by
  have h1:(l.map (·.1))[j]? =af o':=by rw[ba,h];rfl
  rw[hl] at h1;simpa using h1
 obtain⟨f,hf⟩:=hln i o ho;have hord:∀ (j:Nat) oj fj,j≠i->l[j]? =af (oj,fj)->(listed.getD j aj=decide (j<i))\/
  (o.apart ops oj=ai\/oj.apart ops o=ai)/\(∀ x∈f.wr,x∉fj.rd/\x∉fj.wr)/\(∀ x∈fj.wr,x∉f.rd/\x∉f.wr):=by
  intro j oj fj hji hj;rcases b9 j i with h|h
  .rcases ni.pair j i oj fj o f h hj hf with hb|⟨h1,h2,h3⟩
   .left;rw[X1 hcl ho hdeps hb];simp[h]
   .right;exact⟨.inr h1,λx I=>⟨h3 x I,λU=>(h2 x U).2 I⟩,λx I=>h2 x I⟩
  .have h:i<j:=by omega
   rcases ni.pair i j o f oj fj h hf hj with hb|⟨h1,h2,h3⟩
   .left;have:listed.getD j aj=aj:=by
     cases I:listed.getD j aj with
     |false=>rfl
     |true=>have:=hcl.bef hb I;rw[hnf] at this;cases this
    rw[this];simp;omega
   .right;exact⟨.inl h1,λx I=>h2 x I,λx I=>⟨h3 x I,λU=>(h2 x U).2 I⟩⟩
 have J:∀ j,(listed.setIfInBounds i ai).getD j aj=if j=i then ai else listed.getD j aj:=λj=>by
  by_cases h:i=j
  .subst h;simp[hlt]
  .rw[getD_set_ne aj h,ay (λe=>h e.symm)]
 have hlater:∀ (j:Nat) oj fj,i<j->l[j]? =af (oj,fj)->(listed.getD j aj=aj)\/((o.apart ops oj=ai\/oj.apart ops o=ai)/\(∀ x∈f.wr,x∉fj.rd/\x∉fj.wr)):=by
  intro j oj fj hij hj;rcases hord j oj fj (by omega) hj with h|⟨h1,h2,_⟩
  .left;rw[h];simp;omega
  .right;exact⟨h1,h2⟩
 have hdd:∀ {x y:Oper},(x.apart ops y=ai\/y.apart ops x=ai)->∀ d,x.dst=af d->y.dst≠af d:=by
  intro x y h d hd he;rcases h with h|h
  .exact (Oper.apart_spec h).2.1 d hd he
  .exact (Oper.apart_spec h).2.1 d he hd
 have hlook:∀ {x y:Oper},(x.apart ops y=ai\/y.apart ops x=ai)->∀ d,y.dst=af d->d∉x.looksAt ops:=by
  intro x y h d hd;rcases h with h|h
  .exact (Oper.apart_spec h).2.2 d hd
  .exact (Oper.apart_spec h).1 d hd
 have heL:∀ t,t∈o.looksAt ops->Lh (λj=>listed.getD j aj) 0 l e0 t=Lh (λj=>decide (j<0+i)) 0 l e0 t:=λt ht=>by
  refine Ei l 0 e0 e0 rfl λj oj fj hj hd=>?_
  simp only[bN];by_cases hji:j=i
  .subst hji;rw[hnf];simp
  .rcases hord j oj fj hji hj with h|⟨h,_⟩
   .exact h
   .exact cR ht (hlook h t hd)
 have hhL:∀ t,t∈f.rd\/t∈f.wr->Cl (λj=>listed.getD j aj) 0 l h0 t=Cl (λj=>decide (j<0+i)) 0 l h0 t:=λt ht=>by
  refine Eh l 0 h0 h0 rfl λj oj fj hj hd=>?_
  simp only[bN];by_cases hji:j=i
  .subst hji;rw[hnf];simp
  .rcases hord j oj fj hji hj with h|⟨_,_,h⟩
   .exact h
   .rcases ht with ht|ht
    .exact cR ht (h t hd).1
    .exact cR ht (h t hd).2
 have hE':∀ t,Lh (λj=>(listed.setIfInBounds i ai).getD j aj) 0 l e0 t=if o.dst=af t then af f.val else Lh (λj=>listed.getD j aj) 0 l e0 t:=λt=>by
  by_cases hd:o.dst=af t
  .rw[aF hd];refine P9 l 0 i e0 o f hf hd (by simp[J]) λj o' f' hij hj M=>?_
   simp only[bN,J,ay (show ¬j=i by omega)];rcases hlater j o' f' hij hj with h|⟨h,_⟩
   .exact h
   .exact cR M (hdd h t hd)
  .rw[ay hd];refine Ei l 0 e0 e0 rfl λj oj fj hj M=>?_
   simp only[bN,J];rw[ay];intro hji;subst hji;rw[hf] at hj;cases hj;exact hd M
 have Y:Cl (λj=>(listed.setIfInBounds i ai).getD j aj) 0 l h0=eV (Cl (λj=>listed.getD j aj) 0 l h0) f.wr f.nw:=by
  funext t;unfold eV;by_cases hd:t∈f.wr
  .rw[aF hd];refine P5 l 0 i h0 o f hf hd (by simp[J]) λj o' f' hij hj M=>?_
   simp only[bN,J,ay (show ¬j=i by omega)];rcases hlater j o' f' hij hj with h|⟨_,h⟩
   .exact h
   .exact cR M (h t hd).2
  .rw[ay hd];refine Eh l 0 h0 h0 rfl λj oj fj hj M=>?_
   simp only[bN,J];rw[ay];intro hji;subst hji;rw[hf] at hj;cases hj;exact hd M
 obtain⟨φ,hm,hdom,hrep,henv,hdef,hsize⟩:=hst;have hfrN:∀ n∈f.N,φ n=ah:=λn hn=>by
  cases I:φ n with
  |none=>rfl
  |some k=>
   rcases hdom n k I with h|⟨j,oj,fj,hSj,hj,hnj⟩
   .rw[hfr i o f hf n hn] at h;cases h
   .have hji:j≠i:=by intro h;subst h;exact cR hSj (by simp only[hnf];simp)
    rcases b9 j i with h|h
    .exact cR hn (ni.names j i oj fj o f h hj hf n hnj)
    .exact cR hnj (ni.names i j o f oj fj (by omega) hf hj n hn)
 have hdsz:∀ d,o.dst=af d->d<a.tmps.size:=λd hd=>by rw[hsize];exact hsz i o ho d hd
 have main:∀ (v:Value) (φ':PM) (w':World),i_ φ φ' (Cl (λj=>listed.getD j aj) 0 l h0) (eV (Cl (λj=>listed.getD j aj) 0 l h0) f.wr f.nw) w w'->
  (∀ i k,φ' i=af k->φ i=af k\/i∈f.N)->rf φ' E (eV (Cl (λj=>listed.getD j aj) 0 l h0) f.wr f.nw) w'->
  cO φ' (tot E φ' (eV (Cl (λj=>listed.getD j aj) 0 l h0) f.wr f.nw)) w' f.val v->K (a.put o.dst v) w':=by
  intro v φ' w' m1 d1 r1 v1;refine hK _ _ ⟨φ',?_,?_,?_,?_,?_,?_⟩
  .rw[Y];exact hm.trans m1
  .intro i' k h;rcases d1 i' k h with h|h
   .rcases hdom i' k h with h|⟨j,oj,fj,hSj,hj,hnj⟩
    .exact .inl h
    .refine .inr ⟨j,oj,fj,?_,hj,hnj⟩;show (listed.setIfInBounds i ai).getD j aj=ai;rw[J j];split
     .rfl
     .exact hSj
   .exact .inr ⟨i,o,f,(J i).trans (by simp),hf,h⟩
  .rw[Y];exact r1
  .rw[Y];intro t x I;rw[hE' t] at I;rw[Io hdsz];by_cases hd:o.dst=af t
   .rw[aF hd] at I ⊢;cases I;exact v1
   .rw[ay hd] at I ⊢;exact m1.keep (henv t x I)
  .rw[Ip];exact hdef
  .rw[Qo];exact hsize
 have hstep:=hc.step 0 i o f hf;have hrun:gQ P o (Lh (λj=>decide (j<0+i)) 0 l e0) (Cl (λj=>decide (j<0+i)) 0 l h0) f->o.wp P a w K Q:=by
  intro ht;refine PU ?_ (ht φ E (Cl (λj=>listed.getD j aj) 0 l h0) w a (λt h=>hhL t (.inl h)) (λt h=>hhL t (.inr h)) ?_ hrep hfrN)
  .rintro a' w' ⟨v,φ',rfl,m1,d1,r1,v1⟩;exact main v φ' w' m1 d1 r1 v1
  .intro t ht' y hy;refine henv t y ?_;rw[heL t (lm _ (List.mem_filterMap.2 ⟨.tmp t,by simpa using ht',rfl⟩))];exact hy
 have hyield:∀ (j t:Nat) (want b:Bool),o.guard=af (j,want)->(ops[j]?).bind (·.dst)=af t->Lh (λj=>decide (j<0+i)) 0 l e0 t=af (.f (.raw (.bool b)))->iM o (yielded ops a.tmps)=(b==want):=by
  intro j t want b hg hj he;rw[<- heL t (nE _ (by rw[hg];simp[hj]))] at he;have h1:=henv t _ he;have h2:a.tmps.getD t undef= .bool b:=by
   generalize Z:a.tmps.getD t undef=z at h1;cases h1 with
   |f h=>cases h;rfl
  have h3:a.tmps[t]? =af (.bool b):=by
   rw[gH] at h2;cases Z:a.tmps[t]? with
   |none=>rw[Z] at h2;simp[undef] at h2
   |some z=>rw[Z] at h2;simp at h2;rw[h2]
  unfold iM yielded;rw[hg];simp[hj,h3]
 unfold wpOp;simp only[ho];cases hstep with
 |run hg ht=>
  rw[aF (by unfold iM;rw[hg])];exact .inl (hrun ht)
 |runG j t want hg hj he ht=>
  rw[aF (by rw[hyield j t want want hg hj he];simp)];exact .inl (hrun ht)
 |skip j t want hg hj v he hv hf'=>
  have hnw:iM o (yielded ops a.tmps)=aj:=by
   rw[<- heL t (nE _ (by rw[hg];simp[hj]))] at he;have h1:=henv t _ he;have h2:a.tmps.getD t undef=v:=by
    generalize a.tmps.getD t undef=z at h1;cases h1 with
    |f h=>cases h;rfl
   unfold iM yielded;rw[hg];simp only[hj,aH];rw[gH] at h2;cases Z:a.tmps[t]? with
   |none=>simp
   |some z=>
    rw[Z] at h2;simp at h2;subst h2;cases z<;>simp at hv ⊢;exact hv
  rw[ay (by rw[hnw];simp)];subst hf';have hu:eV (Cl (λj=>listed.getD j aj) 0 l h0) rU.wr rU.nw=Cl (λj=>listed.getD j aj) 0 l h0:=by
   funext t;simp[eV,rU]
  refine main undef φ w ?_ (λ_ _ h=>.inl h) ?_ ?_
  .rw[hu];exact i_.refl _ _ _
  .rw[hu];exact hrep
  .exact .f (.raw _)
theorem YX {l:List Bool}:∀ {i:Nat},l[i]? =af aj->(l.set i ai).countP id=l.countP id+1:=by
 induction l with
 |nil=>intro i h;simp at h
 |cons b l I=>
  intro i h;cases i with
  |zero=>simp at h;subst h;simp
  |succ i=>
   simp only[List.set_cons_succ,List.countP_cons];rw[I (by simpa using h)];omega
theorem Pu {l:List Bool} (h:l.length<=l.countP id):∀ (j:Nat),j<l.length->l[j]? =af ai:=by
 have h1:l.countP id=l.length:=Nat.le_antisymm List.countP_le_length h;rw[List.countP_eq_length] at h1;intro j hj;rw[aB hj];simpa using h1 _ (u_ hj)
theorem V5 {ops:Array Oper} {l:List (Oper×Bx)} (J:NIP ops l) {listed:Array Bool} (hs:listed.size=ops.size) (hr:Hz .any ops listed=[]):
 ∀ (n j:Nat),j<n->j<ops.size->listed.getD j aj=ai:=by
 intro n;induction n with
 |zero=>intro j h;omega
 |succ n M=>
  intro j hj hjs;cases I:listed.getD j aj with
  |true=>rfl
  |false=>
   exfalso;have hmem:j∈Hz .any ops listed:=by
    refine mem_ready.2 ⟨?_,ops[j],ij hjs,λe he hb=>?_⟩
    .have:j<listed.size:=by omega
     simp[this] at I ⊢;exact I
    .have h1:=J.edge j _ (ij hjs) e he hb;exact M e.on (by omega) (by omega)
   rw[hr] at hmem;cases hmem
theorem Nv {P:Program} {ops:Array Oper} {l:List (Oper×Bx)} {e0 e':EF} {h0 h':HF} {φ0:PM} {E:Nat->Prop} {w0:World} {a0:Act}
 (hl:l.map (·.1)=ops.toList) (hc:zZ P ops l e0 h0 e' h') (J:NIP ops l) (hfr:∀ (j:Nat) o f,l[j]? =af (o,f)->∀ n∈f.N,φ0 n=ah)
 (hsz:∀ (j:Nat) o,ops[j]? =af o->∀ d,o.dst=af d->d<a0.tmps.size) {Q:Exit->Act->World->Prop}
 (U:∀ a w,StP φ0 E e0 h0 w0 a0 l (λ_=>ai) a w->Q .normal a w):
 ∀ (fuel:Nat) (listed:Array Bool) (a:Act) (w:World),listed.size=ops.size->Fx ops listed->ops.size<=fuel+listed.toList.countP id->
  StP φ0 E e0 h0 w0 a0 l (λj=>listed.getD j aj) a w->wpAny P .any ops Q fuel listed a w:=by
 have hlen:l.length=ops.size:=by have:=gO al hl;simpa using this
 have fin:∀ (listed:Array Bool) (a:Act) (w:World),(∀ j,j<ops.size->listed.getD j aj=ai)->StP φ0 E e0 h0 w0 a0 l (λj=>listed.getD j aj) a w->Q .normal a w:=by
  intro listed a w hall hst;refine U a w ?_;have h1:=hc.final 0 (λj=>listed.getD j aj) (λj hj=>by simp only[bN];exact hall j (by omega));have h2:=hc.final 0 (λ_=>ai) (λ_ _=>rfl);unfold StP at hst ⊢;rw[h1.1,h1.2] at hst;rw[h2.1,h2.2];obtain⟨φ,m,d,r⟩:=hst;refine ⟨φ,m,λi k h=>?_,r⟩;rcases d i k h with h|⟨j,o,f,_,hj,hn⟩
  .exact .inl h
  .exact .inr ⟨j,o,f,rfl,hj,hn⟩
 intro fuel;induction fuel with
 |zero=>
  intro listed a w hs hcl hcnt hst;have hall:∀ j,j<ops.size->listed.getD j aj=ai:=λj hj=>by
   have:=Pu (l:=listed.toList) (by simp only[iy];omega) j (by simp only[iy];omega);rw[cJ] at this;rw[gH,this];rfl
  refine ⟨?_,fin listed a w hall hst⟩;cases hr:Hz .any ops listed with
  |nil=>rfl
  |cons i r=>
   have hi:i∈Hz .any ops listed:=by rw[hr];simp
   obtain⟨hun,o,I,_⟩:=mem_ready.1 hi;have hnf:=(sT hun).1;rw[hall i (cF.1 I).1] at hnf;cases hnf
 |succ fuel M=>
  intro listed a w hs hcl hcnt hst;refine ⟨λhr=>fin listed a w (λj hj=>V5 J hs hr (j+1) j (by omega) hj) hst,λi hi=>?_⟩;obtain⟨hun,o,I,hdeps⟩:=mem_ready.1 hi;obtain⟨hnf,hlt⟩:=sT hun;refine aak hl hc J hfr hsz hcl hi (λa' w' h=>M _ a' w' ?_ ?_ ?_ h) hst
  .simpa using hs
  .intro j oj hoj hj e he hb;by_cases hji:i=j
   .subst hji;rw[I] at hoj;cases hoj;exact getD_set_true (hdeps e he hb)
   .rw[getD_set_ne aj hji] at hj;exact getD_set_true (hcl j oj hoj hj e he hb)
  .have h1:listed.toList[i]? =af aj:=by
    rw[cJ,ij hlt];simp[hlt] at hnf;rw[hnf]
   rw[Array.toList_setIfInBounds,YX h1];omega
def aos (φ0:PM) (E:Nat->Prop) (e':EF) (h0 h':HF) (N:List Nat) (w0:World) (a0:Act) (a:Act) (w:World):Prop:=
 ∃ φ,i_ φ0 φ h0 h' w0 w/\(∀ i k,φ i=af k->φ0 i=af k\/i∈N)/\rf φ E h' w/\NC φ (tot E φ h') w e' a/\a.defers=a0.defers/\a.tmps.size=a0.tmps.size
theorem i_.drew {φ:PM} {h:HF} (w:World):i_ φ φ h h w {w with drawn:=w.drawn+1}:=
 ⟨λ_ _ h=>h,⟨rfl,rfl,rfl,bW _,λ_ _ _=>rfl,λ_ _=>rfl⟩,λ_ _ h=>h⟩
theorem rf.moved {φ:PM} {E:Nat->Prop} {h:HF} {w w':World} (r:rf φ E h w) (m:i_ φ φ h h w w') (hk:∀ k,own φ h k->w'.heap[k]? =w.heap[k]?):rf φ E h w':=
 ⟨r.inj,λi b hb=>by
   obtain⟨k,h1,h2,o,J,I⟩:=r.at_ i b hb;exact⟨k,h1,h2,o,by rw[hk k ⟨i,b,hb,h1⟩];exact J,I.mono λ_ _ h=>m.keep h⟩,λk hk=>dD (r.el k hk) m.ext.size,
   λg cells hg=>m.keepF (r.gl g cells hg)⟩
theorem Ql {P:Program} {ops:Array Oper} {l:List (Oper×Bx)} {e0 e':EF} {h0 h':HF} {φ0:PM} {E:Nat->Prop} {w0:World} {a0:Act} {id:Nat} {draw:Bool}
 (hm:P.follows .mixedOrders=ai) (hl:l.map (·.1)=ops.toList) (hc:zZ P ops l e0 h0 e' h') (I:NIP ops l) (hfr:∀ n∈l.flatMap (λp=>p.2.N),φ0 n=ah)
 (hsz:∀ (j:Nat) o,ops[j]? =af o->∀ d,o.dst=af d->d<a0.tmps.size) (hrep:rf φ0 E h0 w0) (henv:NC φ0 (tot E φ0 h0) w0 e0 a0) {Q:Exit->Act->World->Prop}
 (Y:∀ a w,aos φ0 E e' h0 h' (l.flatMap (λp=>p.2.N)) w0 a0 a w->Q .normal a w):(Code.region id ops draw).wp P Q a0 w0:=by
 have hfr':∀ (j:Nat) o f,l[j]? =af (o,f)->∀ n∈f.N,φ0 n=ah:=λj o f hj n hn=>hfr n (uY.2 ⟨(o,f),bd hj,hn⟩)
 have fin:∀ a w,StP φ0 E e0 h0 w0 a0 l (λ_=>ai) a w->Q .normal a w:=by
  rintro a w ⟨φ,m,d,r,en,Z,sz⟩;have h2:=hc.final 0 (λ_=>ai) (λ_ _=>rfl);rw[h2.2] at m r en;rw[h2.1] at en;refine Y a w ⟨φ,m,λi k h=>?_,r,en,Z,sz⟩;rcases d i k h with h|⟨j,o,f,_,hj,hn⟩
  .exact .inl h
  .exact .inr (uY.2 ⟨(o,f),bd hj,hn⟩)
 have st0:∀ (w:World),i_ φ0 φ0 h0 h0 w0 w->rf φ0 E h0 w->StP φ0 E e0 h0 w0 a0 l (λj=>(oz ops.size aj).getD j aj) a0 w:=by
  intro w m r;have e1:(λj=>(oz ops.size aj).getD j aj)=λ_=>aj:=by
   funext j;rw[gH,Array.getElem?_replicate];split<;>rfl
  rw[e1];have e2:Lh (λ_=>aj) 0 l e0=e0:=by funext t;rw[Cy];intros;rfl
  have e3:Cl (λ_=>aj) 0 l h0=h0:=by funext t;rw[Cx];intros;rfl
  refine ⟨φ0,by rw[e3];exact m,λ_ _ h=>.inl h,by rw[e3];exact r,?_,rfl,rfl⟩;rw[e2,e3];exact λt x U=>m.keep (henv t x U)
 have cl0:Fx ops (oz ops.size aj):=by
  intro j o ho hj;rw[gH,Array.getElem?_replicate] at hj;split at hj<;>simp at hj
 cases draw with
 |true=>
  refine wp_region_any hm ?_;exact Nv hl hc I hfr' hsz fin ops.size _ a0 _ (by simp) cl0 (by omega) (st0 _ (i_.drew w0) (hrep.moved (i_.drew w0) λ_ _=>rfl))
 |false=>
  have hany:=Nv (E:=E) (w0:=w0) hl hc I hfr' hsz fin ops.size _ a0 w0 (by simp) cl0 (by omega) (st0 _ (i_.refl _ _ _) hrep);refine wp_region ?_;have key:∀ (m k:Nat) (listed:Array Bool) (a:Act) (w:World),k+m=ops.size->listed.size=ops.size->(∀ j,j<k->listed.getD j aj=ai)->(∀ j,k<=j->j<ops.size->listed.getD j ai=aj)->
   wpAny P .any ops Q m listed a w->wpOps P ops Q (List.range' k m) a w:=by
   intro m;induction m with
   |zero=>intro k listed a w hk hs h1 h2 h;simpa[wpOps] using h.2
   |succ m M=>
    intro k listed a w hk hs h1 h2 h;rw[List.range'_succ,wpOps_cons];have hkr:k∈Hz .any ops listed:=by
     refine mem_ready.2 ⟨h2 k (bW _) (by omega),ops[k]'(by omega),ij (by omega),λe he hb=>?_⟩;exact h1 _ (I.edge k _ (ij (by omega)) e he hb)
    refine wpOp_mono (λa' w' h'=>M (k+1) (listed.setIfInBounds k ai) a' w' (by omega) (by simpa using hs) ?_ ?_ h') (h.2 k hkr)
    .intro j hj;by_cases hjk:k=j
     .subst hjk;simp[show k<listed.size by omega]
     .rw[getD_set_ne aj hjk];exact h1 j (by omega)
    .intro j hj J;rw[getD_set_ne ai (by omega)];exact h2 j (by omega) J
  have:=key ops.size 0 (oz ops.size aj) a0 w0 (by omega) (by simp) (by intro j hj;omega) (by
   intro j _ hj;rw[gH,Array.getElem?_replicate,aF hj];rfl) hany
  rwa [List.range_eq_range']
inductive PT (α:Type) where
 |leaf
 |node (v:Option α) (l r:PT α)
namespace PT
variable {α:Type}
def get:PT α->Nat->Option α
 |leaf,_=>ah
 |node v l r,n=>match n with
  |0=>v
  |m+1=>if aC (m%2) 0 then get l (m/2) else get r (m/2)
def N0:Nat->PT α->Nat->Option α->PT α
 |0,t,_,_=>t
 |k+1,t,n,x=>match t with
  |leaf=>(match n with
   |0=>node x leaf leaf
   |m+1=>if aC (m%2) 0 then node ah (N0 k leaf (m/2) x) leaf else node ah leaf (N0 k leaf (m/2) x))
  |node v l r=>(match n with
   |0=>node x l r
   |m+1=>if aC (m%2) 0 then node v (N0 k l (m/2) x) r else node v l (N0 k r (m/2) x))
def set (t:PT α) (n:Nat) (x:Option α):PT α:=N0 (n+1) t n x
theorem zn:∀ (k:Nat) (t:PT α) (n:Nat) (x:Option α),n<k->∀ i,(N0 k t n x).get i=if i=n then x else t.get i
 |0,_,_,_,h,_=>cR h (xi _)
 |k+1,t,n,x,h,i=>by
  cases n with
  |zero=>
   cases t<;>cases i<;>simp[N0,get]
  |succ m=>
   have hm:m/2<k:=by have:=Nat.div_le_self m 2;omega
   cases t with
   |leaf=>
    simp only[N0];cases hb:aC (m%2) 0 with
    |true=>
     have J:m%2=0:=aw hb;simp only[bH];cases i with
     |zero=>simp[get]
     |succ j=>
      simp only[get];cases hj:aC (j%2) 0 with
      |true=>
       have I:j%2=0:=aw hj;simp only[bH];rw[zn k _ _ _ hm];by_cases he:j/2=m/2
       .rw[aF he,aF (by omega)]
       .rw[ay he,ay (by omega)];rfl
      |false=>
       have I:¬j%2=0:=ie hj;simp only[cz,ef];rw[ay (by omega)]
    |false=>
     have J:¬m%2=0:=ie hb;simp only[cz,ef];cases i with
     |zero=>simp[get]
     |succ j=>
      simp only[get];cases hj:aC (j%2) 0 with
      |true=>
       have I:j%2=0:=aw hj;simp only[bH];rw[ay (by omega)]
      |false=>
       have I:¬j%2=0:=ie hj;simp only[cz,ef];rw[zn k _ _ _ hm];by_cases he:j/2=m/2
       .rw[aF he,aF (by omega)]
       .rw[ay he,ay (by omega)];rfl
   |node v l r=>
    simp only[N0];cases hb:aC (m%2) 0 with
    |true=>
     have J:m%2=0:=aw hb;simp only[bH];cases i with
     |zero=>simp[get]
     |succ j=>
      simp only[get];cases hj:aC (j%2) 0 with
      |true=>
       have I:j%2=0:=aw hj;simp only[bH];rw[zn k _ _ _ hm];by_cases he:j/2=m/2
       .rw[aF he,aF (by omega)]
       .rw[ay he,ay (by omega)]
      |false=>
       have I:¬j%2=0:=ie hj;simp only[cz,ef];rw[ay (by omega)]
    |false=>
     have J:¬m%2=0:=ie hb;simp only[cz,ef];cases i with
     |zero=>simp[get]
     |succ j=>
      simp only[get];cases hj:aC (j%2) 0 with
      |true=>
       have I:j%2=0:=aw hj;simp only[bH];rw[ay (by omega)]
      |false=>
       have I:¬j%2=0:=ie hj;simp only[cz,ef];rw[zn k _ _ _ hm];by_cases he:j/2=m/2
       .rw[aF he,aF (by omega)]
       .rw[ay he,ay (by omega)]
theorem get_set (t:PT α) (n:Nat) (x:Option α) (i:Nat):(t.set n x).get i=if i=n then x else t.get i:=zn (n+1) t n x (by omega) i
def mask {β:Type}:PT α->PT β->PT α
 |leaf,_=>leaf
 |node _ _ _,leaf=>leaf
 |node v l r,node u J I=>node (match u with|some _=>v|none=>ah) (mask l J) (mask r I)
def mk:Option α->PT α->PT α->PT α
 |none,leaf,leaf=>leaf
 |v,l,r=>node v l r
def only (m:Nat):Nat->Nat->PT α->PT α
 |_,_,leaf=>leaf
 |a,b,node v l r=>mk (if aN m b then v else ah) (only m (2*a) (a+b) l) (only m (2*a) (2*a+b) r)
def exc (m:Nat):Nat->Nat->PT α->PT α
 |_,_,leaf=>leaf
 |a,b,node v l r=>mk (if aN m b then ah else v) (exc m (2*a) (a+b) l) (exc m (2*a) (2*a+b) r)
def merge (m:Nat):Nat->Nat->PT α->PT α->PT α
 |a,b,leaf,t=>only m a b t
 |a,b,node v l r,leaf=>exc m a b (node v l r)
 |a,b,node v l r,node I M J=>mk (if aN m b then I else v) (merge m (2*a) (a+b) l M) (merge m (2*a) (2*a+b) r J)
def all (p:Nat->α->Bool):Nat->Nat->PT α->Bool
 |_,_,leaf=>ai
 |a,b,node v l r=>(match v with|some x=>p b x|none=>ai)&&all p (2*a) (a+b) l&&all p (2*a) (2*a+b) r
theorem get_all (p:Nat->α->Bool):∀ (t:PT α) (a b i:Nat) (x:α),all p a b t=ai->t.get i=af x->p (a*i+b) x=ai
 |leaf,_,_,_,_,_,h=>by simp[get] at h
 |node v l r,a,b,0,x,h,I=>by
  simp only[get] at I;subst I;simp only[all,av] at h;rw[Nat.mul_zero,bN];exact h.1.1
 |node v l r,a,b,j+1,x,h,I=>by
  simp only[all,av] at h;simp only[get] at I;cases hj:aC (j%2) 0 with
  |true=>
   have J:j%2=0:=aw hj;simp only[hj,bH] at I;have key:=get_all p l _ _ _ x h.1.2 I;have:2*a*(j/2)+(a+b)=a*(j+1)+b:=by
    have e:j=2*(j/2):=by omega
    calc 2*a*(j/2)+(a+b)=a*(2*(j/2))+a+b:=by rw[HC 2 a,Nat.mul_assoc];omega
     _=a*(j+1)+b:=by rw[<- e,Nat.mul_add];omega
   rw[this] at key;exact key
  |false=>
   have J:¬j%2=0:=ie hj;simp only[hj,cz,ef] at I;have key:=get_all p r _ _ _ x h.2 I;have:2*a*(j/2)+(2*a+b)=a*(j+1)+b:=by
    have e:j=2*(j/2)+1:=by omega
    have h2:a*(j+1)=a*(2*(j/2))+2*a:=by
     calc a*(j+1)=a*(2*(j/2)+2):=by rw[show j+1=2*(j/2)+2 from by omega]
      _=a*(2*(j/2))+2*a:=by rw[Nat.mul_add];omega
    have M:2*a*(j/2)=a*(2*(j/2)):=by rw[HC 2 a,Nat.mul_assoc]
    omega
   rw[this] at key;exact key
def dom:Nat->Nat->PT α->Nat->Nat
 |_,_,leaf,acc=>acc
 |a,b,node v l r,acc=>dom (2*a) (a+b) l (dom (2*a) (2*a+b) r (match v with|some _=>acc|||(1<<<b)|none=>acc))
def emp:PT α:=leaf
end PT
abbrev zY:=PT AV
abbrev n_:=PT xh
abbrev NW:=List (Nat×xh)
def zY.put (e:zY):Option Nat->AV->zY
 |none,_=>e
 |some d,x=>e.set d (af x)
def jf:NW->HF
 |[],_=>ah
 |(s,x)::r,t=>if aC s t then af x else jf r t
theorem aac (e:zY) (d:Option Nat) (x:AV):CJ e.get d x=(e.put d x).get:=by
 funext t;cases d with
 |none=>simp[CJ,zY.put]
 |some d=>
  simp only[CJ,zY.put,PT.get_set,ak];by_cases h:d=t
  .simp[h]
  .rw[ay h,ay (λe=>h e.symm)]
def H3 (acc:List Nat) (s:Nat) (e:Edge):Nat:=if z_ .any e then (s|||2^e.on)|||acc.getD e.on 0 else s
def KC:List Oper->List Nat->List Nat
 |[],acc=>acc
 |o::r,acc=>KC r (acc++[o.after.toList.foldl (H3 acc) 0])
theorem KE {ops:Array Oper} {o:Oper} {k:Nat} {acc:List Nat} (J:ops[k]? =af o) (M:∀ (j:Nat) B,acc[j]? =af B->∀ i,B.testBit i=ai->Bef ops j i):
 ∀ (es:List Edge) (s:Nat),(∀ e∈es,e∈o.after)->(∀ i,s.testBit i=ai->Bef ops k i)->∀ i,(es.foldl (H3 acc) s).testBit i=ai->Bef ops k i
 |[],s,_,hs,i,hi=>hs i hi
 |e::r,s,he,hs,i,hi=>by
  refine KE J M r (H3 acc s e) (λe' h'=>he e' (cI _ h')) (λi hi=>?_) i hi;unfold H3 at hi;split at hi
  .rename_i hb;rw[bt,bt,iV,iV] at hi;rcases hi with (hi|hi)|hi
   .exact hs i hi
   .rw[Nat.testBit_two_pow] at hi;have:e.on=i:=by simpa using hi
    subst this;exact .one J (he e (dj ..)) hb
   .refine .more J (he e (dj ..)) hb ?_;rw[aA] at hi;cases I:acc[e.on]? with
    |none=>rw[I] at hi;simp at hi
    |some C=>rw[I] at hi;exact M _ C I i hi
  .exact hs i hi
theorem Nu {ops:Array Oper}:∀ (rest:List Oper) (acc:List Nat),(∀ (j:Nat),∀ o,rest[j]? =af o->ops[acc.length+j]? =af o)->
 (∀ (j:Nat) B,acc[j]? =af B->∀ i,B.testBit i=ai->Bef ops j i)->∀ (j:Nat) B,(KC rest acc)[j]? =af B->∀ i,B.testBit i=ai->Bef ops j i
 |[],acc,_,I=>I
 |o::r,acc,J,I=>by
  refine Nu r _ (λj o' hj=>?_) ?_
  .rw[bu,dR,show acc.length+1+j=acc.length+(j+1) from by omega];exact J (j+1) o' (by simpa using hj)
  .intro j B hj i hi;rcases b9 j acc.length with h|h
   .rw[bO h] at hj;exact I j B hj i hi
   .rw[b_ h] at hj;have M:j-acc.length=0:=by
     rcases Lc (j-acc.length) with h0|h0
     .exact h0
     .rw[bS (by simp;omega)] at hj;cases hj
    have hjl:j=acc.length:=by omega
    subst hjl;simp at hj;subst hj;have hoo:ops[acc.length]? =af o:=by simpa using J 0 o rfl
    rw[<- Array.foldl_toList] at hi;exact KE hoo I _ 0 (λe he=>by simpa using he) (λi hi=>by simp at hi) i hi
inductive Zp where
 |mv (x:Operand)
 |pick (c a b:Operand)
 |alloc (ty:TypeId) (z:List Value)
 |box (ty:TypeId) (x:Operand)
 |build (z:List Value) (parts:List (Nat×Nat×Operand))
 |bsl (ty:TypeId) (sz len:Nat) (z:List Value) (parts:List (Nat×Nat×Operand))
 |load (sz:Nat) (ag:Bool) (x:Operand)
 |store (sz:Nat) (x v:Operand)
 |nilc (x:Operand)
 |bin (op:BinOp) (x y:Operand)
 |eqs (neg:Bool) (ds:List TypeDesc) (x y:Operand)
 |isnil (neg:Bool) (x:Operand)
 |eqb (neg:Bool) (x y:Operand)
 |not (x:Operand)
 |conv (k:IntKind) (x:Operand)
 |mksl (ty:TypeId) (sz bytes:Nat) (z:List Value) (l c:Operand)
 |slc (sz:Nat) (x:Operand) (lo hi mx:Option Operand)
 |fad (off:Nat) (x:Operand)
 |fld (off sz:Nat) (ag:Bool) (x:Operand)
 |iad (sz:Nat) (x i:Operand)
 |iada (n sz:Nat) (x i:Operand)
 |idx (n sz:Nat) (ag:Bool) (x i:Operand)
 |ext (x:Operand) (i:Nat)
 |len (x:Operand)
 |lens (x:Operand)
 |lenm (x:Operand)
 |max (x y:Operand)
 |min (x y:Operand)
 |sidx (x i:Operand)
 |app (ty:TypeId) (sz bytes:Nat) (s x:Operand)
 |copy (sz:Nat) (d x:Operand)
 |clr (sz:Nat) (z:List Value) (x:Operand)
 |mkf (f:FuncId) (caps:List Operand)
 |mkm
 |lku (str ok:Bool) (z:Value) (x k:Operand)
 |mup (str:Bool) (x k v:Operand)
 |rng (x:Operand)
 |nxt (x:Operand)
 |bad
inductive SI where
 |op (s:Zp)
 |call (f:FuncId) (args:List Operand)
 |callv (x:Operand) (args:List Operand)
def X_ (t:Nat):List Nat->Bool
 |[]=>aj
 |x::r=>aC x t||X_ t r
def Ky:List Value->Bool
 |[]=>ai
 |v::r=>v.oneCell'&&Ky r
def Fi:Value->AV
 |.agg vs=>if Ky vs.toList then .agg (vs.toList.map λv=>.f (.raw v)) else .f (.raw (.agg vs))
 |v=>.f (.raw v)
def mG (e:zY):Operand->Option AV
 |.tmp t=>e.get t
 |.const v=>af (Fi v)
 |.func g=>af (.clo g [])
 |.global g=>match G g with|some cells=>af (.f (.ptr cells 0))|none=>ah
def Xl (e:zY):List Operand->Option (List AV)
 |[]=>af []
 |x::xs=>match mG e x with|some y=>(match Xl e xs with|some I=>af (y::I)|none=>ah)|none=>ah
structure Cg where
 val:AV
 rd:List Nat
 wr:List Nat
 nw:NW
 N:List Nat
def Cg.eff (r:Cg):Bx:=⟨r.val,r.rd,r.wr,jf r.nw,r.N⟩
def rv (x:AV):Option Cg:=af ⟨x,[],[],[],[]⟩
def raw (v:Value):AV:=.f (.raw v)
def pkV (ok:Bool) (v:AV) (b:Bool):AV:=match ok with|true=>.tup [v,raw (.bool b)]|false=>v
def xW:List AV->Option (List FV)
 |[]=>af []
 |.f x::r=>match xW r with|some l=>af (x::l)|none=>ah
 |_::_=>ah
def pq (l:List AV):BC:=match xW l with|some fs=>.fz fs|none=>.mx l
def ML (l:List AV):AV:=match xW l with|some fs=>.f (.agg fs)|none=>.agg l
def splice {α:Type} (l:List α) (off:Nat) (vs:List α):List α:=l.take off++vs++l.drop (off+vs.length)
def BC.toMx:BC->List AV
 |.fz l=>l.map .f
 |.mx l=>l
 |_=>[]
def gJ:List AV->Bool
 |[]=>ai
 |x::r=>x.isCell&&gJ r
def BC.put (c:BC) (off:Nat) (vs:List AV):Option BC:=
 if c.isCells&&eM (off+vs.length) c.len&&gJ vs then
  match c,xW vs with
  |.fz l,af I=>af (.fz (splice l off I))
  |c,_=>af (.mx (splice c.toMx off vs))
 else ah
def BC.sub? (c:BC) (off sz:Nat):Bool->Option AV
 |false=>match sz with|1=>c.get off|_=>ah
 |true=>match c with
  |.fz l=>if eM (off+sz) l.length then af (.f (.agg ((l.drop off).take sz))) else ah
  |.mx l=>if eM (off+sz) l.length then af (.agg ((l.drop off).take sz)) else ah
  |_=>ah
def AV.cs:AV->List AV
 |.agg l=>l
 |.f (.agg l)=>l.map .f
 |x=>[x]
def DZ (h:n_) (sz:Nat) (ag:Bool):AV->Option Cg
 |.ptr id off=>match h.get id with
  |some b=>(match b.c.sub? off sz ag with|some v=>af ⟨v,[id],[],[],[]⟩|none=>ah)
  |none=>ah
 |.f (.ptr cells off)=>(match (BC.fz cells).sub? off sz ag with|some v=>rv v|none=>ah)
 |_=>ah
def KH (h:n_) (sz:Nat) (v:AV):AV->Option Cg
 |.ptr id off=>match h.get id with
  |some b=>if v.cs.length==sz then (match b.c.put off v.cs with|some c=>af ⟨raw undef,[id],[id],[(id,⟨b.ty,c⟩)],[]⟩|none=>ah) else ah
  |none=>ah
 |_=>ah
def zA (cells:List AV) (e:zY):List (Nat×Nat×Operand)->Option (List AV)
 |[]=>af cells
 |(off,sz,x)::r=>match mG e x with
  |some v=>if v.cs.length==sz&&eM (off+sz) cells.length&&gJ v.cs then zA (splice cells off v.cs) e r else ah
  |none=>ah
def c7 (a b:Int):Bool:=decide (a<=b)
def fQ (a b:Int):Bool:=decide (a<b)
def Mt (k:IntKind) (n:Int):Int:=
 match k with
 |.i64=>if c7 (-9223372036854775808) n&&c7 n 9223372036854775807 then n else kJ .i64 n
 |.u8=>if c7 0 n&&c7 n 255 then n else kJ .u8 n
 |k=>kJ k n
def nok:Int->Bool
 |.ofNat k=>aC k k
 |.negSucc k=>aC k k
theorem am0 (n:Int):nok n=ai:=by cases n<;>exact rS _
def bc (k:IntKind) (n:Int):Int:=bif nok n then Mt k n else 0
theorem Cq (k:IntKind) (n:Int):bc k n=Mt k n:=by unfold bc;rw[am0];rfl
def r_ (a b:ByteArray):Bool:=a.data.toList==b.data.toList
def uR (op:BinOp):Value->Value->Option Value
 |.int k a,.int k' b=>if k==k' then
   match op with
   |.add=>af (.int k (bc k (a+b)))
   |.sub=>af (.int k (bc k (a-b)))
   |.mul=>af (.int k (bc k (a*b)))
   |.rem=>if b==0 then ah else af (.int k (a.tmod b))
   |.quo=>if b==0 then ah else af (.int k (bc k (a.tdiv b)))
   |.eql=>af (.bool (a==b))
   |.neq=>af (.bool (a !=b))
   |.lss=>af (.bool (fQ a b))
   |.leq=>af (.bool (c7 a b))
   |.gtr=>af (.bool (fQ b a))
   |.geq=>af (.bool (c7 b a))
   |_=>ah
  else ah
 |.string a,.string b=>match op with
   |.eql=>af (.bool (r_ a b))
   |.neq=>af (.bool !(r_ a b))
   |_=>ah
 |_,_=>ah
def xM:TypeDesc->FV->FV->Option Bool
 |.int _,.raw (.int k a),.raw (.int k' b)=>if k==k' then af (a==b) else ah
 |.bool,.raw (.bool a),.raw (.bool b)=>af (a==b)
 |.string,.raw (.string a),.raw (.string b)=>af (r_ a b)
 |_,_,_=>ah
def o7:List TypeDesc->List FV->List FV->Option Bool
 |[],[],[]=>af ai
 |d::ds,x::xs,y::I=>match xM d x y with
  |some ai=>o7 ds xs I
  |some aj=>af aj
  |none=>ah
 |_,_,_=>ah
def AV.row? (h:n_) (sz:Nat):AV->Option (List AV×Nat×List Nat)
 |.f (.sl cells n)=>if eM (n*sz) cells.length then af ((cells.take (n*sz)).map .f,n,[]) else ah
 |.f (.raw (.slice ah 0 0))=>af ([],0,[])
 |.emp=>af ([],0,[])
 |.row id sz' n=>if sz'==sz then (match h.get id with|some b=>if b.c.isCells&&eM (n*sz) b.c.len then af (b.c.toMx.take (n*sz),n,[id]) else ah|none=>ah) else ah
 |.sl id off n=>match h.get id with|some b=>if b.c.isCells&&eM (off+n*sz) b.c.len then af ((b.c.toMx.drop off).take (n*sz),n,[id]) else ah|none=>ah
 |_=>ah
def AV.slen:AV->Option Nat
 |.f (.sl _ n)=>af n
 |.f (.raw (.slice _ n _))=>af n
 |.emp=>af 0
 |.row _ _ n=>af n
 |.sl _ _ n=>af n
 |_=>ah
def a_ (n bytes:Nat):Bool:=eM n 1099511627776&&eM (n*bytes) 1099511627776
def repl (z:List Value):Nat->List FV
 |0=>[]
 |n+1=>z.map .raw++repl z n
def Aj:Value->Bool
 |.slice ah 0 0=>ai
 |_=>aj
def IV:AV->Bool
 |.emp=>ai
 |.f (.raw v)=>Aj v
 |_=>aj
def tF (k:Value):List (Value×AV)->Option (Option AV)
 |[]=>af ah
 |(k',v)::r=>match uR .eql k k' with
  |some (.bool ai)=>af (af v)
  |some (.bool aj)=>tF k r
  |_=>ah
def za (k:Value) (v:AV):List (Value×AV)->Option (List (Value×AV))
 |[]=>af [(k,v)]
 |(k',I)::r=>match uR .eql k k' with
  |some (.bool ai)=>af ((k,v)::r)
  |some (.bool aj)=>(match za k v r with|some J=>af ((k',I)::J)|none=>ah)
  |_=>ah
def ze:Bool->Value->Bool
 |false,.int _ _=>ai
 |true,.string _=>ai
 |_,_=>aj
def eS (s:Zp) (e:zY) (h:n_) (nx:Nat):Option Cg:=
 match s with
 |.mv x=>match mG e x with|some v=>rv v|none=>ah
 |.pick c a b=>match mG e c with
  |some (.f (.raw (.bool t)))=>(match mG e (if t then a else b) with|some v=>rv v|none=>ah)
  |_=>ah
 |.alloc ty z=>af ⟨.ptr nx 0,[],[nx],[(nx,⟨ty,.fz (z.map .raw)⟩)],[nx]⟩
 |.box ty x=>match mG e x with
  |some v=>if gJ v.cs then af ⟨.ptr nx 0,[],[nx],[(nx,⟨ty,pq v.cs⟩)],[nx]⟩ else ah
  |none=>ah
 |.build z parts=>match zA (z.map raw) e parts with|some cs=>rv (ML cs)|none=>ah
 |.bsl ty sz len z parts=>match zA ((repl z len).map .f) e parts with
  |some cs=>af ⟨if len=0 then .emp else .row nx sz len,[],[nx],[(nx,⟨ty,pq cs⟩)],[nx]⟩
  |none=>ah
 |.load sz ag x=>match mG e x with|some p=>DZ h sz ag p|none=>ah
 |.store sz x v=>match mG e x,mG e v with|some p,af y=>KH h sz y p|_,_=>ah
 |.nilc x=>match mG e x with
  |some (.ptr id off)=>rv (.ptr id off)
  |some (.f (.ptr cells off))=>rv (.f (.ptr cells off))
  |some (.clo g cap)=>rv (.clo g cap)
  |_=>ah
 |.bin op x y=>match mG e x,mG e y with
  |some (.f (.raw u)),af (.f (.raw v))=>(match uR op u v with|some r=>rv (raw r)|none=>ah)
  |_,_=>ah
 |.eqs neg ds x y=>match mG e x,mG e y with
  |some (.f (.agg a)),af (.f (.agg b))=>(match o7 ds a b with|some r=>rv (raw (.bool (r !=neg)))|none=>ah)
  |_,_=>ah
 |.eqb neg x y=>match mG e x,mG e y with
  |some (.f (.raw (.bool a))),af (.f (.raw (.bool b)))=>rv (raw (.bool ((a==b) !=neg)))
  |_,_=>ah
 |.isnil neg x=>match mG e x with
  |some (.row _ _ _)=>rv (raw (.bool neg))
  |some (.sl _ _ _)=>rv (raw (.bool neg))
  |some (.f (.sl _ (_+1)))=>rv (raw (.bool neg))
  |some (.f (.sl _ 0))=>rv .anyb
  |some .emp=>rv .anyb
  |some (.f (.raw v))=>if Aj v then rv (raw (.bool !neg)) else ah
  |_=>ah
 |.not x=>match mG e x with|some (.f (.raw (.bool b)))=>rv (raw (.bool !b))|_=>ah
 |.conv k x=>match mG e x with|some (.f (.raw (.int _ n)))=>rv (raw (.int k (bc k n)))|_=>ah
 |.mksl ty sz bytes z l c=>match mG e l,mG e c with
  |some (.f (.raw (.int _ a))),af (.f (.raw (.int _ b)))=>
   if c7 0 a&&c7 a b&&a_ b.toNat bytes then af ⟨.row nx sz a.toNat,[],[nx],[(nx,⟨ty,.fz (repl z a.toNat)⟩)],[nx]⟩ else ah
  |_,_=>ah
 |.slc sz x lo hi mx=>match mG e x with
  |some v=>match lo,hi,mx with
   |none,af (.const (.int _ 0)),af (.const (.int _ 0))=>if v.slen.isSome then rv .emp else ah
   |none,af b,ah=>match v,mG e b with
    |.row id sz' n,af (.f (.raw (.int _ j)))=>if sz'==sz&&c7 0 j&&c7 j n then (match h.get id with
     |some blk=>if blk.c.isCells&&eM (n*sz) blk.c.len then af ⟨.row nx sz j.toNat,[id],[nx,id],[(nx,⟨blk.ty,pq (blk.c.toMx.take (j.toNat*sz))⟩)],[nx]⟩ else ah
     |none=>ah) else ah
    |.f (.sl cells n),af (.f (.raw (.int _ j)))=>if c7 0 j&&c7 j n&&eM (n*sz) cells.length then rv (.f (.sl (cells.take (j.toNat*sz)) j.toNat)) else ah
    |_,_=>ah
   |some b,ah,ah=>match v,mG e b with
    |.row id sz' n,af (.f (.raw (.int _ j)))=>if sz'==sz&&c7 0 j&&fQ j n then rv (.sl id (j.toNat*sz) (n-j.toNat)) else ah
    |.f (.sl cells n),af (.f (.raw (.int _ j)))=>if c7 0 j&&c7 j n&&eM (n*sz) cells.length then rv (.f (.sl ((cells.drop (j.toNat*sz)).take ((n-j.toNat)*sz)) (n-j.toNat))) else ah
    |_,_=>ah
   |_,_,_=>ah
  |none=>ah
 |.fad off x=>match mG e x with
  |some (.ptr id o)=>rv (.ptr id (o+off))
  |some (.f (.ptr cells o))=>rv (.f (.ptr cells (o+off)))
  |_=>ah
 |.fld off sz ag x=>match mG e x with
  |some (.agg l)=>(match (BC.mx l).sub? off sz ag with|some v=>rv v|none=>ah)
  |some (.f (.agg l))=>(match (BC.fz l).sub? off sz ag with|some v=>rv v|none=>ah)
  |_=>ah
 |.iad sz x i=>match mG e x,mG e i with
  |some v,af (.f (.raw (.int _ j)))=>match v with
   |.row id sz' n=>if sz'==sz&&c7 0 j&&fQ j n then rv (.ptr id (j.toNat*sz)) else ah
   |.sl id off n=>if c7 0 j&&fQ j n then rv (.ptr id (off+j.toNat*sz)) else ah
   |.f (.sl cells n)=>if c7 0 j&&fQ j n then rv (.f (.ptr cells (j.toNat*sz))) else ah
   |_=>ah
  |_,_=>ah
 |.iada n sz x i=>match mG e x,mG e i with
  |some v,af (.f (.raw (.int _ j)))=>if c7 0 j&&fQ j n then (match v with
   |.ptr id off=>rv (.ptr id (off+j.toNat*sz))
   |.f (.ptr cells off)=>rv (.f (.ptr cells (off+j.toNat*sz)))
   |_=>ah) else ah
  |_,_=>ah
 |.idx n sz ag x i=>match mG e x,mG e i with
  |some v,af (.f (.raw (.int _ j)))=>if c7 0 j&&fQ j n then (match v with
   |.agg l=>(match (BC.mx l).sub? (j.toNat*sz) sz ag with|some v=>rv v|none=>ah)
   |.f (.agg l)=>(match (BC.fz l).sub? (j.toNat*sz) sz ag with|some v=>rv v|none=>ah)
   |_=>ah) else ah
  |_,_=>ah
 |.ext x i=>match mG e x with|some (.tup l)=>(match l[i]? with|some v=>rv v|none=>ah)|_=>ah
 |.len x=>match mG e x with
  |some v=>(match v.slen with|some n=>rv (raw (.int .i64 n))|none=>ah)
  |none=>ah
 |.lens x=>match mG e x with
  |some (.f (.raw (.string s)))=>rv (raw (.int .i64 s.data.toList.length))
  |_=>ah
 |.lenm x=>match mG e x with
  |some (.mp id)=>(match h.get id with|some ⟨_,.mp es⟩=>af ⟨raw (.int .i64 es.length),[id],[],[],[]⟩|_=>ah)
  |_=>ah
 |.max x y=>match mG e x,mG e y with
  |some (.f (.raw (.int k a))),af (.f (.raw (.int _ b)))=>rv (raw (.int k (if fQ a b then b else a)))
  |_,_=>ah
 |.min x y=>match mG e x,mG e y with
  |some (.f (.raw (.int k a))),af (.f (.raw (.int _ b)))=>rv (raw (.int k (if fQ b a then b else a)))
  |_,_=>ah
 |.sidx x i=>match mG e x,mG e i with
  |some (.f (.raw (.string s))),af (.f (.raw (.int _ j)))=>if c7 0 j then (match s.data.toList[j.toNat]? with|some b=>rv (raw (.int .u8 b.toNat))|none=>ah) else ah
  |_,_=>ah
 |.app ty sz bytes s x=>match mG e s,mG e x with
  |some b,af y=>match y.row? h sz with
   |some (src,m,rd)=>match b with
    |.row id sz' n=>match h.get id with
     |some blk=>if sz'==sz&& !(X_ id rd)&&blk.c.isCells&&eM (n*sz) blk.c.len&&blk.ty==ty&&a_ (n+m) bytes then
       af ⟨.row nx sz (n+m),id::rd,[nx,id],[(nx,⟨ty,pq (blk.c.toMx.take (n*sz)++src)⟩)],[nx]⟩ else ah
     |none=>ah
    |b=>if IV b&&a_ m bytes then
      (if m==0 then af ⟨b,rd,[],[],[]⟩ else af ⟨.row nx sz m,rd,[nx],[(nx,⟨ty,pq src⟩)],[nx]⟩) else ah
   |none=>ah
  |_,_=>ah
 |.copy sz d x=>match mG e d,mG e x with
  |some (.row id sz' n),af y=>(match h.get id,y.row? h sz with
   |some blk,af (src,m,rd)=>if sz'==sz&& !(X_ id rd)&&eM (n*sz) blk.c.len then
     (match blk.c.put 0 (src.take (iS m n*sz)) with
     |some c=>af ⟨raw (.int .i64 (iS m n)),id::rd,[id],[(id,⟨blk.ty,c⟩)],[]⟩
     |none=>ah) else ah
   |_,_=>ah)
  |_,_=>ah
 |.clr _ z x=>match mG e x with
  |some (.sl id off n)=>(match h.get id with
   |some blk=>if gp 0 n then (match blk.c.put off ((repl z n).map .f) with
    |some c=>af ⟨.tup [],[id],[id],[(id,⟨blk.ty,c⟩)],[]⟩
    |none=>ah) else ah
   |none=>ah)
  |_=>ah
 |.mkf f caps=>match Xl e caps with|some l=>rv (.clo f l)|none=>ah
 |.mkm=>af ⟨.mp nx,[],[nx],[(nx,⟨0,.mp []⟩)],[nx]⟩
 |.lku str ok z x k=>match mG e x,mG e k with
  |some (.mp id),af (.f (.raw key))=>(match h.get id with
   |some ⟨_,.mp es⟩=>if ze str key then (match tF key es with|some (af v)=>af ⟨pkV ok v ai,[id],[],[],[]⟩|some ah=>af ⟨pkV ok (raw z) aj,[id],[],[],[]⟩|none=>ah) else ah
   |_=>ah)
  |_,_=>ah
 |.mup str x k v=>match mG e x,mG e k,mG e v with
  |some (.mp id),af (.f (.raw key)),af y=>(match h.get id with
   |some ⟨ty,.mp es⟩=>if ze str key then (match za key y es with|some es'=>af ⟨raw undef,[id],[id],[(id,⟨ty,.mp es'⟩)],[]⟩|none=>ah) else ah
   |_=>ah)
  |_,_,_=>ah
 |.rng x=>match mG e x with
  |some (.f (.raw (.string s)))=>af ⟨.ptr nx 0,[],[nx],[(nx,⟨0,.it s 0⟩)],[nx]⟩
  |_=>ah
 |.nxt x=>match mG e x with
  |some (.ptr id 0)=>(match h.get id with
   |some ⟨ty,.it s p⟩=>(match s.data.toList[p]? with
    |some b=>if gp b.toNat 128 then af ⟨.tup [raw (.bool ai),raw (.int .i64 p),raw (.int .i32 b.toNat)],[id],[id],[(id,⟨ty,.it s (p+1)⟩)],[]⟩ else ah
    |none=>af ⟨.tup [raw (.bool aj)],[id],[id],[(id,⟨ty,.it s p⟩)],[]⟩)
   |_=>ah)
  |_=>ah
 |.bad=>ah
structure sL where
 dst:Option Nat
 op:SI
 guard:Option (Nat×Bool)
inductive SC where
 |skip
 |reg (ops:List sL) (prs:List (Nat×Nat))
 |seq (a b:SC)
 |cond (c:Nat) (a b:SC)
 |block (id:Nat) (b:SC)
 |loop (b:SC)
 |exit (id:Nat)
 |ret
 |defer (f:FuncId) (caps:List Operand) (t:Nat)
 |bad
structure aor where
 val:AV
 h:n_
 nx:Nat
 wr:Nat
abbrev XR:=FuncId->List AV->n_->Nat->Option aor
mutual
def AV.ids:AV->Nat->Nat
 |.ptr id _,acc=>acc|||(1<<<id)
 |.sl id _ _,acc=>acc|||(1<<<id)
 |.row id _ _,acc=>acc|||(1<<<id)
 |.mp id,acc=>acc|||(1<<<id)
 |.agg l,acc=>AV.idsL l acc
 |.tup l,acc=>AV.idsL l acc
 |.clo _ l,acc=>AV.idsL l acc
 |.f _,acc=>acc
 |.emp,acc=>acc
 |.anyb,acc=>acc
def AV.idsL:List AV->Nat->Nat
 |[],acc=>acc
 |x::r,acc=>AV.idsL r (AV.ids x acc)
end
mutual
def AV.all (p:Nat->Bool):AV->Bool
 |.ptr id _=>p id
 |.sl id _ _=>p id
 |.row id _ _=>p id
 |.mp id=>p id
 |.agg l=>AV.allL p l
 |.tup l=>AV.allL p l
 |.clo _ l=>AV.allL p l
 |.f _=>ai
 |.emp=>ai
 |.anyb=>ai
def AV.allL (p:Nat->Bool):List AV->Bool
 |[]=>ai
 |x::r=>AV.all p x&&AV.allL p r
end
def BC.ids:BC->Nat->Nat
 |.mx l,acc=>AV.idsL l acc
 |.mp es,acc=>AV.idsL (es.map (·.2)) acc
 |_,acc=>acc
def BC.all (p:Nat->Bool):BC->Bool
 |.mx l=>AV.allL p l
 |.mp es=>AV.allL p (es.map (·.2))
 |_=>ai
def n_.all (p:Nat->Bool) (h:n_):Bool:=PT.all (λi b=>p i&&b.c.all p) 1 0 h
def WF:Nat->n_->Nat->Nat->Nat
 |0,_,_,Ln=>Ln
 |n+1,h,todo,Ln=>
  if aC todo 0 then Ln else
  match Nat.log2 todo with
  |id=>if aN Ln id then WF n h (todo ^^^ (1<<<id)) Ln else
   match h.get id with
   |some b=>WF n h (b.c.ids (todo ^^^ (1<<<id))) (Ln|||(1<<<id))
   |none=>WF n h (todo ^^^ (1<<<id)) Ln
section force
variable {α:Type}
def sV (n:Nat) (k:Nat->α):α:=match n with|0=>k 0|m+1=>k (m+1)
def frcI (n:Int) (k:Int->α):α:=match n with|.ofNat m=>sV m λm=>k (.ofNat m)|.negSucc m=>sV m λm=>k (.negSucc m)
def frcB (b:Bool) (k:Bool->α):α:=match b with|true=>k ai|false=>k aj
def frcV (v:Value) (k:Value->α):α:=match v with
 |.int kd n=>frcI n λn=>k (.int kd n)
 |.bool b=>frcB b λb=>k (.bool b)
 |v=>k v
def am8 (x:FV) (k:FV->α):α:=match x with
 |.raw v=>frcV v λv=>k (.raw v)
 |.ptr cells off=>sV off λoff=>k (.ptr cells off)
 |.sl cells n=>sV n λn=>k (.sl cells n)
 |.agg l=>k (.agg l)
def abm:List FV->(List FV->α)->α
 |[],k=>k []
 |x::r,k=>am8 x λx=>abm r λr=>k (x::r)
def am7 (x:FV) (k:FV->α):α:=match x with
 |.agg l=>abm l λl=>k (.agg l)
 |x=>am8 x k
def ahf (x:AV) (k:AV->α):α:=match x with
 |.f x=>am7 x λx=>k (.f x)
 |.ptr id off=>sV id λid=>sV off λoff=>k (.ptr id off)
 |.sl id off n=>sV id λid=>sV off λoff=>sV n λn=>k (.sl id off n)
 |.row id sz n=>sV id λid=>sV sz λsz=>sV n λn=>k (.row id sz n)
 |.mp id=>sV id λid=>k (.mp id)
 |x=>k x
def Ro:List AV->(List AV->α)->α
 |[],k=>k []
 |x::r,k=>ahf x λx=>Ro r λr=>k (x::r)
def am9 (x:AV) (k:AV->α):α:=match x with
 |.agg l=>Ro l λl=>k (.agg l)
 |.tup l=>Ro l λl=>k (.tup l)
 |.clo f l=>Ro l λl=>k (.clo f l)
 |x=>ahf x k
def frcC (c:BC) (k:BC->α):α:=match c with
 |.fz l=>abm l λl=>k (.fz l)
 |.mx l=>Ro l λl=>k (.mx l)
 |.it s p=>sV p λp=>k (.it s p)
 |.mp es=>k (.mp es)
def Rn {β:Type}:PT β->(PT β->α)->α
 |.leaf,k=>k .leaf
 |.node v l r,k=>(match v with
  |none=>λ(k:Option β->α)=>k ah
  |some x=>λk=>k (af x)) λv=>Rn l λl=>Rn r λr=>k (.node v l r)
def T5 {β:Type}:Nat->PT β->Nat->Option β->(PT β->α)->α
 |0,t,_,_,k=>k t
 |f+1,t,n,x,k=>match t with
  |.leaf=>(match n with
   |0=>k (.node x .leaf .leaf)
   |m+1=>if aC (m%2) 0 then sV (m/2) λq=>T5 f .leaf q x λu=>k (.node ah u .leaf) else sV (m/2) λq=>T5 f .leaf q x λu=>k (.node ah .leaf u))
  |.node v l r=>(match n with
   |0=>k (.node x l r)
   |m+1=>if aC (m%2) 0 then sV (m/2) λq=>T5 f l q x λu=>k (.node v u r) else sV (m/2) λq=>T5 f r q x λu=>k (.node v l u))
theorem ON {β:Type}:∀ (x:PT β) (k:PT β->α),Rn x k=k x
 |.leaf,_=>rfl
 |.node v l r,k=>by cases v<;>simp only[Rn,ON l,ON r]
end force
structure IS where
 e:zY
 h:n_
 nx:Nat
 wr:Nat
structure ahz where
 val:AV
 rd:Nat
 wr:Nat
 h:n_
 nx:Nat
def bits:List Nat->Nat->Nat
 |[],acc=>acc
 |x::r,acc=>bits r (acc|||(1<<<x))
def aid {α:Type} (h:n_) (nw:NW):List Nat->(n_->α)->α
 |[],k=>k h
 |i::r,k=>match jf nw i with
  |none=>T5 (i+1) h i ah λh=>aid h nw r k
  |some ⟨ty,c⟩=>frcC c λc=>T5 (i+1) h i (af ⟨ty,c⟩) λh=>aid h nw r k
def ahm (call:XR) (f:FuncId) (args:List AV) (h:n_) (nx:Nat):Option ahz:=
 sV (WF 1000000 h (AV.idsL args 0) 0) λids=>Rn (PT.only ids 1 0 h) λhc=>
 if AV.allL (gp · nx) args&&n_.all (gp · nx) hc then
  match call f args hc nx with
  |some ⟨val,h',nx',wr⟩=>am9 val λval=>sV nx' λnx'=>sV wr λwr=>Rn (PT.merge wr 1 0 h h') λhm=>af ⟨val,ids,wr,hm,nx'⟩
  |none=>ah
 else ah
def opA (call:XR) (o:SI) (e:zY) (h:n_) (nx:Nat):Option ahz:=
 match o with
 |.call f args=>match Xl e args with|some l=>ahm call f l h nx|none=>ah
 |.callv x args=>match mG e x,Xl e args with|some (.clo f cap),af l=>ahm call f (l++cap) h nx|_,_=>ah
 |.op o=>match eS o e h nx with
  |some ⟨val,rd,wr,nw,N⟩=>am9 val λval=>sV (bits rd 0) λrd=>sV (bits wr 0) λI=>sV (nx+N.length) λnx'=>aid h nw wr λh=>af ⟨val,rd,I,h,nx'⟩
  |none=>ah
def als (e:zY):Option (Nat×Bool)->Option Bool
 |none=>af ai
 |some (t,want)=>match e.get t with
  |some (.f (.raw (.bool b)))=>af (b==want)
  |some (.f (.raw (.tuple _)))=>af aj
  |_=>ah
def ail {α:Type} (e:zY) (dst:Option Nat) (v:AV) (k:zY->α):α:=match dst with
 |none=>k e
 |some d=>T5 (d+1) e d (af v) k
structure FPm where
 rd:Nat
 wr:Nat
def T9 (call:XR):List sL->IS->Option (IS×List FPm)
 |[],s=>af (s,[])
 |o::r,⟨e,h,nx,wr⟩=>
  match als e o.guard with
  |some ai=>(match opA call o.op e h nx with
   |some ⟨val,rd,w,h',nx'⟩=>ail e o.dst val λe'=>sV (wr|||w) λwr'=>(match T9 call r ⟨e',h',nx',wr'⟩ with
    |some (s',fs)=>af (s',⟨rd,w⟩::fs)
    |none=>ah)
   |none=>ah)
  |some aj=>ail e o.dst (raw undef) λe'=>(match T9 call r ⟨e',h,nx,wr⟩ with
   |some (s',fs)=>af (s',⟨0,0⟩::fs)
   |none=>ah)
  |none=>ah
def YB:List FPm->Nat->Option FPm
 |[],_=>ah
 |f::_,0=>af f
 |_::r,n+1=>YB r n
def DI (a b:Nat):Bool:=aC (a&&&b) 0
def FE (fs:List FPm):List (Nat×Nat)->Bool
 |[]=>ai
 |(i,j)::r=>(match YB fs i,YB fs j with
  |some a,af b=>DI a.wr b.rd&&DI a.wr b.wr&&DI b.wr a.rd
  |_,_=>aj)&&FE fs r
inductive Ex where
 |normal
 |exit (id:Nat)
 |ret
def ahc (body:IS->Option (Ex×IS)) (e0:zY):Nat->IS->Option (Ex×IS)
 |0,_=>ah
 |n+1,s=>match body s with
  |some (.normal,⟨e,h,nx,wr⟩)=>Rn (PT.mask e e0) λe=>ahc body e0 n ⟨e,h,nx,wr⟩
  |r=>r
def run (call:XR) (inert:FuncId->Bool) (fuel:Nat):SC->IS->Option (Ex×IS)
 |.skip,s=>af (.normal,s)
 |.reg ops prs,s=>match T9 call ops s with
  |some (s',fs)=>if FE fs prs then af (.normal,s') else ah
  |none=>ah
 |.seq a b,s=>match run call inert fuel a s with
  |some (.normal,s')=>run call inert fuel b s'
  |r=>r
 |.cond c a b,s=>match s.e.get c with
  |some (.f (.raw (.bool ai)))=>run call inert fuel a s
  |some (.f (.raw (.bool aj)))=>run call inert fuel b s
  |_=>ah
 |.block id b,s=>match run call inert fuel b s with
  |some (.exit i,s')=>if aC i id then af (.normal,s') else af (.exit i,s')
  |r=>r
 |.loop b,s=>ahc (run call inert fuel b) s.e fuel s
 |.exit id,s=>af (.exit id,s)
 |.ret,s=>af (.ret,s)
 |.defer f caps t,⟨e,h,nx,wr⟩=>match Xl e caps with
  |some l=>if inert f then ail e (af t) (.clo f l) λe'=>af (.normal,⟨e',h,nx,wr⟩) else ah
  |none=>ah
 |.bad,_=>ah
inductive RV where
 |tmp (t:Nat)
 |cell (a:Nat) (sz:Nat) (ag:Bool)
structure SF where
 code:SC
 res:List RV
 nt:Nat
def Ef:List AV->AV
 |[x]=>x
 |l=>.tup l
def ajb:Value->Value->Bool
 |.bool a,.bool b=>a==b
 |.int k a,.int k' b=>k==k'&&a==b
 |.string a,.string b=>r_ a b
 |.slice ah n c,.slice ah I c'=>aC n I&&aC c c'
 |.pointer ah,.pointer ah=>ai
 |.tuple a,.tuple b=>a.isEmpty&&b.isEmpty
 |_,_=>aj
def fx (P:Program) (t:TypeId):Option Nat:=(P.info? t).map (·.size)
def Fn (P:Program) (t:TypeId):Option Nat:=(P.info? t).map (·.bytes)
def s6 (P:Program) (t:TypeId):Option (List Value):=((P.info? t).bind (·.zero)).map (·.cells.toList)
def D2 (P:Program) (t:TypeId):Option Bool:=(P.underlying t).map λ|.struct _=>ai|.array _ _=>ai|_=>aj
def AX (P:Program) (t:TypeId):Option TypeId:=match P.underlying t with|some (.slice e)=>af e|_=>ah
def BG (P:Program) (t:TypeId) (i:Nat):Option (Nat×Nat):=match P.underlying t with
 |some (.struct fs)=>(fs[i]?).bind λf=>(fx P f.type).map (f.offset,·)
 |some (.array _ el)=>(fx P el).map λs=>(i*s,s)
 |some (.slice el)=>(fx P el).map λs=>(i*s,s)
 |_=>ah
def xr (P:Program) (t:TypeId):List (Nat×Operand)->Option (List (Nat×Nat×Operand))
 |[]=>af []
 |(i,x)::r=>match BG P t i,xr P t r with|some (o,s),af l=>af ((o,s,x)::l)|_,_=>ah
def mE (z:List Value):Bool:=z.all λv=>v.oneCell'
def Is:TypeDesc->Bool
 |.int _=>ai
 |.bool=>ai
 |.string=>ai
 |_=>aj
def rV (P:Program):Nat→List Field→Option (List TypeDesc)
 |_,[]=>af []
 |k,f::r=>match P.underlying f.type,rV P (k+1) r with
  |some d,af ds=>if f.name != "_" &&f.offset==k&&Is d then af (d::ds) else ah
  |_,_=>ah
def aag (P:Program) (t:TypeId):Option (List TypeDesc):=match P.underlying t with
 |some (.struct fs)=>if P.stoodInHeld t then ah else rV P 0 fs.toList
 |_=>ah
def Sv (P:Program) (c:Call):Option Zp:=
 match c.callee with
 |.builtin .len=>(match c.args.toList,c.argTypes.toList with
  |[x],[t]=>(match P.underlying t with
   |some (.slice _)=>af (.len x)
   |some .string=>af (.lens x)
   |some (.map _ _)=>af (.lenm x)
   |_=>ah)
  |_,_=>ah)
 |.builtin .max=>(match c.args.toList with
  |[x,y]=>af (.max x y)
  |_=>ah)
 |.builtin .min=>(match c.args.toList with
  |[x,y]=>af (.min x y)
  |_=>ah)
 |.builtin .copy=>(match c.args.toList,c.argTypes.toList with
  |[d,x],[t,u]=>(match AX P t,AX P u with
   |some el,af _=>(fx P el).bind λsz=>if sz !=0 then af (.copy sz d x) else ah
   |_,_=>ah)
  |_,_=>ah)
 |.builtin .clear=>(match c.args.toList,c.argTypes.toList with
  |[x],[t]=>(AX P t).bind λel=>(s6 P el).bind λz=>(fx P el).bind λsz=>if mE z&&z.length==sz&&sz !=0 then af (.clr sz z x) else ah
  |_,_=>ah)
 |.builtin .append=>(match c.args.toList,c.argTypes.toList with
  |[s,x],[t,u]=>(match AX P t,AX P u with
   |some el,af _=>(fx P el).bind λsz=>(Fn P el).bind λb=>(s6 P el).bind λz=>if sz !=0&&z.length==sz then af (.app el sz b s x) else ah
   |_,_=>ah)
  |_,_=>ah)
 |_=>ah
def du (P:Program):Op->Option Zp
 |.move x=>af (.mv x)
 |.assign x=>af (.mv x)
 |.pick c a b=>af (.pick c a b)
 |.alloc t=>(s6 P t).bind λz=>if mE z then af (.alloc t z) else ah
 |.box t x=>af (.box t x)
 |.build t ps=>match P.underlying t with
  |some (.struct fs)=>(s6 P t).bind λz=>if mE z&&(fs.toList.all λf=>(fx P f.type).isSome) then (xr P t ps.toList).map (.build z) else ah
  |some (.array _ el)=>(s6 P t).bind λz=>if mE z&&(fx P el).isSome then (xr P t ps.toList).map (.build z) else ah
  |_=>ah
 |.buildSlice t n ps=>(AX P t).bind λel=>(s6 P el).bind λz=>(fx P el).bind λsz=>if mE z&&z.length==sz&&eM (n*sz) 65536&&sz !=0 then (xr P t ps.toList).map (.bsl el sz n z) else ah
 |.load t x=>(fx P t).bind λsz=>(D2 P t).map λag=>.load sz ag x
 |.store t x v=>(fx P t).map λsz=>.store sz x v
 |.nilCheck x=>af (.nilc x)
 |.binOp op t x y _=>match P.underlying t with
  |some (.int _)|some .string=>af (.bin op x y)
  |some .bool=>(match op with|.eql=>af (.eqb aj x y)|.neq=>af (.eqb ai x y)|_=>ah)
  |some (.slice _)=>(match op,y with
   |.eql,.const (.slice ah 0 0)=>af (.isnil aj x)
   |.neq,.const (.slice ah 0 0)=>af (.isnil ai x)
   |_,_=>ah)
  |some (.struct _)=>(aag P t).bind λds=>(match op with|.eql=>af (.eqs aj ds x y)|.neq=>af (.eqs ai ds x y)|_=>ah)
  |_=>ah
 |.unOp .not _ x=>af (.not x)
 |.unOp .neg t x=>match P.underlying t with|some (.int k)=>af (.bin .sub (.const (.int k 0)) x)|_=>ah
 |.convert s d x=>match P.underlying s,P.underlying d with|some (.int _),af (.int k)=>af (.conv k x)|_,_=>ah
 |.makeSlice t l c=>(AX P t).bind λel=>(s6 P el).bind λz=>(fx P el).bind λsz=>(Fn P el).bind λb=>if mE z&&z.length==sz&&sz !=0 then af (.mksl el sz b z l c) else ah
 |.slice t x lo hi mx=>(AX P t).bind λel=>(fx P el).map λsz=>.slc sz x lo hi mx
 |.fieldAddr t x k=>match P.underlying t with
  |some (.struct fs)=>(fs[k]?).bind λf=>(fx P f.type).bind λsz=>if sz !=0 then af (.fad f.offset x) else ah
  |_=>ah
 |.field t x k=>match P.underlying t with
  |some (.struct fs)=>(fs[k]?).bind λf=>(fx P f.type).bind λsz=>(D2 P f.type).map λag=>.fld f.offset sz ag x
  |_=>ah
 |.indexAddr t x i=>match P.underlying t with
  |some (.slice el)=>(fx P el).map λsz=>.iad sz x i
  |some (.array n el)=>(fx P el).map λsz=>.iada n sz x i
  |_=>ah
 |.index t x i=>match P.underlying t with
  |some (.array n el)=>(fx P el).bind λsz=>(D2 P el).map λag=>.idx n sz ag x i
  |some .string=>af (.sidx x i)
  |_=>ah
 |.extract x i=>af (.ext x i)
 |.makeFunc (.func f) first caps=>if first.isEmpty then af (.mkf f caps.toList) else ah
 |.makeMap t ah=>match P.underlying t with|some (.map _ _)=>af .mkm|_=>ah
 |.lookup t x k ok=>match P.underlying t with
  |some (.map I el)=>(match P.underlying I,(P.info? el).bind (·.zero) with
   |some (.int _),af z=>if z.oneCell' then af (.lku aj ok z x k) else ah
   |some .string,af z=>if z.oneCell' then af (.lku ai ok z x k) else ah
   |_,_=>ah)
  |_=>ah
 |.mapUpdate t m k v=>match P.underlying t with
  |some (.map I _)=>(match P.underlying I with
   |some (.int _)=>af (.mup aj m k v)
   |some .string=>af (.mup ai m k v)
   |_=>ah)
  |_=>ah
 |.range t x=>match P.underlying t with|some .string=>af (.rng x)|_=>ah
 |.next x ai=>af (.nxt x)
 |.call c=>Sv P c
 |_=>ah
def Po:Op->Option SI
 |.call c=>(match c.callee with
  |.value (.func f)=>af (.call f c.args.toList)
  |.value (.tmp t)=>af (.callv (.tmp t) c.args.toList)
  |_=>ah)
 |_=>ah
def yE (P:Program) (op:Op):SI:=match Po op with
 |some i=>i
 |none=>(match du P op with|some s=>.op s|none=>.op .bad)
def Zp.still:Zp->Bool
 |.mv _|.pick _ _ _|.build _ _|.nilc _|.bin _ _ _|.eqs _ _ _ _|.isnil _ _|.eqb _ _ _|.not _|.conv _ _|.fad _ _|.fld _ _ _ _|.iad _ _ _|.iada _ _ _ _|.idx _ _ _ _ _|.ext _ _|.max _ _|.min _ _|.sidx _ _|.mkf _ _|.bad=>ai
 |_=>aj
def SI.still:SI->Bool
 |.op s=>s.still
 |_=>aj
def r9 (P:Program) (ops:Array Oper):List Oper->Option (List sL)
 |[]=>af []
 |o::r=>match r9 P ops r with
  |some l=>(match o.guard with
   |none=>af (⟨o.dst,yE P o.op,ah⟩::l)
   |some (j,want)=>(match (ops[j]?).bind (·.dst) with
    |some t=>af (⟨o.dst,yE P o.op,af (t,want)⟩::l)
    |none=>ah))
  |none=>ah
def MG (ops:Array Oper) (l:List sL):Option (List (Nat×Nat)):=
 let B:=KC ops.toList []
 if (cS ops.size).all λj=>((ops[j]?).all λoj=>oj.after.toList.all λe=> !z_ .any e||decide (e.on<j))&&
     (cS j).all λi=>aN (B.getD j 0) i||(match ops[i]?,ops[j]? with|some oi,af oj=>oi.apart ops oj|_,_=>aj)
 then af ((cS ops.size).flatMap λj=>(cS j).filterMap λi=>
  if aN (B.getD j 0) i||(match l[i]?,l[j]? with|some a,af b=>a.op.still||b.op.still|_,_=>aj) then ah else af (i,j))
 else ah
def DK (ops:Array Oper) (I:Bool):Option (FuncId×List Operand×Nat):=match ops.toList,I with
 |[p,q],aj=>(match p.op,p.guard,p.dst,q.op,q.guard,q.dst with
  |.makeFunc (.func f) first caps,ah,af t,.defer c,ah,ah=>(match c.callee,c.args.toList with
   |.value (.tmp t'),[]=>if aC t t'&&first.isEmpty then af (f,caps.toList,t) else ah
   |_,_=>ah)
  |_,_,_,_,_,_=>ah)
 |_,_=>ah
def cr (P:Program) (nt:Nat):Code->SC
 |.skip=>.skip
 |.region _ ops I=>if ops.toList.all λo=>match o.dst with|some d=>decide (d<nt)|none=>ai then
   (match DK ops I with
   |some (f,caps,t)=>.defer f caps t
   |none=>(match r9 P ops ops.toList with
    |some l=>(match MG ops l with|some prs=>.reg l prs|none=>.bad)
    |none=>.bad)) else .bad
 |.seq a b=>.seq (cr P nt a) (cr P nt b)
 |.cond (.tmp c) a b=>.cond c (cr P nt a) (cr P nt b)
 |.cond (.const (.bool ai)) a _=>cr P nt a
 |.cond (.const (.bool aj)) _ b=>cr P nt b
 |.block id b=>.block id (cr P nt b)
 |.loop b=>.loop (cr P nt b)
 |.exit id=>.exit id
 |.ret=>.ret
 |_=>.bad
def vB (P:Program):List ResultVar->Option (List RV)
 |[]=>af []
 |.tmp t::r=>match vB P r with|some l=>af (.tmp t::l)|none=>ah
 |.cell a t::r=>match vB P r,fx P t,D2 P t with|some l,af sz,af ag=>af (.cell a sz ag::l)|_,_,_=>ah
def zP (P:Program) (f:FuncId):Option SF:=
 match P.funcs[f]? with
 |some fn=>if fn.name== "runtime.NumGoroutine" then ah else (match fn.body,vB P fn.results.toList with
  |some c,af r=>af ⟨cr P fn.ntmps c,r,fn.ntmps⟩
  |_,_=>ah)
 |none=>ah
inductive Xp where
 |mk (op n:Int) (name:List UInt8) (l:List Xp)
inductive Sx where
 |mk (op line:Int) (name arg:List UInt8) (index:List Xp) (expr:Xp) (body els:List Sx)
def Xp.op:Xp->Int|.mk a _ _ _=>a
def Xp.n:Xp->Int|.mk _ a _ _=>a
def Xp.name:Xp->List UInt8|.mk _ _ a _=>a
def Xp.l:Xp->List Xp|.mk _ _ _ a=>a
def Sx.op:Sx->Int|.mk a _ _ _ _ _ _ _=>a
def Sx.line:Sx->Int|.mk _ a _ _ _ _ _ _=>a
def Sx.name:Sx->List UInt8|.mk _ _ a _ _ _ _ _=>a
def Sx.arg:Sx->List UInt8|.mk _ _ _ a _ _ _ _=>a
def Sx.index:Sx->List Xp|.mk _ _ _ _ a _ _ _=>a
def Sx.expr:Sx->Xp|.mk _ _ _ _ _ a _ _=>a
def Sx.body:Sx->List Sx|.mk _ _ _ _ _ _ a _=>a
def Sx.els:Sx->List Sx|.mk _ _ _ _ _ _ _ a=>a
inductive Ty where
 |int (k:IntKind)
 |bool
 |str
 |sl (t:Ty)
 |st (t:Ty)
 |pr (a b:Ty)
 |un
 |ex
 |sm
 deriving DecidableEq
@[reducible] def Ty.den:Ty->Type
  |.int _=>Int
  |.bool=>Bool
  |.str=>List UInt8
  |.sl t=>List t.den
  |.st t=>t.den
  |.pr a b=>a.den×b.den
  |.un=>Unit
  |.ex=>Xp
  |.sm=>Sx
def Ty.size:Ty->Nat
 |.st t=>t.size
 |.pr a b=>a.size+b.size
 |.un=>0
 |.ex=>4
 |.sm=>11
 |_=>1
def Ty.zero:(t:Ty)->t.den
 |.int _=>(0:Int)
 |.bool=>aj
 |.str=>[]
 |.sl _=>[]
 |.st t=>t.zero
 |.pr a b=>(a.zero,b.zero)
 |.un=>()
 |.ex=>.mk 0 0 [] []
 |.sm=>.mk 0 0 [] [] [] (.mk 0 0 [] []) [] []
def Ty.one:Ty->Bool
 |.int _=>ai
 |.bool=>ai
 |.str=>ai
 |.sl _=>ai
 |_=>aj
def M2:Ty:=.pr (.int .i64) (.pr (.int .i64) (.pr .str (.sl .ex)))
def MA:Ty:=.pr (.int .i64) (.pr (.int .i64) (.pr .str (.pr .str (.pr (.sl .ex) (.pr .ex (.pr (.sl .sm) (.sl .sm)))))))
def NQ (e:Xp):M2.den:=(e.op,e.n,e.name,e.l)
def d_ (x:M2.den):Xp:=.mk x.1 x.2.1 x.2.2.1 x.2.2.2
def NP (e:Sx):MA.den:=(e.op,e.line,e.name,e.arg,e.index,e.expr,e.body,e.els)
def nN (x:MA.den):Sx:=.mk x.1 x.2.1 x.2.2.1 x.2.2.2.1 x.2.2.2.2.1 x.2.2.2.2.2.1 x.2.2.2.2.2.2.1 x.2.2.2.2.2.2.2
mutual
def wQ:Xp->List FV
 |.mk op n name l=>[.raw (.int .i64 op),.raw (.int .i64 n),.raw (.string ⟨name.toArray⟩),.sl (JE l) l.length]
def JE:List Xp->List FV
 |[]=>[]
 |x::r=>wQ x++JE r
end
mutual
def ym:Sx->List FV
 |.mk op line name arg index expr body els=>[.raw (.int .i64 op),.raw (.int .i64 line),.raw (.string ⟨name.toArray⟩),.raw (.string ⟨arg.toArray⟩),.sl (JE index) index.length]++wQ expr++[.sl (JD body) body.length,.sl (JD els) els.length]
def JD:List Sx->List FV
 |[]=>[]
 |x::r=>ym x++JD r
end
def bT:(T:Ty)->T.den->List FV
 |.int k,n=>[.raw (.int k n)]
 |.bool,b=>[.raw (.bool b)]
 |.str,s=>[.raw (.string ⟨s.toArray⟩)]
 |.sl t,xs=>[.sl (List.flatMap (bT t) xs) (al xs)]
 |.st t,v=>bT t v
 |.pr a b,v=>bT a v.1++bT b v.2
 |.un,_=>[]
 |.ex,v=>wQ v
 |.sm,v=>ym v
def gK:(T:Ty)->T.den->FV
 |.int k,n=>.raw (.int k n)
 |.bool,b=>.raw (.bool b)
 |.str,s=>.raw (.string ⟨s.toArray⟩)
 |.sl t,xs=>.sl (List.flatMap (bT t) xs) (al xs)
 |.st t,v=>.agg (bT t v)
 |.pr a b,v=>.agg (bT a v.1++bT b v.2)
 |.un,_=>.agg []
 |.ex,v=>.agg (wQ v)
 |.sm,v=>.agg (ym v)
def PP:(T:Ty)->T.den->T.den->Bool
 |.int _,a,b=>decide ((a:Int)=b)
 |.bool,a,b=>(a:Bool)==b
 |.str,a,b=>decide ((a:List UInt8)=b)
 |.st t,a,b=>PP t a b
 |.pr x y,a,b=>PP x a.1 b.1&&PP y a.2 b.2
 |_,_,_=>ai
def w7 {S:Ty} (T:Ty) (v:S.den):Option T.den:=if h:S=T then af (h▸v) else ah
def fe (j:Int) (n:Nat):Bool:=c7 0 j&&fQ j n
def aJ {T:Ty} (xs:List T.den) (j:Int):T.den:=xs.getD j.toNat T.zero
def cQ {α:Type} (xs:List α) (j:Int) (x:α):List α:=xs.set j.toNat x
def TI {α:Type} (xs I:List α):List α:=I.take xs.length++xs.drop I.length
def iD (a b:Int):Int:=if fQ a b then b else a
def G8 (a b:Int):Int:=if fQ b a then b else a
def Au (s:List UInt8) (j:Int):Int:=aO (s.getD j.toNat 0).toNat
def bcase {R:Type} (b:Bool) (t f:Option R):Option R:=match b with|true=>t|false=>f
def chk {R:Type} (b:Bool) (k:b=ai->Option R):Option R:=match b,k with|true,k=>k rfl|false,_=>ah
open Classical in
def Fo {R:Type} (a b:Option R):Option R:=if a=b then a else ah
open Classical in
def same {α R:Type} (a b:α) (r:Option R):Option R:=if a=b then r else ah
def obind {α R:Type} (o:Option α) (k:α->Option R):Option R:=match o with|some x=>k x|none=>ah
def lt {α R:Type} (x:α) (k:α->Option R):Option R:=k x
def jn {α R:Type} (o:Option (R⊕α)) (k:α->Option R):Option R:=match o with|some (.inr x)=>k x|some (.inl r)=>af r|none=>ah
def iterN {σ R:Type} (step:σ->Option (σ⊕R)):Nat->σ->Option R
 |0,_=>ah
 |n+1,x=>match step x with
  |some (.inl y)=>iterN step n y
  |some (.inr r)=>af r
  |none=>ah
open Classical in
def iter {σ R:Type} (step:σ->Option (σ⊕R)) (x:σ):Option R:=
 if h:∃ n,(iterN step n x).isSome=ai then iterN step (Classical.choose h) x else ah
def gh {σ R:Type} (step:σ->Option (σ⊕R)) (x:σ):Option R:=iterN step 18446744073709551616 x
abbrev yP:Type 1:=∀ σ R:Type,(σ->Option (σ⊕R))->σ->Option R
def lh {R:Type} (a b:Option R):Prop:=∀ y,a=af y->b=af y
theorem lh.rfl {R:Type} {a:Option R}:lh a a:=λ_ h=>h
theorem lh.bcase {R:Type} {b:Bool} {t f t' f':Option R} (h1:lh t t') (h2:lh f f'):lh (AI.bcase b t f) (AI.bcase b t' f'):=by cases b<;>assumption
theorem lh.chk {R:Type} {b:Bool} {k k':Option R} (h:lh k k'):lh (AI.chk b λ_=>k) (AI.chk b λ_=>k'):=by
 cases b with
 |true=>exact h
 |false=>exact λ_ h=>by cases h
theorem lh.obind {α R:Type} {o o':Option α} {k k':α->Option R} (h:lh o o') (hk:∀ x,lh (k x) (k' x)):lh (AI.obind o k) (AI.obind o' k'):=by
 intro y I;cases o with
 |none=>cases I
 |some x=>rw[h x (by exact Eq.refl _)];exact hk x y I
theorem lh.lt {α R:Type} {x:α} {k k':α->Option R} (h:∀ y,lh (k y) (k' y)):lh (AI.lt x k) (AI.lt x k'):=h x
theorem lh.jn {α R:Type} {o o':Option (R⊕α)} {k k':α->Option R} (h:lh o o') (hk:∀ x,lh (k x) (k' x)):lh (AI.jn o k) (AI.jn o' k'):=by
 intro y I;cases o with
 |none=>cases I
 |some x=>
  rw[h x (by exact Eq.refl _)];cases x with
  |inl r=>exact I
  |inr a=>exact hk a y I
theorem lh.iterN {σ R:Type} {f g:σ->Option (σ⊕R)} (h:∀ x,lh (f x) (g x)):∀ (n:Nat) (x:σ),lh (AI.iterN f n x) (AI.iterN g n x)
 |0,_=>λ_ h=>by cases h
 |n+1,x=>by
  intro y I;cases hf:f x with
  |none=>rw[AI.iterN,hf] at I;cases I
  |some s=>
   rw[AI.iterN,hf] at I;rw[AI.iterN,h x s hf];cases s with
   |inl z=>exact lh.iterN h n z y I
   |inr r=>exact I
theorem IU {σ R:Type} {f:σ->Option (σ⊕R)}:∀ {n:Nat} {x:σ} {r:R},iterN f n x=af r->iterN f (n+1) x=af r
 |0,x,r,h=>by cases h
 |n+1,x,r,h=>by
  cases hf:f x with
  |none=>rw[iterN,hf] at h;cases h
  |some s=>
   cases s with
   |inl y=>rw[iterN,hf] at h;rw[iterN,hf];exact IU h
   |inr q=>rw[iterN,hf] at h;rw[iterN,hf];exact h
theorem zg {σ R:Type} {f:σ->Option (σ⊕R)} {n m:Nat} {x:σ} {r:R} (h:iterN f n x=af r) (hle:n<=m):iterN f m x=af r:=by
 induction hle with
 |refl=>exact h
 |step _ I=>exact IU I
theorem zf {σ R:Type} {f:σ->Option (σ⊕R)} {n:Nat} {x:σ} {r:R} (h:iterN f n x=af r):iter f x=af r:=by
 have J:∃ n,(iterN f n x).isSome=ai:=⟨n,by rw[h];exact Eq.refl _⟩
 unfold iter;rw[dif_pos J];have hc:=Classical.choose_spec J;obtain⟨M,I⟩:=iN.1 hc;rw[I];rcases Nat.le_total n (Classical.choose J) with hl|hl
 .rw[zg h hl] at I;exact I.symm
 .rw[zg I hl] at h;exact h
theorem lh.iter {σ R:Type} {f g:σ->Option (σ⊕R)} {x:σ} (h:∀ x,lh (f x) (g x)):lh (gh f x) (AI.iter g x):=λy I=>zf (lh.iterN h _ x y I)
def orE {R:Type} (a b:Option R):Option R:=match a with|some y=>af y|none=>b
def fuel:Nat:=Classical.choose (⟨100000,rfl⟩:∃ n:Nat,n=100000)
theorem jQ:fuel=100000:=Classical.choose_spec (⟨100000,rfl⟩:∃ n:Nat,n=100000)
def G1 (a:Ty):Ty->Ty
 |.un=>a
 |.int k=>.pr a (.int k)
 |.bool=>.pr a .bool
 |.str=>.pr a .str
 |.sl t=>.pr a (.sl t)
 |.st t=>.pr a (.st t)
 |.pr x y=>.pr a (.pr x y)
 |.ex=>.pr a .ex
 |.sm=>.pr a .sm
def spr:Ty->Ty->Ty
 |.un,b=>b
 |.int k,b=>G1 (.int k) b
 |.bool,b=>G1 .bool b
 |.str,b=>G1 .str b
 |.sl t,b=>G1 (.sl t) b
 |.st t,b=>G1 (.st t) b
 |.pr x y,b=>G1 (.pr x y) b
 |.ex,b=>G1 .ex b
 |.sm,b=>G1 .sm b
def Qy (a:Ty):(b:Ty)->a.den->b.den->(G1 a b).den
 |.un,x,_=>x
 |.int _,x,y=>(x,y)
 |.bool,x,y=>(x,y)
 |.str,x,y=>(x,y)
 |.sl _,x,y=>(x,y)
 |.st _,x,y=>(x,y)
 |.pr _ _,x,y=>(x,y)
 |.ex,x,y=>(x,y)
 |.sm,x,y=>(x,y)
def fsN (a:Ty):(b:Ty)->(G1 a b).den->a.den
 |.un,z=>z
 |.int _,z=>z.1
 |.bool,z=>z.1
 |.str,z=>z.1
 |.sl _,z=>z.1
 |.st _,z=>z.1
 |.pr _ _,z=>z.1
 |.ex,z=>z.1
 |.sm,z=>z.1
def snN (a:Ty):(b:Ty)->(G1 a b).den->b.den
 |.un,_=>()
 |.int _,z=>z.2
 |.bool,z=>z.2
 |.str,z=>z.2
 |.sl _,z=>z.2
 |.st _,z=>z.2
 |.pr _ _,z=>z.2
 |.ex,z=>z.2
 |.sm,z=>z.2
def Un:(a b:Ty)->a.den->b.den->(spr a b).den
 |.un,_,_,y=>y
 |.int k,b,x,y=>Qy (.int k) b x y
 |.bool,b,x,y=>Qy .bool b x y
 |.str,b,x,y=>Qy .str b x y
 |.sl t,b,x,y=>Qy (.sl t) b x y
 |.st t,b,x,y=>Qy (.st t) b x y
 |.pr u v,b,x,y=>Qy (.pr u v) b x y
 |.ex,b,x,y=>Qy .ex b x y
 |.sm,b,x,y=>Qy .sm b x y
def OM:(a b:Ty)->(spr a b).den->a.den
 |.un,_,_=>()
 |.int k,b,z=>fsN (.int k) b z
 |.bool,b,z=>fsN .bool b z
 |.str,b,z=>fsN .str b z
 |.sl t,b,z=>fsN (.sl t) b z
 |.st t,b,z=>fsN (.st t) b z
 |.pr u v,b,z=>fsN (.pr u v) b z
 |.ex,b,z=>fsN .ex b z
 |.sm,b,z=>fsN .sm b z
def Ll:(a b:Ty)->(spr a b).den->b.den
 |.un,_,z=>z
 |.int k,b,z=>snN (.int k) b z
 |.bool,b,z=>snN .bool b z
 |.str,b,z=>snN .str b z
 |.sl t,b,z=>snN (.sl t) b z
 |.st t,b,z=>snN (.st t) b z
 |.pr u v,b,z=>snN (.pr u v) b z
 |.ex,b,z=>snN .ex b z
 |.sm,b,z=>snN .sm b z
theorem tK (a b:Ty) (x:a.den) (y:b.den):OM a b (Un a b x y)=x:=by cases a<;>cases b<;>rfl
theorem ve (a b:Ty) (x:a.den) (y:b.den):Ll a b (Un a b x y)=y:=by cases a<;>cases b<;>rfl
inductive TV where
 |f (T:Ty) (v:T.den)
 |fel (T:Ty) (xs:List T.den) (j:Int) (h:fe j xs.length=ai) (off:Nat)
 |pel (id sz:Nat) (j:Int) (off:Nat)
 |ptr (id off:Nat)
 |row (id:Nat)
 |csl (id sz n:Nat)
 |emp
 |nil
 |mp (id:Nat)
 |agg (l:List TV)
 |tup (l:List TV)
 |clo (g:FuncId) (l:List TV)
 |undef
 |np
 |anyb
 |rtl (id:Nat) (j:Int)
inductive iu where
 |rows (ty:TypeId) (p:Bool) (T:Ty) (xs:List T.den)
 |cells (ty:TypeId) (l:List TV)
 |dead (p:Bool) (sz n:Nat)
 |mp (K V:Ty) (es:List (K.den×V.den))
abbrev iP:=PT TV
abbrev bi:=PT iu
def cst:Value->Option TV
 |.int k n=>af (.f (.int k) n)
 |.bool b=>af (.f .bool b)
 |.string s=>af (.f .str s.data.toList)
 |.slice ah 0 0=>af .nil
 |.pointer ah=>af .np
 |_=>ah
def Kh:List Value->Option (List TV)
 |[]=>af []
 |v::r=>match cst v,Kh r with|some x,af l=>af (x::l)|_,_=>ah
def aj2:Value->Option TV
 |.agg vs=>if Ky vs.toList then (match Kh vs.toList with|some l=>af (.agg l)|none=>ah) else ah
 |v=>cst v
def cellsOf:Nat->(T:Ty)->T.den->Option (List TV)
 |0,_,_=>ah
 |n+1,.st t,v=>cellsOf n t v
 |n+1,.pr a b,v=>match cellsOf n a v.1,cellsOf n b v.2 with|some x,af y=>af (x++y)|_,_=>ah
 |_+1,.un,_=>af []
 |n+1,.ex,v=>cellsOf n M2 (NQ v)
 |n+1,.sm,v=>cellsOf n MA (NP v)
 |_+1,.int k,v=>af [.f (.int k) v]
 |_+1,.bool,v=>af [.f .bool v]
 |_+1,.str,v=>af [.f .str v]
 |_+1,.sl t,v=>af [.f (.sl t) v]
def TV.isC:TV->Bool
 |.f T _=>T.one
 |.fel _ _ _ _ _=>ai
 |.pel _ _ _ _=>ai
 |.ptr _ _=>ai
 |.row _=>ai
 |.csl _ _ _=>ai
 |.emp=>ai
 |.nil=>ai
 |.np=>ai
 |.mp _=>ai
 |.clo _ _=>ai
 |_=>aj
def kx:List TV->Bool
 |[]=>ai
 |x::r=>x.isC&&kx r
def TV.cs (v:TV):Option (List TV):=match v with
 |.agg l=>if kx l then af l else ah
 |.f T x=>cellsOf 40 T x
 |x=>if x.isC then af [x] else ah
def kQ (i:Nat):Nat:=1<<<i
def iL (h:bi) (T:Ty):TV->Option (T.den×Nat)
 |.f _ v=>match w7 T v with|some x=>af (x,0)|none=>ah
 |.emp=>(match T with|.sl _=>af ([],0)|_=>ah)
 |.nil=>(match T with|.sl _=>af ([],0)|_=>ah)
 |.row id=>match h.get id with
  |some (.rows _ _ S xs)=>(match w7 (S:=.sl S) T xs with|some x=>af (x,kQ id)|none=>ah)
  |_=>ah
 |_=>ah
def e9 (h:bi):Nat->(T:Ty)->List TV->Option (T.den×Nat×List TV)
 |0,_,_=>ah
 |n+1,.st t,l=>e9 h n t l
 |n+1,.pr a b,l=>match e9 h n a l with
  |some (x,m,r)=>(match e9 h n b r with|some (y,m',I)=>af ((x,y),m|||m',I)|none=>ah)
  |none=>ah
 |_+1,.un,l=>af ((),0,l)
 |n+1,.ex,l=>match e9 h n M2 l with|some (x,m,r)=>af (d_ x,m,r)|none=>ah
 |n+1,.sm,l=>match e9 h n MA l with|some (x,m,r)=>af (nN x,m,r)|none=>ah
 |_+1,.int k,l=>match l with|c::r=>(match iL h (.int k) c with|some (x,m)=>af (x,m,r)|none=>ah)|[]=>ah
 |_+1,.bool,l=>match l with|c::r=>(match iL h .bool c with|some (x,m)=>af (x,m,r)|none=>ah)|[]=>ah
 |_+1,.str,l=>match l with|c::r=>(match iL h .str c with|some (x,m)=>af (x,m,r)|none=>ah)|[]=>ah
 |_+1,.sl t,l=>match l with|c::r=>(match iL h (.sl t) c with|some (x,m)=>af (x,m,r)|none=>ah)|[]=>ah
def DY (h:bi) (T:Ty) (v:TV):Option (T.den×Nat):=match v with
 |.agg l=>if T.one then ah else (match e9 h 40 T l with|some (x,m,[])=>af (x,m)|_=>ah)
 |x=>iL h T x
def oc:Nat->(T:Ty)->T.den->Nat->Nat->Bool->Option TV
 |0,_,_,_,_,_=>ah
 |n+1,.st t,v,off,sz,ag=>if aC off 0&&aC sz t.size&&ag then af (.f (.st t) v) else oc n t v off sz ag
 |n+1,.pr a b,v,off,sz,ag=>if gp off a.size then oc n a v.1 off sz ag else oc n b v.2 (off-a.size) sz ag
 |_+1,.un,_,_,_,_=>ah
 |n+1,.ex,v,off,sz,ag=>if aC off 0&&aC sz 4&&ag then af (.f .ex v) else oc n M2 (NQ v) off sz ag
 |n+1,.sm,v,off,sz,ag=>if aC off 0&&aC sz 11&&ag then af (.f .sm v) else oc n MA (NP v) off sz ag
 |_+1,.int k,v,off,sz,ag=>if aC off 0&&aC sz 1&& !ag then af (.f (.int k) v) else ah
 |_+1,.bool,v,off,sz,ag=>if aC off 0&&aC sz 1&& !ag then af (.f .bool v) else ah
 |_+1,.str,v,off,sz,ag=>if aC off 0&&aC sz 1&& !ag then af (.f .str v) else ah
 |_+1,.sl t,v,off,sz,ag=>if aC off 0&&aC sz 1&& !ag then af (.f (.sl t) v) else ah
def gU (h:bi) (x:TV):Nat->(T:Ty)->T.den->Nat->Nat->Option (T.den×Nat)
 |0,_,_,_,_=>ah
 |n+1,.st t,v,off,sz=>match (if aC off 0&&aC sz t.size then DY h (.st t) x else ah) with
  |some y=>af y
  |none=>gU h x n t v off sz
 |n+1,.pr a b,v,off,sz=>if gp off a.size then (match gU h x n a v.1 off sz with|some (y,m)=>af ((y,v.2),m)|none=>ah) else (match gU h x n b v.2 (off-a.size) sz with|some (y,m)=>af ((v.1,y),m)|none=>ah)
 |_+1,.un,_,_,_=>ah
 |n+1,.ex,v,off,sz=>match (if aC off 0&&aC sz 4 then DY h .ex x else ah) with
  |some y=>af y
  |none=>(match gU h x n M2 (NQ v) off sz with|some (y,m)=>af (d_ y,m)|none=>ah)
 |n+1,.sm,v,off,sz=>match (if aC off 0&&aC sz 11 then DY h .sm x else ah) with
  |some y=>af y
  |none=>(match gU h x n MA (NP v) off sz with|some (y,m)=>af (nN y,m)|none=>ah)
 |_+1,.int k,_,off,sz=>if aC off 0&&aC sz 1 then iL h (.int k) x else ah
 |_+1,.bool,_,off,sz=>if aC off 0&&aC sz 1 then iL h .bool x else ah
 |_+1,.str,_,off,sz=>if aC off 0&&aC sz 1 then iL h .str x else ah
 |_+1,.sl t,_,off,sz=>if aC off 0&&aC sz 1 then iL h (.sl t) x else ah
def yV (h:bi) (T:Ty):Nat->List TV->Option (List T.den×Nat)
 |0,[]=>af ([],0)
 |0,_::_=>ah
 |n+1,l=>match e9 h 40 T l with
  |some (x,m,r)=>(match yV h T n r with|some (xs,m')=>af (x::xs,m|||m')|none=>ah)
  |none=>ah
def s5:Ty->List Value
 |.int k=>[.int k 0]
 |.bool=>[.bool aj]
 |.str=>[.string ⟨#[]⟩]
 |.sl _=>[.slice ah 0 0]
 |.st t=>s5 t
 |.pr a b=>s5 a++s5 b
 |.un=>[]
 |.ex=>[.int .i64 0,.int .i64 0,.string ⟨#[]⟩,.slice ah 0 0]
 |.sm=>[.int .i64 0,.int .i64 0,.string ⟨#[]⟩,.string ⟨#[]⟩,.slice ah 0 0,.int .i64 0,.int .i64 0,.string ⟨#[]⟩,.slice ah 0 0,.slice ah 0 0,.slice ah 0 0]
def SJ:List Value->List Value->Bool
 |[],[]=>ai
 |x::xs,y::I=>ajb x y&&SJ xs I
 |_,_=>aj
def Ty.flat:Ty->Bool
 |.int _=>ai
 |.bool=>ai
 |.str=>ai
 |.st t=>t.flat
 |.pr a b=>a.flat&&b.flat
 |.un=>ai
 |_=>aj
def rc:List TypeDesc->Option Ty
 |[]=>af .un
 |.int k::r=>match rc r with|some t=>af (.pr (.int k) t)|none=>ah
 |.bool::r=>match rc r with|some t=>af (.pr .bool t)|none=>ah
 |.string::r=>match rc r with|some t=>af (.pr .str t)|none=>ah
 |_=>ah
inductive PV where
 |d (T:Ty)
 |ptr (id off:Nat)
 |row (id:Nat)
 |csl (id sz n:Nat)
 |mp (id:Nat)
 |nil
 |emp
 |clo (q:FuncId) (id off:Nat)
 |agg (l:List PV)
inductive PB where
 |rows (ty:TypeId) (p:Bool) (T:Ty)
 |rowsP (ty:TypeId) (T:Ty)
 |cells (ty:TypeId) (l:List PV)
 |mp (K V:Ty)
 |gone
mutual
def PV.ty:PV->Ty
 |.d T=>T
 |.agg l=>PV.tyL l
 |.ptr _ _=>.un
 |.row _=>.un
 |.csl _ _ _=>.un
 |.clo _ _ _=>.un
 |.mp _=>.un
 |.nil=>.un
 |.emp=>.un
def PV.tyL:List PV->Ty
 |[]=>.un
 |p::r=>spr p.ty (PV.tyL r)
end
def PB.ty:PB->Ty
 |.rows _ _ T=>.sl T
 |.rowsP _ T=>.pr .bool (.sl T)
 |.cells _ l=>PV.tyL l
 |.mp K V=>.sl (.pr K V)
 |.gone=>.un
def PB.tyL:List PB->Ty
 |[]=>.un
 |p::r=>spr p.ty (PB.tyL r)
structure Tm where
 vs:List PV
 bs:List PB
def Tm.ty (t:Tm):Ty:=spr (PV.tyL t.vs) (PB.tyL t.bs)
mutual
def pt (g:Nat->Nat) (h:bi):(p:PV)->List TV->Option (p.ty.den×Nat×List TV)
 |.d T,l=>e9 h 40 T l
 |.ptr i o,l=>match l with|.ptr i' o'::r=>if aC (g i) i'&&aC o o' then af ((),0,r) else ah|_=>ah
 |.row i,l=>match l with|.row i'::r=>if aC (g i) i' then af ((),0,r) else ah|_=>ah
 |.csl i s n,l=>match l with|.csl i' s' n'::r=>if aC (g i) i'&&aC s s'&&aC n n' then af ((),0,r) else ah|_=>ah
 |.clo q i o,l=>match l with|.clo q' [.ptr i' o']::r=>if aC q q'&&aC (g i) i'&&aC o o' then af ((),0,r) else ah|_=>ah
 |.mp i,l=>match l with|.mp i'::r=>if aC (g i) i' then af ((),0,r) else ah|_=>ah
 |.nil,l=>match l with|.nil::r=>af ((),0,r)|_=>ah
 |.emp,l=>match l with|.nil::r=>af ((),0,r)|.emp::r=>af ((),0,r)|_=>ah
 |.agg ps,l=>zo g h ps l
def zo (g:Nat->Nat) (h:bi):(ps:List PV)->List TV->Option ((PV.tyL ps).den×Nat×List TV)
 |[],l=>af ((),0,l)
 |p::r,l=>match pt g h p l with
  |some (x,m,l')=>(match zo g h r l' with|some (y,m',l'')=>af (Un p.ty (PV.tyL r) x y,m|||m',l'')|none=>ah)
  |none=>ah
end
def xH (g:Nat->Nat) (h:bi):(p:PV)->TV->Option (p.ty.den×Nat)
 |.d T,v=>DY h T v
 |.agg ps,v=>if v.isC then ah else (match v.cs with
  |some l=>(match zo g h ps l with|some (x,m,[])=>af (x,m)|_=>ah)
  |none=>ah)
 |.ptr i o,v=>match pt g h (.ptr i o) [v] with|some (x,m,_)=>af (x,m)|none=>ah
 |.row i,v=>match pt g h (.row i) [v] with|some (x,m,_)=>af (x,m)|none=>ah
 |.csl i s n,v=>match pt g h (.csl i s n) [v] with|some (x,m,_)=>af (x,m)|none=>ah
 |.clo q i o,v=>match pt g h (.clo q i o) [v] with|some (x,m,_)=>af (x,m)|none=>ah
 |.mp i,v=>match pt g h (.mp i) [v] with|some (x,m,_)=>af (x,m)|none=>ah
 |.nil,v=>match pt g h .nil [v] with|some (x,m,_)=>af (x,m)|none=>ah
 |.emp,v=>match pt g h .emp [v] with|some (x,m,_)=>af (x,m)|none=>ah
def yh (g:Nat->Nat) (h:bi):(ps:List PV)->List TV->Option ((PV.tyL ps).den×Nat)
 |[],[]=>af ((),0)
 |p::r,v::vs=>match xH g h p v with
  |some (x,m)=>(match yh g h r vs with|some (y,m')=>af (Un p.ty (PV.tyL r) x y,m|||m')|none=>ah)
  |none=>ah
 |[],_::_=>ah
 |_::_,[]=>ah
def E3 (g:Nat->Nat) (h:bi) (i:Nat):(b:PB)->Option (b.ty.den×Nat)
 |.rows ty p T=>match h.get (g i) with
  |some (.rows ty' I S xs)=>if ty==ty'&&p==I then (match w7 (S:=.sl S) (.sl T) xs with|some x=>af (x,0)|none=>ah) else ah
  |_=>ah
 |.rowsP ty T=>match h.get (g i) with
  |some (.rows ty' I S xs)=>if ty==ty' then (match w7 (S:=.sl S) (.sl T) xs with|some x=>af ((I,x),0)|none=>ah) else ah
  |_=>ah
 |.cells ty ps=>match h.get (g i) with
  |some (.cells ty' l)=>if ty==ty' then (match zo g h ps l with|some (x,m,[])=>af (x,m)|_=>ah) else ah
  |_=>ah
 |.mp K V=>match h.get (g i) with
  |some (.mp K' V' es)=>(match w7 (S:=.sl (.pr K' V')) (.sl (.pr K V)) es with|some x=>af (x,0)|none=>ah)
  |_=>ah
 |.gone=>af ((),0)
def AW (g:Nat->Nat) (h:bi):Nat->(bs:List PB)->Option ((PB.tyL bs).den×Nat)
 |_,[]=>af ((),0)
 |i,b::r=>match E3 g h i b with
  |some (x,m)=>(match AW g h (i+1) r with|some (y,m')=>af (Un b.ty (PB.tyL r) x y,m|||m')|none=>ah)
  |none=>ah
mutual
def pV (g:Nat->Nat):(p:PV)->p.ty.den->Option (List TV)
 |.d T,x=>cellsOf 40 T x
 |.ptr i o,_=>af [.ptr (g i) o]
 |.row i,_=>af [.row (g i)]
 |.csl i s n,_=>af [.csl (g i) s n]
 |.mp i,_=>af [.mp (g i)]
 |.clo q i o,_=>af [.clo q [.ptr (g i) o]]
 |.nil,_=>af [.nil]
 |.emp,_=>af [.emp]
 |.agg ps,x=>q_ g ps x
def q_ (g:Nat->Nat):(ps:List PV)->(PV.tyL ps).den->Option (List TV)
 |[],_=>af []
 |p::r,x=>match pV g p (OM p.ty (PV.tyL r) x) with
  |some a=>(match q_ g r (Ll p.ty (PV.tyL r) x) with|some b=>af (a++b)|none=>ah)
  |none=>ah
end
def tC (g:Nat->Nat):(p:PV)->p.ty.den->Option TV
 |.d T,x=>af (.f T x)
 |.ptr i o,_=>af (.ptr (g i) o)
 |.row i,_=>af (.row (g i))
 |.csl i s n,_=>af (.csl (g i) s n)
 |.mp i,_=>af (.mp (g i))
 |.clo q i o,_=>af (.clo q [.ptr (g i) o])
 |.nil,_=>af .nil
 |.emp,_=>af .emp
 |.agg ps,x=>match q_ g ps x with|some l=>af (.agg l)|none=>ah
def qb (g:Nat->Nat):(ps:List PV)->(PV.tyL ps).den->Option (List TV)
 |[],_=>af []
 |p::r,x=>match tC g p (OM p.ty (PV.tyL r) x) with
  |some a=>(match qb g r (Ll p.ty (PV.tyL r) x) with|some b=>af (a::b)|none=>ah)
  |none=>ah
def CL (g:Nat->Nat):(b:PB)->b.ty.den->Option (Option iu)
 |.rows ty p T,x=>af (af (.rows ty p T x))
 |.rowsP ty T,x=>af (af (.rows ty x.1 T x.2))
 |.cells ty ps,x=>match q_ g ps x with|some l=>af (af (.cells ty l))|none=>ah
 |.mp K V,x=>af (af (.mp K V x))
 |.gone,_=>af ah
def vm:iu->iu
 |.rows _ p T xs=>.dead p T.size xs.length
 |.cells _ _=>.dead ai 0 0
 |.mp _ _ _=>.dead ai 0 0
 |.dead p sz n=>.dead p sz n
def kill (h:bi) (i:Nat):bi:=match h.get i with
 |some b=>h.set i (af (vm b))
 |none=>h
def oC (g:Nat->Nat):(bs:List PB)->(PB.tyL bs).den->Option (List (Option iu))
 |[],_=>af []
 |b::r,x=>match CL g b (OM b.ty (PB.tyL r) x) with
  |some c=>(match oC g r (Ll b.ty (PB.tyL r) x) with|some l=>af (c::l)|none=>ah)
  |none=>ah
def AB (g:Nat->Nat):Nat->List (Option iu)->bi->bi
 |_,[],h=>h
 |i,af c::r,h=>AB g (i+1) r (h.set (g i) (af c))
 |i,ah::r,h=>AB g (i+1) r (kill h (g i))
def MF (g:Nat->Nat) (bs:List PB) (x:(PB.tyL bs).den) (h:bi):Option bi:=match oC g bs x with
 |some l=>af (AB g 0 l h)
 |none=>ah
def wD {K V:Ty} (k:K.den):List (K.den×V.den)->Option V.den
 |[]=>ah
 |(k',v)::r=>if PP K k k' then af v else wD k r
def Ez {K V:Ty} (k:K.den) (v:V.den):List (K.den×V.den)->List (K.den×V.den)
 |[]=>[(k,v)]
 |(k',I)::r=>if PP K k k' then (k,v)::r else (k',I)::Ez k v r
def air {K V:Ty} (k:K.den) (es:List (K.den×V.den)):Bool:=match wD k es with|some _=>ai|none=>aj
def wC {K V:Ty} (k:K.den) (es:List (K.den×V.den)) (z:V.den):V.den:=match wD k es with|some v=>v|none=>z
def alx (T:Ty):Nat->Ty
 |0=>.un
 |1=>T
 |n+2=>.pr T (alx T (n+1))
def kwT:Ty:=.st (alx .str 22)
def kwV:kwT.den:=([118,97,114],[118,111,108,97,116,105,108,101],[109,117,116,101,120],[114,119,108,111,99,107],[99,111,110,100],[102,117,116,117,114,101],[116,104,114,101,97,100],[105,102],[101,108,115,101],[119,104,105,108,101],[108,111,99,107],[114,101,97,100],[119,114,105,116,101],[116,114,97,110,115,97,99,116,105,111,110],[97,116,111,109,105,99],[119,97,105,116],[110,111,116,105,102,121],[110,111,116,105,102,121,97,108,108],[115,112,97,119,110],[106,111,105,110],[115,101,116],[103,101,116])
@[simp] theorem cZ {R:Type} (t f:Option R):bcase ai t f=t:=Eq.trans rfl rfl
@[simp] theorem c4 {R:Type} (t f:Option R):bcase aj t f=f:=Eq.trans rfl rfl
@[simp] theorem chk_t {R:Type} (k:ai=ai->Option R):chk ai k=k rfl:=Eq.trans rfl rfl
theorem ct {R:Type} {b:Bool} (h:b=ai) (k:Option R):chk b (λ_=>k)=k:=by cases b with|true=>rfl|false=>cases h
@[simp] theorem cV {α R:Type} (x:α) (k:α->Option R):obind (af x) k=k x:=Eq.trans rfl rfl
@[simp] theorem jh {α R:Type} (x:α) (k:α->Option R):jn (af (.inr x)) k=k x:=Eq.trans rfl rfl
@[simp] theorem jn_l {α R:Type} (r:R) (k:α->Option R):jn (af (.inl r)) k=af r:=Eq.trans rfl rfl
theorem aeo {σ R:Type} {f:σ->Option (σ⊕R)} {n:Nat} {x:σ} {r:R} (h:iterN f n x=af r) (hn:n<=18446744073709551616):gh f x=af r:=zg h hn
theorem wJ {σ R:Type} {f:σ->Option (σ⊕R)} (n:Nat) (hn:n<18446744073709551616) (st:Nat->σ) {r:R} (h0:∀ i,i<n->f (st i)=af (.inl (st (i+1)))) (h1:f (st n)=af (.inr r)):gh f (st 0)=af r:=by
 have key:∀ k i,i+k=n->iterN f (k+1) (st i)=af r:=by
  intro k;induction k with
  |zero=>intro i hi;have:i=n:=by omega
         subst this;simp only[iterN,h1]
  |succ k I=>intro i hi;rw[iterN,h0 i (by omega)];exact I (i+1) (by omega)
 exact aeo (key n 0 (by omega)) (by omega)
@[simp] theorem ab7 {a b:Int}:c7 a b=ai↔a<=b:=by unfold c7;simp
@[simp] theorem ab6 {a b:Int}:fQ a b=ai↔a<b:=by unfold fQ;simp
theorem qA {a b:Int} (h:a<=b):c7 a b=ai:=ab7.2 h
theorem vn {a b:Int} (h:a<b):fQ a b=ai:=ab6.2 h
theorem MU {a b:Int} (h:b<a):c7 a b=aj:=by unfold c7;simp;omega
theorem wL {a b:Int} (h:b<=a):fQ a b=aj:=by unfold fQ;simp;omega
theorem am3 {j:Int} {n:Nat} (h0:0<=j) (h1:j<n):fe j n=ai:=by unfold fe;rw[qA h0,vn h1];rfl
theorem cW {j n:Nat} (h1:j<n):fe (j:Int) n=ai:=am3 (by omega) (by omega)
theorem tw {n b:Nat} (h0:n<=1099511627776) (h1:n*b<=1099511627776):a_ n b=ai:=by
 unfold a_;rw[bE h0,bE h1];rfl
theorem ZZ {n:Int} (h0: -9223372036854775808<=n) (h1:n<=9223372036854775807):bc .i64 n=n:=by
 rw[Cq];unfold Mt;simp only[];rw[qA h0,qA h1];rfl
theorem rh {i n:Nat} (h:i<n) (hn:n<=1099511627776):bc .i64 ((i:Int)+1)=((i+1:Nat):Int):=by
 rw[ZZ (by omega) (by omega)];omega
theorem zh (a b:Nat):iD (aO a) (aO b)=((max a b:Nat):Int):=by
 unfold iD;by_cases h:a<b
 .rw[vn (by simp;omega),aF rfl];simp;omega
 .rw[wL (by simp;omega)];simp;omega
theorem sD {T:Ty} (xs:List T.den) (i:Nat):aJ xs (i:Int)=xs.getD i T.zero:=by unfold aJ;simp
theorem qG (xs:List (List Int)) (i:Nat):aJ (T:=.sl (.int .i64)) xs (i:Int)=xs.getD i []:=sD (T:=.sl (.int .i64)) xs i
theorem aiv (xs:List Int) (i:Nat):aJ (T:=.int .i64) xs (i:Int)=xs.getD i 0:=sD (T:=.int .i64) xs i
theorem fR {α:Type} (xs:List α) (i:Nat) (x:α):cQ xs (i:Int) x=xs.set i x:=by unfold cQ;simp
structure cg where
 pre:Tm
 post:Tm
 m:pre.ty.den->Option post.ty.den
mutual
def aho:PV->List TV->PT Nat->PT Nat×List TV
 |.d T,l,σ=>(σ,l.drop T.size)
 |.ptr i _,l,σ=>match l with|.ptr a _::r=>(σ.set i (af a),r)|l=>(σ,l.drop 1)
 |.row i,l,σ=>match l with|.row a::r=>(σ.set i (af a),r)|l=>(σ,l.drop 1)
 |.csl i _ _,l,σ=>match l with|.csl a _ _::r=>(σ.set i (af a),r)|l=>(σ,l.drop 1)
 |.mp i,l,σ=>match l with|.mp a::r=>(σ.set i (af a),r)|l=>(σ,l.drop 1)
 |.clo _ i _,l,σ=>match l with|.clo _ [.ptr a _]::r=>(σ.set i (af a),r)|l=>(σ,l.drop 1)
 |.nil,l,σ=>(σ,l.drop 1)
 |.emp,l,σ=>(σ,l.drop 1)
 |.agg ps,l,σ=>V0 ps l σ
def V0:List PV->List TV->PT Nat->PT Nat×List TV
 |[],l,σ=>(σ,l)
 |p::r,l,σ=>match aho p l σ with|(σ',l')=>V0 r l' σ'
end
def amq (p:PV) (v:TV) (σ:PT Nat):PT Nat:=match p with
 |.d _=>σ
 |p=>match v.cs with|some l=>(aho p l σ).1|none=>σ
def ace:List PV->List TV->PT Nat->PT Nat
 |p::r,v::vs,σ=>ace r vs (amq p v σ)
 |_,_,σ=>σ
def V2 (h:bi):Nat->List PB->PT Nat->PT Nat
 |_,[],σ=>σ
 |i,b::r,σ=>V2 h (i+1) r (match b with
  |.cells _ ps=>(match σ.get i with
   |some a=>(match h.get a with|some (.cells _ l)=>(V0 ps l σ).1|_=>σ)
   |none=>σ)
  |_=>σ)
def ig (σ:PT Nat) (i:Nat):Nat:=match σ.get i with|some a=>a|none=>0
def aa4 (σ:PT Nat):Nat->Nat->Nat->Option Nat
 |0,_,acc=>af acc
 |n+1,i,acc=>match σ.get i with
  |some a=>if aN acc a then ah else aa4 σ n (i+1) (acc|||kQ a)
  |none=>ah
def idn:Nat->PT Nat
 |0=>.leaf
 |n+1=>(idn n).set n (af n)
def Xi (σ:PT Nat):Nat->Bool
 |0=>ai
 |n+1=>(match σ.get n with|some a=>aC a n|none=>aj)&&Xi σ n
structure ai1 (t:Tm) where
 x:t.ty.den
 m:Nat
 σ:PT Nat
 sm:Nat
def EA (np:Nat) (t:Tm) (vs:List TV) (h:bi):Option (ai1 t):=
 Rn (V2 h 0 t.bs (V2 h 0 t.bs (ace t.vs vs (idn np)))) λσ=>
 match aa4 σ t.bs.length 0 0 with
 |some sm=>(match yh (ig σ) h t.vs vs with
  |some (x,m)=>(match AW (ig σ) h 0 t.bs with
   |some (y,m')=>if DI (m|||m') sm&&Xi σ np then af ⟨Un _ _ x y,m|||m',σ,sm⟩ else ah
   |none=>ah)
  |none=>ah)
 |none=>ah
def PT.updI {α:Type} (f:Nat->α->α):Nat->Nat->PT α->PT α
 |_,_,.leaf=>.leaf
 |a,b,.node v l r=>.node (match v with|some x=>af (f b x)|none=>ah) (PT.updI f (2*a) (a+b) l) (PT.updI f (2*a) (2*a+b) r)
def eH (m:Nat) (h:bi):bi:=if aC m 0 then h else PT.updI (λi b=>if aN m i then vm b else b) 1 0 h
def Uu:Operand->Bool
 |.const (.agg _)=>ai
 |_=>aj
def fO (e:iP):Operand->Option TV
 |.tmp t=>e.get t
 |.const v=>aj2 v
 |.func g=>af (.clo g [])
 |.global g=>match G g with|some _=>af (.fel kwT [kwV] 0 (Eq.refl ai) 0)|none=>ah
def FF (e:iP):List Operand->Option (List TV)
 |[]=>af []
 |x::xs=>match fO e x with|some y=>(match FF e xs with|some I=>af (y::I)|none=>ah)|none=>ah
def Js (cells:List TV) (e:iP):List (Nat×Nat×Operand)->Option (List TV)
 |[]=>af cells
 |(off,sz,x)::r=>match fO e x with
  |some v=>(match v.cs with
   |some cs=>if cs.length==sz&&eM (off+sz) cells.length then Js (splice cells off cs) e r else ah
   |none=>ah)
  |none=>ah
def T2 (l:List TV) (off sz:Nat):Bool->Option TV
 |false=>if aC sz 1 then l[off]? else ah
 |true=>if eM (off+sz) l.length then af (.agg ((l.drop off).take sz)) else ah
def eD (h:bi) (id:Nat):Option (Bool×Nat×Nat):=match h.get id with
 |some (.rows _ p T xs)=>af (p,T.size,xs.length)
 |some (.dead p sz n)=>af (p,sz,n)
 |_=>ah
def lenOf (h:bi):TV->Option Nat
 |.f (.sl _) xs=>af (al xs)
 |.emp=>af 0
 |.nil=>af 0
 |.row id=>match eD h id with|some (_,_,n)=>af n|none=>ah
 |.csl _ _ n=>af n
 |_=>ah
mutual
def Ls (h:bi):TV->Bool
 |.row id=>(eD h id).isSome
 |.rtl id _=>(eD h id).isSome
 |.agg l=>kS h l
 |.tup l=>kS h l
 |.clo _ l=>kS h l
 |.f _ _=>ai
 |.fel _ _ _ _ _=>ai
 |.pel _ _ _ _=>ai
 |.ptr _ _=>ai
 |.csl _ _ _=>ai
 |.emp=>ai
 |.nil=>ai
 |.mp _=>ai
 |.undef=>ai
 |.np=>ai
 |.anyb=>ai
def kS (h:bi):List TV->Bool
 |[]=>ai
 |x::r=>Ls h x&&kS h r
end
mutual
def Lu (n:Nat):TV->Bool
 |.row id=>gp id n
 |.rtl id _=>gp id n
 |.pel id _ _ _=>gp id n
 |.ptr id _=>gp id n
 |.csl id _ _=>gp id n
 |.mp id=>gp id n
 |.agg l=>rH n l
 |.tup l=>rH n l
 |.clo _ l=>rH n l
 |.f _ _=>ai
 |.fel _ _ _ _ _=>ai
 |.emp=>ai
 |.nil=>ai
 |.undef=>ai
 |.np=>ai
 |.anyb=>ai
def rH (n:Nat):List TV->Bool
 |[]=>ai
 |x::r=>Lu n x&&rH n r
end
def C4 (t:Tm) (x:t.ty.den):Option (List TV×bi):=
 match qb (λi=>i) t.vs (OM _ _ x) with
 |some vs=>(match MF (λi=>i) t.bs (Ll _ _ x) PT.leaf with
  |some h=>if kS h vs&&rH t.bs.length vs&&PT.all (λ_ b=>match b with|.cells _ l=>kS h l&&rH t.bs.length l|_=>ai) 1 0 h then af (vs,h) else ah
  |none=>ah)
 |none=>ah
abbrev KO (R:Type):=TV->Nat->Nat->bi->Nat->Option R
def Qj:List TV->TV
 |[x]=>x
 |l=>.tup l
def BO:List PB->Bool
 |[]=>ai
 |.gone::_=>aj
 |_::r=>BO r
def H5:List PB->Bool
 |[]=>ai
 |.rows _ _ _::r=>H5 r
 |_::_=>aj
def t8 (h h2:bi) (g:Nat->Nat):Nat->Bool
 |0=>ai
 |n+1=>(match eD h (g n) with
  |some (p,s,k)=>(match eD h2 (g n) with|some (I,s',k')=>(p==I)&&aC s s'&&aC k k'|none=>aj)
  |none=>ai)&&t8 h h2 g n
def XB {R:Type} (con:FuncId->Option cg) (f:FuncId) (l:List TV) (h:bi) (nx:Nat) (K:KO R):Option R:=
 match con f with
 |some c=>(match EA 0 c.pre l h with
  |some ⟨x,m,σ,sm⟩=>(match C4 c.pre x with
   |some _=>obind (c.m x) λy=>(match C4 c.post y with
    |some _=>if eM c.pre.bs.length c.post.bs.length&&BO c.pre.bs then
      let np:=c.pre.bs.length
      let I:=c.post.bs.length-np
      let g:=λi=>if gp i np then ig σ i else nx+(i-np)
      (match qb g c.post.vs (OM _ _ y) with
      |some rs=>if !(aC m 0)&&aC c.post.bs.length 0&&(PV.tyL c.post.vs).flat then K (Qj rs) m 0 h nx else
       (match MF g c.post.bs (Ll _ _ y) (eH m h) with
       |some h2=>chk (t8 h h2 g np) λ_=>K (Qj rs) (sm|||m) (sm|||m|||(((1<<<I)-1)<<<nx)) h2 (nx+I)
       |none=>ah)
      |none=>ah) else if aC c.post.bs.length 0&&H5 c.pre.bs then
      let np:=c.pre.bs.length
      let g:=λi=>if gp i np then ig σ i else nx+(i-np)
      (match qb g c.post.vs (OM _ _ y) with
      |some rs=>(match MF g c.pre.bs (Ll _ _ x) (eH m h) with
       |some h2=>K (Qj rs) (sm|||m) m h2 nx
       |none=>ah)
      |none=>ah) else ah
    |none=>ah)
   |none=>ah)
  |none=>ah)
 |none=>ah
def aj9 {R:Type} (op:BinOp) (x y:TV) (q:TV->Option R):Option R:=
 match x,y with
 |.f (.int k) a,.f (.int k') b=>if k==k' then
   (match op with
   |.add=>q (.f (.int k) (bc k (a+b)))
   |.sub=>q (.f (.int k) (bc k (a-b)))
   |.mul=>q (.f (.int k) (bc k (a*b)))
   |.rem=>chk (!decide ((b:Int)=0)) λ_=>q (.f (.int k) (me a b))
   |.quo=>chk (!decide ((b:Int)=0)) λ_=>q (.f (.int k) (bc k (Int.tdiv a b)))
   |.eql=>q (.f .bool (decide ((a:Int)=b)))
   |.neq=>q (.f .bool (!decide ((a:Int)=b)))
   |.lss=>q (.f .bool (fQ a b))
   |.leq=>q (.f .bool (c7 a b))
   |.gtr=>q (.f .bool (fQ b a))
   |.geq=>q (.f .bool (c7 b a))
   |_=>ah)
  else ah
 |.f .str a,.f .str b=>match op with
   |.eql=>q (.f .bool (decide ((a:List UInt8)=b)))
   |.neq=>q (.f .bool (!decide ((a:List UInt8)=b)))
   |_=>ah
 |_,_=>ah
def X':Bool->Ty->Bool
 |false,.int _=>ai
 |true,.str=>ai
 |_,_=>aj
abbrev itK:Ty:=.st (.pr .str (.int .i64))
def isIt:Ty->Bool
 |.st (.pr .str (.int .i64))=>ai
 |_=>aj
def Ul (K:Ty):Bool:= !isIt K
def PO:List ((List UInt8×Int)×Unit)->List UInt8
 |[]=>[]
 |e::_=>e.1.1
def Oi:List ((List UInt8×Int)×Unit)->Nat
 |[]=>0
 |e::_=>aU e.1.2
def itE:(K V:Ty)->List (K.den×V.den)->Option (List UInt8×Nat)
 |.st (.pr .str (.int .i64)),.un,es=>af (PO es,Oi es)
 |_,_,_=>ah
def mpE:(K V:Ty)->List (K.den×V.den)->Bool
 |.un,.un,[]=>ai
 |_,_,_=>aj
def yN (T:Ty):List TV->Option (List T.den)
 |[]=>af []
 |.f S v::r=>match w7 (S:=S) T v with
  |some x=>(match yN T r with|some l=>af (x::l)|none=>ah)
  |none=>ah
 |_::_=>ah
def aci:List TV->Option ((T:Ty)×List T.den)
 |.f T v::r=>match yN T (.f T v::r) with|some l=>af ⟨T,l⟩|none=>ah
 |_=>ah
def am5 (n sz:Nat) (v:TV):Bool->Option ((T:Ty)×List T.den)
 |true=>ah
 |false=>if aC sz 1&& !v.isC then (match v.cs with|some l=>if aC l.length n then aci l else ah|none=>ah) else ah
def arrB (n sz off:Nat):Option iu->Option ((T:Ty)×List T.den)
 |some (.cells _ l)=>if aC sz 1&&aC off 0&&aC l.length n then aci l else ah
 |_=>ah
def ahh:Ty->Nat
 |.pr .un t=>ahh t+1
 |_=>0
def DP:Option Ty->Option Nat
 |some (.pr .un t)=>af (ahh t)
 |_=>ah
def ahl {R:Type} (ty:TypeId) (sz bytes:Nat) (b y:TV) (h:bi) (nx:Nat) (K:KO R):Option R:=match y with
 |.csl id2 sz2 m=>(match h.get id2 with
  |some (.cells _ l2)=>if aC sz2 sz&&aC l2.length (m*sz)&& !(aC m 0) then (match b with
   |.csl id sz1 n=>(match h.get id with
    |some (.cells ty1 l)=>if aC sz1 sz&&ty1==ty&&aC l.length (n*sz)&& !(aC id id2) then
      chk (a_ (n+m) bytes) λ_=>K (.csl nx sz (n+m)) (kQ id|||kQ id2) (kQ id|||kQ nx) ((h.set id (af (.dead ai 0 0))).set nx (af (.cells ty (l++l2)))) (nx+1) else ah
    |_=>ah)
   |.nil=>chk (a_ m bytes) λ_=>K (.csl nx sz m) (kQ id2) (0|||kQ nx) ((eH 0 h).set nx (af (.cells ty l2))) (nx+1)
   |_=>ah) else ah
  |_=>ah)
 |_=>ah
def pkT (ok:Bool) (v b:TV):TV:=match ok with|true=>.tup [v,b]|false=>v
def dW {R:Type} (con:FuncId->Option cg) (bX:TypeId->Option Ty) (o:SI) (e:iP) (h:bi) (nx:Nat) (K:KO R):Option R:=
 match o with
 |.call f args=>match FF e args with|some l=>XB con f l h nx K|none=>ah
 |.callv x args=>match fO e x,FF e args with
  |some (.clo f cap),af l=>XB con f (l++cap) h nx K
  |_,_=>ah
 |.op s=>match s with
  |.mksl ty sz bytes z l c=>match DP (bX ty) with
   |some n=>(match Kh z,fO e l,fO e c with
    |some J,af (.f (.int _) a),af (.f (.int _) b)=>chk (c7 0 a&&c7 a b&&a_ (aU b) bytes&&decide ((a:Int)=aO n)) λ_=>K (.csl nx sz n) 0 (0|||kQ nx) ((eH 0 h).set nx (af (.cells ty (aG n J).flatten))) (nx+1)
    |_,_,_=>ah)
   |none=>match bX ty,fO e l,fO e c with
   |some T,af (.f (.int _) a),af (.f (.int _) b)=>if aC sz T.size&&SJ z (s5 T) then
     chk (c7 0 a&&c7 a b&&a_ (aU b) bytes) λ_=>K (.row nx) 0 (kQ nx) (h.set nx (af (.rows ty aj T (aG (aU a) T.zero)))) (nx+1) else ah
   |_,_,_=>ah
  |.bsl ty sz len z parts=>match DP (bX ty) with
   |some _=>(match Kh z with
    |some J=>(match Js ((aG len J).flatten) e parts with
     |some cs=>if aC len 0 then ah else K (.csl nx sz len) 0 (0|||kQ nx) ((eH 0 h).set nx (af (.cells ty cs))) (nx+1)
     |none=>ah)
    |none=>ah)
   |none=>match bX ty,Kh z with
   |some T,af J=>if aC sz T.size then (match Js ((aG len J).flatten) e parts with
    |some cs=>(match yV h T len cs with
     |some (xs,m)=>K (.row nx) m (m|||kQ nx) ((eH m h).set nx (af (.rows ty (aC len 0) T xs))) (nx+1)
     |none=>ah)
    |none=>ah) else ah
   |_,_=>ah
  |.app ty sz bytes s x=>match DP (bX ty) with
   |some _=>(match fO e s,fO e x with
    |some b,af y=>ahl ty sz bytes b y h nx K
    |_,_=>ah)
   |none=>match bX ty,fO e s,fO e x with
   |some T,af b,af y=>if aC sz T.size then (match DY h (.sl T) y with
    |some (I,m)=>(match b with
     |.row id=>(match h.get id with
      |some (.rows ty' p S xs)=>(match w7 (S:=.sl S) (.sl T) xs with
       |some xs=>if ty'==ty&& !(aN m id) then
         chk (a_ (al xs+al I) bytes) λ_=>K (.row nx) (kQ id|||m) (kQ id|||kQ nx) ((h.set id (af (.dead p sz (al xs)))).set nx (af (.rows ty p T (xs++I)))) (nx+1)
        else ah
       |none=>ah)
      |_=>ah)
     |.emp=>chk (a_ (al I) bytes) λ_=>K (.row nx) m (kQ nx) (h.set nx (af (.rows ty ai T I))) (nx+1)
     |.nil=>chk (a_ (al I) bytes) λ_=>K (.row nx) m (kQ nx) (h.set nx (af (.rows ty ai T I))) (nx+1)
     |_=>ah)
    |none=>ah) else ah
   |_,_,_=>ah
  |.copy sz d x=>match fO e d,fO e x with
   |some (.row id),af y=>(match h.get id with
    |some (.rows ty p T xs)=>if aC sz T.size then (match DY h (.sl T) y with
     |some (I,m)=>if !(aN m id)&& !p then
       K (.f (.int .i64) (aO (iS (al I) (al xs)))) (kQ id|||m) (kQ id) (h.set id (af (.rows ty p T (TI xs I)))) nx else ah
     |none=>ah) else ah
    |_=>ah)
   |_,_=>ah
  |.clr sz z x=>match fO e x with
   |some (.rtl id j)=>(match h.get id with
    |some (.rows ty p T xs)=>if (aC sz T.size&&SJ z (s5 T))&&mE z then
      chk (c7 0 j&&fQ j (al xs)) λ_=>K (.tup []) (kQ id) (0|||kQ id) ((eH 0 h).set id (af (.rows ty p T (dP (aU j) xs++aG (al xs-aU j) T.zero)))) nx
     else ah
    |_=>ah)
   |_=>ah
  |.mv x=>match fO e x with|some v=>K v 0 0 h nx|none=>ah
  |.pick c a b=>match fO e c with
   |some (.f .bool t)=>bcase t (match fO e a with|some v=>K v 0 0 h nx|none=>ah) (match fO e b with|some v=>K v 0 0 h nx|none=>ah)
   |_=>ah
  |.alloc ty z=>match Kh z with
   |some l=>K (.ptr nx 0) 0 (kQ nx) (h.set nx (af (.cells ty l))) (nx+1)
   |none=>ah
  |.box ty x=>match fO e x with
   |some v=>(match v.cs with|some l=>K (.ptr nx 0) 0 (kQ nx) (h.set nx (af (.cells ty l))) (nx+1)|none=>ah)
   |none=>ah
  |.build z parts=>match Kh z with
   |some l=>(match Js l e parts with|some cs=>K (.agg cs) 0 0 h nx|none=>ah)
   |none=>ah
  |.load sz ag x=>match fO e x with
   |some (.ptr id off)=>(match h.get id with
    |some (.cells _ l)=>(match T2 l off sz ag with|some v=>K v (kQ id) 0 h nx|none=>ah)
    |_=>ah)
   |some (.pel id sz' j off)=>(match h.get id with
    |some (.rows _ _ T xs)=>if aC sz' T.size then chk (fe j xs.length) λ_=>(match oc 40 T (aJ xs j) off sz ag with|some v=>K v (kQ id) 0 h nx|none=>ah) else ah
    |some (.cells _ l)=>(match ag with
     |true=>ah
     |false=>if aC sz 1&&aC sz' 1&&aC off 0 then (match aci l with
      |some ⟨T,xs⟩=>chk (fe j l.length) λ_=>K (.f T (aJ xs j)) (kQ id) 0 h nx
      |none=>ah) else ah)
    |_=>ah)
   |some (.fel T xs j _ off)=>(match oc 40 T (aJ xs j) off sz ag with|some v=>K v 0 0 h nx|none=>ah)
   |_=>ah
  |.store sz x v=>match fO e x,fO e v with
   |some (.ptr id off),af y=>(match h.get id with
    |some (.cells ty l)=>(match y.cs with
     |some cs=>if cs.length==sz&&eM (off+sz) l.length then K .undef (kQ id) (kQ id) (h.set id (af (.cells ty (splice l off cs)))) nx else ah
     |none=>ah)
    |_=>ah)
   |some (.pel id sz' j off),af y=>(match h.get id with
    |some (.rows ty p T xs)=>if aC sz' T.size then chk (fe j xs.length) λ_=>(match gU h y 40 T (aJ xs j) off sz with
     |some (z,m)=>if aN m id then ah else K .undef (m|||kQ id) (m|||kQ id) ((eH m h).set id (af (.rows ty p T (cQ xs j z)))) nx
     |none=>ah) else ah
    |some (.cells ty l)=>if aC sz 1&&(aC sz' 1&&aC off 0) then chk (fe j l.length) λ_=>(match y.cs with
     |some cs=>if aC cs.length 1 then K .undef (kQ id) (kQ id) (h.set id (af (.cells ty (splice l j.toNat cs)))) nx else ah
     |none=>ah) else ah
    |_=>ah)
   |_,_=>ah
  |.nilc x=>match fO e x with
   |some (.ptr id off)=>K (.ptr id off) 0 0 h nx
   |some (.pel id sz j off)=>K (.pel id sz j off) 0 0 h nx
   |some (.fel T xs j hj off)=>K (.fel T xs j hj off) 0 0 h nx
   |some (.clo g cap)=>K (.clo g cap) 0 0 h nx
   |_=>ah
  |.bin op x y=>match fO e x,fO e y with
   |some u,af v=>aj9 op u v λr=>K r 0 0 h nx
   |_,_=>ah
  |.eqs neg ds x y=>match rc ds,fO e x,fO e y with
   |some T,af u,af v=>if u.isC||v.isC||Uu x||Uu y then ah else (match u.cs,v.cs with
    |some lu,af lv=>(match e9 PT.leaf 40 T lu,e9 PT.leaf 40 T lv with
     |some (a,_,[]),af (b,_,[])=>K (.f .bool (PP T a b !=neg)) 0 0 h nx
     |_,_=>ah)
    |_,_=>ah)
   |_,_,_=>ah
  |.isnil neg x=>match fO e x with
   |some .nil=>K (.f .bool (!neg)) 0 0 h nx
   |some .emp=>K .anyb 0 0 h nx
   |some (.f (.sl _) xs)=>bcase (aC (al xs) 0) (K .anyb 0 0 h nx) (K (.f .bool neg) 0 0 h nx)
   |some (.row id)=>(match h.get id with
    |some (.rows _ aj _ _)=>K (.f .bool neg) 0 0 h nx
    |_=>ah)
   |_=>ah
  |.eqb neg x y=>match fO e x,fO e y with
   |some (.f .bool a),af (.f .bool b)=>K (.f .bool ((a==b) !=neg)) 0 0 h nx
   |_,_=>ah
  |.not x=>match fO e x with|some (.f .bool b)=>K (.f .bool (!b)) 0 0 h nx|_=>ah
  |.conv k x=>match fO e x with|some (.f (.int _) n)=>K (.f (.int k) (bc k n)) 0 0 h nx|_=>ah
  |.slc sz x lo hi mx=>match fO e x with
   |some v=>(match lo,hi,mx with
    |none,af (.const (.int _ 0)),af (.const (.int _ 0))=>if (lenOf h v).isSome then K .emp 0 0 h nx else ah
    |none,af b,ah=>(match v,fO e b with
     |.f (.sl T) xs,af (.f (.int _) j)=>if aC sz T.size then chk (c7 0 j&&c7 j (al xs)) λ_=>K (.f (.sl T) (dP (aU j) xs)) 0 0 h nx else ah
     |.row id,af (.f (.int _) j)=>(match h.get id with
      |some (.rows ty p T xs)=>if aC sz T.size then
        chk (c7 0 j&&fQ j (al xs)) λ_=>K (.row nx) (kQ id) (kQ id|||kQ nx) ((h.set id (af (.dead p sz (al xs)))).set nx (af (.rows ty aj T (dP (aU j) xs)))) (nx+1)
       else ah
      |_=>ah)
     |_,_=>ah)
    |some b,ah,ah=>(match v,fO e b with
     |.f (.sl T) xs,af (.f (.int _) j)=>if aC sz T.size then chk (c7 0 j&&c7 j (al xs)) λ_=>K (.f (.sl T) (List.drop (aU j) xs)) 0 0 h nx else ah
     |.row id,af (.f (.int _) j)=>(match h.get id with
      |some (.rows _ _ T xs)=>if aC sz T.size then chk (c7 0 j&&fQ j (al xs)) λ_=>K (.rtl id j) 0 0 h nx else ah
      |_=>ah)
     |_,_=>ah)
    |_,_,_=>ah)
   |none=>ah
  |.fad off x=>match fO e x with
   |some (.ptr id o)=>K (.ptr id (o+off)) 0 0 h nx
   |some (.pel id sz j o)=>K (.pel id sz j (o+off)) 0 0 h nx
   |some (.fel T xs j hj o)=>K (.fel T xs j hj (o+off)) 0 0 h nx
   |_=>ah
  |.fld off sz ag x=>match fO e x with
   |some (.agg l)=>(match T2 l off sz ag with|some v=>K v 0 0 h nx|none=>ah)
   |some (.f T v)=>if T.one then ah else (match oc 40 T v off sz ag with|some v=>K v 0 0 h nx|none=>ah)
   |_=>ah
  |.iad sz x i=>match fO e x,fO e i with
   |some (.row id),af (.f (.int _) j)=>(match h.get id with
    |some (.rows _ _ T xs)=>if aC sz T.size then chk (fe j xs.length) λ_=>K (.pel id sz j 0) 0 0 h nx else ah
    |_=>ah)
   |some (.f (.sl T) xs),af (.f (.int _) j)=>if aC sz T.size then chk (fe j (al xs)) λhj=>K (.fel T xs j hj 0) 0 0 h nx else ah
   |some (.csl id sz' n),af (.f (.int _) j)=>if aC sz' sz then chk (c7 0 j&&fQ j n) λ_=>K (.ptr id (aU j*sz)) 0 0 h nx else ah
   |_,_=>ah
  |.iada n sz x i=>match fO e x,fO e i with
   |some (.ptr id off),af (.f (.int _) j)=>(match arrB n sz off (h.get id) with
    |some _=>chk (c7 0 j&&fQ j n) λ_=>K (.pel id sz j off) 0 0 h nx
    |none=>chk (c7 0 j&&fQ j n) λ_=>K (.ptr id (off+aU j*sz)) 0 0 h nx)
   |_,_=>ah
  |.idx n sz ag x i=>match fO e x,fO e i with
   |some v,af (.f (.int _) j)=>(match am5 n sz v ag with
    |some ⟨T,xs⟩=>chk (c7 0 j&&fQ j n) λ_=>K (.f T (aJ xs j)) 0 0 h nx
    |none=>(match v with
     |.agg l=>chk (c7 0 j&&fQ j n) λ_=>(match T2 l (aU j*sz) sz ag with|some v=>K v 0 0 h nx|none=>ah)
     |.f T v=>if T.one then ah else chk (c7 0 j&&fQ j n) λ_=>(match oc 40 T v (aU j*sz) sz ag with|some v=>K v 0 0 h nx|none=>ah)
     |_=>ah))
   |_,_=>ah
  |.ext x i=>match fO e x with|some (.tup l)=>(match l[i]? with|some v=>K v 0 0 h nx|none=>ah)|_=>ah
  |.len x=>match fO e x with
   |some v=>(match lenOf h v with|some n=>K (.f (.int .i64) (aO n)) 0 0 h nx|none=>ah)
   |none=>ah
  |.lens x=>match fO e x with
   |some (.f .str s)=>K (.f (.int .i64) (aO (al s))) 0 0 h nx
   |_=>ah
  |.max x y=>match fO e x,fO e y with
   |some (.f (.int k) a),af (.f (.int k') b)=>if k==k' then K (.f (.int k) (iD a b)) 0 0 h nx else ah
   |_,_=>ah
  |.min x y=>match fO e x,fO e y with
   |some (.f (.int k) a),af (.f (.int k') b)=>if k==k' then K (.f (.int k) (G8 a b)) 0 0 h nx else ah
   |_,_=>ah
  |.sidx x i=>match fO e x,fO e i with
   |some (.f .str s),af (.f (.int _) j)=>chk (fe j (al s)) λ_=>K (.f (.int .u8) (Au s j)) 0 0 h nx
   |_,_=>ah
  |.rng x=>match fO e x with
   |some (.f .str s)=>K (.ptr nx 0) 0 (0|||kQ nx) ((eH 0 h).set nx (af (.mp itK .un [((s,0),())]))) (nx+1)
   |_=>ah
  |.nxt x=>match fO e x with
   |some (.ptr id 0)=>(match h.get id with
    |some (.mp K' V es)=>(match itE K' V es with
     |some (s,p)=>bcase (gp p (al s)) (chk (fQ (Au s (aO p)) 128) λ_=>K (.tup [.f .bool ai,.f (.int .i64) (aO p),.f (.int .i32) (Au s (aO p))]) (kQ id) (0|||kQ id) ((eH 0 h).set id (af (.mp itK .un [((s,aO (p+1)),())]))) nx)
       (K (.tup [.f .bool aj]) (kQ id) (0|||kQ id) ((eH 0 h).set id (af (.mp itK .un [((s,aO p),())]))) nx)
     |none=>ah)
    |_=>ah)
   |_=>ah
  |.mkm=>K (.mp nx) 0 (0|||kQ nx) ((eH 0 h).set nx (af (.mp .un .un []))) (nx+1)
  |.lku str ok z x k=>match fO e x,fO e k with
   |some (.mp id),af (.f KT M)=>(match h.get id with
    |some (.mp K' V es)=>if X' str KT&&Ul K' then (match mpE K' V es with
     |true=>(match cst z with|some v=>K (pkT ok v (.f .bool aj)) (kQ id) 0 h nx|none=>ah)
     |false=>(match w7 (S:=KT) K' M,cst z with
      |some kv',af (.f Z Y)=>(match w7 (S:=Z) V Y with
       |some zv'=>K (pkT ok (.f V (wC kv' es zv')) (.f .bool (air kv' es))) (kQ id) 0 h nx
       |none=>ah)
      |_,_=>ah)) else ah
    |_=>ah)
   |_,_=>ah
  |.mup str x k v=>match fO e x,fO e k,fO e v with
   |some (.mp id),af (.f KT M),af (.f VT U)=>(match h.get id with
    |some (.mp K' V es)=>if (X' str KT&&VT.one)&&Ul K' then (match mpE K' V es with
     |true=>K .undef (kQ id) (0|||kQ id) ((eH 0 h).set id (af (.mp KT VT [(M,U)]))) nx
     |false=>(match w7 (S:=KT) K' M,w7 (S:=VT) V U with
      |some kv',af vv'=>K .undef (kQ id) (0|||kQ id) ((eH 0 h).set id (af (.mp K' V (Ez kv' vv' es)))) nx
      |_,_=>ah)) else ah
    |_=>ah)
   |_,_,_=>ah
  |.lenm x=>match fO e x with
   |some (.mp id)=>(match h.get id with
    |some (.mp K' _ es)=>if Ul K' then K (.f (.int .i64) (aO es.length)) (kQ id) 0 h nx else ah
    |_=>ah)
   |_=>ah
  |.mkf f caps=>match FF e caps with|some l=>K (.clo f l) 0 0 h nx|none=>ah
  |_=>ah
def Z2 {R:Type} (e:iP) (g:Option (Nat×Bool)) (K:Bool->iP->Option R):Option R:=match g with
 |none=>K ai e
 |some (t,want)=>match e.get t with
  |some (.f .bool b)=>(match want with
   |true=>bcase b (K ai (e.set t (af (.f .bool ai)))) (K aj (e.set t (af (.f .bool aj))))
   |false=>bcase b (K aj (e.set t (af (.f .bool ai)))) (K ai (e.set t (af (.f .bool aj)))))
  |some .undef=>K aj e
  |_=>ah
def El (e:iP) (d:Option Nat) (v:TV):iP:=match d with
 |none=>e
 |some d=>e.set d (af v)
structure TS where
 e:iP
 h:bi
 nx:Nat
def Lp {R:Type} (con:FuncId->Option cg) (bX:TypeId->Option Ty):List sL->TS->List FPm->(TS->List FPm->Option R)->Option R
 |[],s,fs,K=>K s fs.reverse
 |o::r,s,fs,K=>Z2 s.e o.guard λrun e=>match run with
  |true=>dW con bX o.op e s.h s.nx λv rd wr h nx=>if Ls h v then Lp con bX r ⟨El e o.dst v,h,nx⟩ (⟨rd,wr⟩::fs) K else ah
  |false=>Lp con bX r ⟨El e o.dst .undef,s.h,s.nx⟩ (⟨0,0⟩::fs) K
inductive Adj where
 |nil (k:Nat) (ty:TypeId) (T:Ty)
 |cel (k:Nat) (off:Nat) (ty:TypeId) (T:Ty)
 |mpt (k:Nat) (K V:Ty)
 |pk (k:Nat) (off:Nat) (T:Ty)
 |ren (k:Nat) (off:Nat)
mutual
def Lk (id sz n:Nat):TV->TV
 |.csl i s m=>if aC i id&&aC s sz&&aC m n then .row id else .csl i s m
 |.agg l=>.agg (Cw id sz n l)
 |.tup l=>.tup (Cw id sz n l)
 |.clo g l=>.clo g (Cw id sz n l)
 |.f T v=>.f T v
 |.fel T xs j h off=>.fel T xs j h off
 |.pel a b c d=>.pel a b c d
 |.ptr a b=>.ptr a b
 |.row a=>.row a
 |.rtl a j=>.rtl a j
 |.emp=>.emp
 |.nil=>.nil
 |.mp a=>.mp a
 |.undef=>.undef
 |.np=>.np
 |.anyb=>.anyb
def Cw (id sz n:Nat):List TV->List TV
 |[]=>[]
 |x::r=>Lk id sz n x::Cw id sz n r
end
def XW (id sz n:Nat):iu->iu
 |.cells ty l=>.cells ty (Cw id sz n l)
 |.rows ty p T xs=>.rows ty p T xs
 |.dead p s m=>.dead p s m
 |.mp K V es=>.mp K V es
def amo (s:TS) (k off:Nat):Option (Nat×Nat×Nat):=match s.e.get k with
 |some (.csl id sz n)=>af (id,sz,n)
 |some (.agg l)=>(match l[off]? with|some (.csl id sz n)=>af (id,sz,n)|_=>ah)
 |some (.ptr a o)=>(match s.h.get a with
  |some (.cells _ l)=>(match l[o+off]? with|some (.csl id sz n)=>af (id,sz,n)|_=>ah)
  |_=>ah)
 |_=>ah
def pkS (s:TS) (T:Ty) (id sz n:Nat):Option TS:=match s.h.get id with
 |some (.cells ty l)=>if aC sz T.size then (match yV s.h T n l with
  |some (xs,m)=>if aN m id then ah else af ⟨PT.updI (λ_ v=>Lk id sz n v) 1 0 s.e,(PT.updI (λ_ b=>XW id sz n b) 1 0 (eH m s.h)).set id (af (.rows ty aj T xs)),s.nx⟩
  |none=>ah) else ah
 |_=>ah
def aep:TV->Bool
 |.nil=>ai
 |.emp=>ai
 |_=>aj
def alw:Option TV->Option (Nat×Nat)
 |some (.ptr id o)=>af (id,o)
 |some (.csl id _ _)=>af (id,0)
 |_=>ah
def Pv (s:TS):Adj->Option TS
 |.nil k ty T=>match s.e.get k with
  |some v=>if aep v then af ⟨s.e.set k (af (.row s.nx)),s.h.set s.nx (af (.rows ty ai T [])),s.nx+1⟩ else af s
  |none=>ah
 |.cel k off ty T=>match alw (s.e.get k) with
  |some (id,o)=>(match s.h.get id with
   |some (.cells cty l)=>(match l[o+off]? with
    |some v=>if aep v then af ⟨s.e,(s.h.set s.nx (af (.rows ty ai T []))).set id (af (.cells cty (splice l (o+off) [.row s.nx]))),s.nx+1⟩ else af s
    |none=>ah)
   |_=>ah)
  |_=>ah
 |.mpt k K V=>match s.e.get k with
  |some (.mp id)=>(match s.h.get id with
   |some (.mp K' V' es)=>(match mpE K' V' es&&Ul K with
    |true=>af ⟨s.e,s.h.set id (af (.mp K V [])),s.nx⟩
    |false=>af s)
   |_=>ah)
  |_=>ah
 |.pk k off T=>match amo s k off with
  |some (id,sz,n)=>pkS s T id sz n
  |none=>ah
 |.ren k off=>match s.e.get k with
  |some (.ptr b o)=>(match s.h.get b with
   |some (.cells cty l)=>(match l[o+off]? with
    |some (.row id)=>(match s.h.get id with
     |some (.rows ty p T xs)=>af ⟨s.e,((s.h.set id (af (.dead p T.size xs.length))).set s.nx (af (.rows ty p T xs))).set b (af (.cells cty (splice l (o+off) [.row s.nx]))),s.nx+1⟩
     |_=>ah)
    |_=>ah)
   |_=>ah)
  |some (.row id)=>(match s.h.get id with
   |some (.rows ty p T xs)=>af ⟨s.e.set k (af (.row s.nx)),(s.h.set id (af (.dead p T.size xs.length))).set s.nx (af (.rows ty p T xs)),s.nx+1⟩
   |_=>ah)
  |_=>ah
def Y' (s:TS):List Adj->Option TS
 |[]=>af s
 |a::r=>match Pv s a with|some s'=>Y' s' r|none=>ah
structure ZT where
 keep:List Nat
 ks:List Nat
 t:Tm
 pre:List Adj
abbrev ZT.D (A:ZT):Type:=A.t.ty.den
mutual
def ur:TV->Bool
 |.f _ _=>ai
 |.fel _ _ _ _ _=>ai
 |.emp=>ai
 |.nil=>ai
 |.undef=>ai
 |.np=>ai
 |.anyb=>ai
 |.agg l=>qB l
 |.tup l=>qB l
 |.pel _ _ _ _=>aj
 |.ptr _ _=>aj
 |.csl _ _ _=>aj
 |.row _=>aj
 |.rtl _ _=>aj
 |.mp _=>aj
 |.clo _ _=>aj
def qB:List TV->Bool
 |[]=>ai
 |x::r=>ur x&&qB r
end
def C2 (am:Nat) (e:iP):List Nat->iP
 |[]=>PT.leaf
 |k::r=>match e.get k with|some v=>if ur v&& !(aN am k) then (C2 am e r).set k (af v) else C2 am e r|none=>C2 am e r
def nV (e:iP):List Nat->Option (List TV)
 |[]=>af []
 |k::r=>match e.get k with|some v=>(match nV e r with|some l=>af (v::l)|none=>ah)|none=>ah
def XY (e:iP):List Nat->List TV->iP
 |k::r,v::l=>(XY e r l).set k (af v)
 |_,_=>e
def HN (am:Nat) (e0 e:iP):List Nat->Bool
 |[]=>ai
 |k::r=>(match e0.get k with
  |some v=> !(ur v)||aN am k||(match e.get k with|some _=>ai|none=>aj)
  |none=>ai)&&HN am e0 e r
def LV (np:Nat) (A:ZT) (am:Nat) (I s:TS):Option A.D:=if eM np A.t.bs.length&&HN am I.e s.e A.keep then (match Y' s A.pre with
 |some s=>(match nV s.e A.ks with
  |some vs=>(match EA np A.t vs s.h with
   |some ⟨x,_,_,_⟩=>af x
   |none=>ah)
  |none=>ah)
 |none=>ah) else ah
def G2 (A:ZT) (am:Nat) (s:TS) (x:A.D):Option TS:=match C4 A.t x with
 |some (vs,h)=>if aC vs.length A.ks.length then af ⟨XY (C2 am s.e A.keep) A.ks vs,h,A.t.bs.length⟩ else ah
 |none=>ah
inductive TC where
 |skip
 |reg (ops:List sL) (prs:List (Nat×Nat))
 |seq (a b:TC)
 |jseq (A:ZT) (a b:TC)
 |cond (c:Nat) (a b:TC)
 |block (id:Nat) (b:TC)
 |jblock (A:ZT) (id:Nat) (b:TC)
 |loop (A:ZT) (b:TC)
 |exit (id:Nat)
 |ret
 |defer (f:FuncId) (caps:List Operand) (t:Nat)
 |adj (l:List Adj) (c:TC)
 |split (k off lo n:Nat) (c:TC)
 |unl (n:Nat) (b:TC)
 |bad
def Pr:List sL->Nat->Nat
 |[],acc=>acc
 |o::r,acc=>Pr r (match o.dst with|some d=>acc|||kQ d|none=>acc)
def Lv:List Nat->Nat->Nat
 |[],acc=>acc
 |k::r,acc=>Lv r (acc|||kQ k)
def ox:List Adj->Nat->Nat
 |[],acc=>acc
 |.nil k _ _::r,acc=>ox r (acc|||kQ k)
 |.cel _ _ _ _::r,acc=>ox r acc
 |.mpt _ _ _::r,acc=>ox r acc
 |.pk _ _ _::r,acc=>ox r acc
 |.ren k _::r,acc=>ox r (acc|||kQ k)
def TC.asg:TC->Nat->Nat
 |.reg ops _,acc=>Pr ops acc
 |.seq a b,acc=>b.asg (a.asg acc)
 |.jseq A a b,acc=>b.asg (a.asg (Lv A.ks acc))
 |.cond _ a b,acc=>b.asg (a.asg acc)
 |.block _ b,acc=>b.asg acc
 |.jblock A _ b,acc=>b.asg (Lv A.ks acc)
 |.loop A b,acc=>b.asg (Lv A.ks acc)
 |.defer _ _ t,acc=>acc|||kQ t
 |.adj l c,acc=>c.asg (ox l acc)
 |.split _ _ _ _ c,acc=>c.asg acc
 |.unl _ b,acc=>b.asg acc
 |.skip,acc=>acc
 |.exit _,acc=>acc
 |.ret,acc=>acc
 |.bad,acc=>acc
inductive adb where
 |j (A:ZT)
 |a (l:List Adj)
 |s (k off lo n:Nat)
 |u (n:Nat)
def H_ (H:PT adb) (n:Nat) (c:TC):TC:=match H.get n with|some (.a l)=>.adj l c|some (.s k off lo m)=>.split k off lo m c|_=>c
def DL (H:PT adb):SC->Nat->TC×Nat
 |.skip,n=>(H_ H n .skip,n+1)
 |.reg o p,n=>(H_ H n (.reg o p),n+1)
 |.seq a b,n=>match DL H a (n+1) with
  |(a',k)=>(match DL H b k with|(b',k')=>((match H.get n with|some (.j A)=>.jseq A a' b'|_=>.seq a' b'),k'))
 |.cond c a b,n=>match DL H a (n+1) with
  |(a',k)=>(match DL H b k with|(b',k')=>(H_ H n (.cond c a' b'),k'))
 |.block id b,n=>match DL H b (n+1) with|(b',k)=>((match H.get n with|some (.j A)=>.jblock A id b'|_=>.block id b'),k)
 |.loop b,n=>match DL H b (n+1) with|(b',k)=>((match H.get n with|some (.j A)=>.loop A b'|some (.u m)=>.unl m b'|_=>.bad),k)
 |.exit id,n=>(H_ H n (.exit id),n+1)
 |.ret,n=>(H_ H n .ret,n+1)
 |.defer f c t,n=>(.defer f c t,n+1)
 |.bad,n=>(.bad,n+1)
def ab2 (s:TS) (k off:Nat):Option (IntKind×Int):=match s.e.get k with
 |some (.f (.int kd) v)=>af (kd,v)
 |some (.ptr a o)=>(match s.h.get a with
  |some (.cells _ l)=>(match l[o+off]? with|some (.f (.int kd) v)=>af (kd,v)|_=>ah)
  |_=>ah)
 |_=>ah
def T6 (s:TS) (k off:Nat) (kd:IntKind) (v:Int):Option TS:=match s.e.get k with
 |some (.f (.int _) _)=>af ⟨s.e.set k (af (.f (.int kd) v)),s.h,s.nx⟩
 |some (.ptr a o)=>(match s.h.get a with
  |some (.cells ty l)=>af ⟨s.e,s.h.set a (af (.cells ty (splice l (o+off) [.f (.int kd) v]))),s.nx⟩
  |_=>ah)
 |_=>ah
def spl {R:Type} (v:Int) (f:Nat->Option R):Nat->Nat->Option R
 |_,0=>ah
 |i,m+1=>bcase (decide ((v:Int)=aO i)) (f i) (spl v f (i+1) m)
def ady {R:Type} (f:TS->(Ex->TS->Option R)->Option R):Nat->TS->(Ex->TS->Option R)->Option R
 |0,_,_=>ah
 |m+1,s,K=>f s λex s'=>match ex with
  |.normal=>ady f m s' K
  |ex=>K ex s'
def o_ {R:Type} (np:Nat) (con:FuncId->Option cg) (bX:TypeId->Option Ty) (inert:FuncId->Bool):TC->TS->(Ex->TS->Option R)->Option R
 |.skip,s,K=>K .normal s
 |.reg ops prs,s,K=>Lp con bX ops s [] λs' fs=>if FE fs prs then K .normal s' else ah
 |.seq a b,s,K=>o_ np con bX inert a s λex s'=>match ex with|.normal=>o_ np con bX inert b s' K|ex=>K ex s'
 |.jseq A a b,s,K=>jn (o_ np con bX inert a s λex s'=>match ex with
   |.normal=>obind (LV np A (a.asg 0) s s') λx=>af (.inr x)
   |ex=>obind (K ex s') λr=>af (.inl r)) λx=>(match G2 A (a.asg 0) s x with|some s'=>o_ np con bX inert b s' K|none=>ah)
 |.cond c a b,s,K=>match s.e.get c with
  |some (.f .bool t)=>bcase t (o_ np con bX inert a s K) (o_ np con bX inert b s K)
  |some .anyb=>Fo (o_ np con bX inert a s K) (o_ np con bX inert b s K)
  |_=>ah
 |.block id b,s,K=>o_ np con bX inert b s λex s'=>match ex with
  |.exit i=>if aC i id then K .normal s' else K (.exit i) s'
  |ex=>K ex s'
 |.jblock A id b,s,K=>jn (o_ np con bX inert b s λex s'=>match ex with
   |.normal=>obind (LV np A (b.asg 0) s s') λx=>af (.inr x)
   |.exit i=>if aC i id then obind (LV np A (b.asg 0) s s') λx=>af (.inr x) else obind (K (.exit i) s') λr=>af (.inl r)
   |.ret=>obind (K .ret s') λr=>af (.inl r)) λx=>(match G2 A (b.asg 0) s x with|some s'=>K .normal s'|none=>ah)
 |.loop A b,s,K=>obind (LV np A (b.asg 0) s s) λx=>iter (λx=>match G2 A (b.asg 0) s x with
   |some s'=>o_ np con bX inert b s' λex s'=>(match ex with
    |.normal=>obind (LV np A (b.asg 0) s s') λy=>af (.inl y)
    |ex=>obind (K ex s') λr=>af (.inr r))
   |none=>ah) x
 |.exit id,s,K=>K (.exit id) s
 |.ret,s,K=>K .ret s
 |.defer f caps t,s,K=>match FF s.e caps with
  |some l=>if inert f then K .normal ⟨s.e.set t (af (.clo f l)),s.h,s.nx⟩ else ah
  |none=>ah
 |.adj l c,s,K=>match Y' s l with|some s'=>o_ np con bX inert c s' K|none=>ah
 |.split k off lo n c,s,K=>match ab2 s k off with
  |some (kd,v)=>spl v (λi=>match T6 s k off kd (aO i) with|some s'=>o_ np con bX inert c s' K|none=>ah) lo n
  |none=>ah
 |.unl n b,s,K=>ady (λs K=>o_ np con bX inert b s K) n s K
 |.bad,_,_=>ah
def KK:Nat->List TV->iP
 |_,[]=>PT.leaf
 |k,x::r=>(KK (k+1) r).set k (af x)
def rvT (s:TS):RV->Option TV
 |.tmp t=>s.e.get t
 |.cell a sz ag=>match s.e.get a with
  |some (.ptr id off)=>(match s.h.get id with|some (.cells _ l)=>T2 l off sz ag|_=>ah)
  |_=>ah
def T8 (s:TS):List RV->Option (List TV)
 |[]=>af []
 |x::r=>match rvT s x with|some v=>(match T8 s r with|some l=>af (v::l)|none=>ah)|none=>ah
structure FT where
 pre:Tm
 post:Tm
 hints:PT adb
def Z_ (con:FuncId->Option cg) (bX:TypeId->Option Ty) (inert:FuncId->Bool) (F:Option SF) (D:FT) (x:D.pre.ty.den):Option D.post.ty.den:=
 match F with
 |some I=>(match C4 D.pre x with
  |some (args,h)=>if eM args.length I.nt&&eM D.pre.bs.length D.post.bs.length then
    o_ D.pre.bs.length con bX inert (DL D.hints I.code 0).1 ⟨KK 0 args,h,D.pre.bs.length⟩ λex s=>(match ex with
    |.exit _=>ah
    |_=>(match T8 s I.res with
     |some l=>(match EA D.pre.bs.length D.post l s.h with
      |some ⟨y,_,_,_⟩=>(match C4 D.post y with|some _=>af y|none=>ah)
      |none=>ah)
     |none=>ah)) else ah
  |none=>ah)
 |none=>ah
abbrev aM:Ty:=(.int .i64)
abbrev ky:Ty:=(.st (.pr .str (.pr aM (.pr aM (.pr .bool aM)))))
abbrev qY:Ty:=(.st (.pr .str .bool))
abbrev lq:Ty:=(.st (.pr .str aM))
abbrev oy:Ty:=(.st (.pr aM (.pr aM aM)))
abbrev mc:Ty:=(.st (.pr (.sl ky) (.pr (.sl qY) (.pr (.sl lq) (.pr (.sl .str) (.pr (.sl .str) (.sl oy)))))))
abbrev uW:Ty:=(.sl (.sl aM))
abbrev eX:Ty:=(.st (.pr aM (.pr (.sl aM) (.pr uW aM))))
abbrev qW:Ty:=(.st (.pr aM (.pr aM (.pr aM (.pr aM (.pr aM aM))))))
abbrev dZ:Ty:=(.st (.pr aM (.sl aM)))
abbrev pY:Ty:=(.sl .bool)
abbrev ic:Ty:=(.st (.pr aM (.pr aM .bool)))
abbrev Hw:Ty:=(.st (.pr (.sl dZ) (.pr aM (.pr pY (.sl ic)))))
abbrev fX:Ty:=(.st (.pr aM (.pr aM (.pr aM (.pr aM (.pr aM (.pr (.sl aM) (.sl aM))))))))
abbrev GZ:Ty:=(.st (.pr aM (.pr aM (.pr .str (.pr aM (.pr aM .str))))))
abbrev sY:Ty:=(.st (.pr .str (.pr aM (.pr (.sl .str) (.sl .sm)))))
abbrev NA:Ty:=(.st (.pr (.sl GZ) (.sl sY)))
abbrev xd:Ty:=(.st (.pr aM (.sl qW)))
abbrev uI:Ty:=(.st (.pr mc (.sl xd)))
abbrev vV:Ty:=(.st (.pr Hw (.pr (.sl aM) (.pr (.sl aM) (.sl eX)))))
abbrev iQ:Ty:=(.st (.pr Hw (.pr (.sl aM) (.pr (.sl aM) (.sl aM)))))
abbrev D7:Ty:=(.sl (.int .u8))
abbrev yO:Ty:=(.st (.pr D7 aM))
abbrev iv:Ty:=(.st (.pr aM aM))
abbrev nZ:Ty:=(.st (.pr mc (.sl fX)))
abbrev S4:=((List UInt8)×Int×Int×Bool×Int)
abbrev gP:=(List S4)
abbrev gz:=(List ((List UInt8)×Bool))
abbrev fw:=((List UInt8)×Int)
abbrev cf:=(List (List UInt8))
abbrev dz:=(gP×gz×(List fw)×cf×cf×List (Int×Int×Int))
abbrev rQ:=(gP×gz×(List fw)×cf×cf×(List (Int×Int×Int))×cf×Int×Int)
abbrev gG:=(List (Int×List Int))
abbrev dy:=(Int×Int×Bool)
abbrev o9:=(gG×Int×(List Bool)×List dy)
abbrev tY:=(Int×(List Int)×(List (List Int))×Int)
abbrev jR:=(Int×Int×Int×Int×Int×Int)
abbrev gj:=(Int×Int×Int×Int×Int×(List Int)×List Int)
abbrev aco:=(Int×Int×(List UInt8)×Int×Int×List UInt8)
abbrev sg:=(List aco)
abbrev sd:=((List UInt8)×Int×cf×List Sx)
abbrev yQ:=(Int×Int×Bool×Bool×Bool×Bool)
abbrev zW:=(dz×List (Int×List jR))
abbrev vR:=(Int×Int×Int×Int×Int)
abbrev eK:=(o9×(List Int)×(List Int)×List Int)
abbrev fG:=((List Int)×Int)
abbrev xc:=(o9×(List Int)×(List Int)×List tY)
abbrev Hr:=(Int×Int×(List UInt8)×(List UInt8)×Int×Int×List UInt8)
abbrev qX:=(sg×(List sd)×Int)
abbrev S5:=(Bool×List (List UInt8))
abbrev Ya23:=(Int×Int×tY×tY×Int×(List Int)×(List (List Int))×Int)
abbrev Ya24:=(tY×Int×Int×tY×Int×(List Int)×(List (List Int))×Int)
abbrev Ya25:=(tY×tY×Int×Int×Int×(List Int)×(List (List Int))×Int)
abbrev acq:=((List Sx)×yQ×fG×Bool×List (List UInt8))
abbrev Ya27:=(Int×Int×tY×Int×(List Int)×(List (List Int))×Int)
abbrev Ya28:=(tY×Int×Int×Int×(List Int)×(List (List Int))×Int)
abbrev Ya29:=(Int×Int×Int×(List Int)×(List (List Int))×Int)
abbrev Zb:=(Int×yQ×fG×Bool×List (List UInt8))
abbrev acp:=(Sx×yQ×fG×Bool×List (List UInt8))
abbrev ag3:=((Int×Int)×qX×(Bool×List Sx)×cf×List (List UInt8))
abbrev Mk:=(Sx×rQ×List jR)
abbrev D3:=(xc×gj×Bool)
abbrev acn:=((Sx×Int×Int×Int)×rQ×List jR)
abbrev ag2:=((Int×Int)×yQ×fG×Bool×List (List UInt8))
abbrev ag1:=(fw×yQ×fG×Bool×List (List UInt8))
abbrev Za:=(yQ×fG×S5×List Sx)
abbrev ag0:=(Xp×yQ×fG×Bool×List (List UInt8))
abbrev Ya42:=(tY×tY×tY×Int×Int)
abbrev acm:=((List Sx)×rQ×List jR)
abbrev aY {α:Type} (l:List α):Int:=aO (al l)
abbrev cE (n:Int):Int:=bc .i64 (n+1)
abbrev aE {R α:Type} (x:α):Option (R⊕α):=af (bP x)
abbrev cK {R α:Type} (x:R):Option (R⊕α):=af (mr x)
abbrev bA {R:Type} (T:Ty) (l:List T.den) (j:Int) (k:T.den->Option R):Option R:=chk (fe j (al l)) λ_=>lt (aJ (T:=T) l j) k
abbrev kB {R:Type} (T:Ty) (l:List T.den) (j:Int) (k:T.den->Option R):Option R:=chk (fe j (al l)) λ_=>chk (fe j (al l)) λ_=>lt (aJ (T:=T) l j) k
abbrev v7 {R α:Type} (j:Int) (l:List α) (k:Option R):Option R:=chk (fe j (al l)) λ_=>k
abbrev bB {R:Type} (b:Bool) (k:Option R):Option R:=chk b λ_=>k
abbrev bf {R:Type} (a b:Int) (t f:Option R):Option R:=bcase (decide (a=b)) t f
abbrev je {R:Type} (a b:Int) (t f:Option R):Option R:=bcase (!decide (a=b)) t f
abbrev bx {R:Type} (a b:Int) (t f:Option R):Option R:=bcase (fQ a b) t f
abbrev iH {R:Type} (a b:Int) (t f:Option R):Option R:=bcase (c7 a b) t f
def ck {R:Type} (b:Bool) (k:Option R):Option R:=chk b λ_=>chk b λ_=>k
def eh (s:Sx):Sx:=nN (Sx.op s,Sx.line s,Sx.name s,Sx.arg s,Sx.index s,d_ (Xp.op (Sx.expr s),Xp.n (Sx.expr s),Xp.name (Sx.expr s),Xp.l (Sx.expr s)),Sx.body s,Sx.els s)
def ko (x:Unit):Option cf:=
 (af ([[118,97,114],[118,111,108,97,116,105,108,101],[109,117,116,101,120],[114,119,108,111,99,107],[99,111,110,100],[102,117,116,117,114,101],[116,104,114,101,97,100],[105,102],[101,108,115,101],[119,104,105,108,101],[108,111,99,107],[114,101,97,100],[119,114,105,116,101],[116,114,97,110,115,97,99,116,105,111,110],[97,116,111,109,105,99],[119,97,105,116],[110,111,116,105,102,121],[110,111,116,105,102,121,97,108,108],[115,112,97,119,110],[106,111,105,110],[115,101,116],[103,101,116]]))
def jF (x:List UInt8):Option (Bool):=
 (obind (ko ()) λI=>(iter (σ:=Int) (λx2=>(bx x2 (aY I) (bA (.str) I x2 λJ=>(bcase (decide ((J:List UInt8)=x)) (aE ai) (cK (cE x2)))) (aE aj))) 0))
def ly (x:Int):Option (Bool):=
 (jn (α:=Bool) (iH 97 x (iH x 122 (aE ai) (iH 65 x (aE (c7 x 90)) (aE aj))) (iH 65 x (aE (c7 x 90)) (aE aj))) λx1=>(af x1))
def rC (x:Int):Option (Bool):=
 (jn (α:=Bool) (iH 48 x (aE (c7 x 57)) (aE aj)) λx1=>(af x1))
def pn (x:Int):Option (Bool):=
 (jn (α:=Bool) (obind (ly x) λJ=>(bcase J (aE ai) (obind (rC x) λI=>(bcase I (aE ai) (aE (decide ((x:Int)=95))))))) λx1=>(af x1))
def fg (x:List UInt8):Option (Bool):=
 (jn (α:=Bool) (bx (aY x) 1 (aE ai) (bx 12 (aY x) (aE ai) (v7 0 x (obind (ly (Au x 0)) λU=>(bcase (!U) (aE ai) (obind (jF x) λM=>(aE M))))))) λx1=>(bcase x1 (af aj) (iter (σ:=Int) (λI=>(bx I (aY x) (v7 I x (obind (pn (Au x I)) λJ=>(bcase (!J) (aE aj) (cK (cE I))))) (aE ai))) 0)))
def fY (x:Bool):Option (Int):=
 (bcase x (af 1) (af 0))
def ul (x:Int×Int):Option (Int×Bool):=
 (bf x.1 4 (af ((bc .i64 (0-x.2)),ai)) (bf x.1 5 (obind (fY (decide ((x.2:Int)=0))) λI=>(af (I,ai))) (af (0,aj))))
def su (x:Int×Int×Int):Option (Int×Bool):=
 (bf x.1 6 (af ((bc .i64 (x.2.1+x.2.2)),ai)) (bf x.1 7 (af ((bc .i64 (x.2.1-x.2.2)),ai)) (bf x.1 8 (af ((bc .i64 (x.2.1*x.2.2)),ai)) (bf x.1 9 (bf x.2.2 0 (af (0,ai)) (bB (!decide ((x.2.2:Int)=0)) (af ((bc .i64 (Int.tdiv x.2.1 x.2.2)),ai)))) (bf x.1 10 (bf x.2.2 0 (af (0,ai)) (bB (!decide ((x.2.2:Int)=0)) (af ((me x.2.1 x.2.2),ai)))) (bf x.1 11 (obind (fY (decide ((x.2.1:Int)=x.2.2))) λy1=>(af (y1,ai))) (bf x.1 12 (obind (fY (!decide ((x.2.1:Int)=x.2.2))) λy2=>(af (y2,ai))) (bf x.1 13 (obind (fY (fQ x.2.1 x.2.2)) λy3=>(af (y3,ai))) (bf x.1 14 (obind (fY (c7 x.2.1 x.2.2)) λy4=>(af (y4,ai))) (bf x.1 15 (obind (fY (fQ x.2.2 x.2.1)) λy5=>(af (y5,ai))) (bf x.1 16 (obind (fY (c7 x.2.2 x.2.1)) λZ=>(af (Z,ai))) (bf x.1 17 (jn (α:=Int×Bool) (je x.2.1 0 (obind (fY (!decide ((x.2.2:Int)=0))) λY=>(aE (Y,ai))) (obind (fY aj) λU=>(aE (U,ai)))) λx7=>(af x7)) (bf x.1 18 (jn (α:=Int×Bool) (je x.2.1 0 (obind (fY ai) λJ=>(aE (J,ai))) (obind (fY (!decide ((x.2.2:Int)=0))) λI=>(aE (I,ai)))) λM=>(af M)) (af (0,aj)))))))))))))))
def rA (x:Int×Int):Option (Int):=
 (bx x.2 1 (af 0) (bB (!decide ((x.2:Int)=0)) (jn (α:=Int) (bx (me x.1 x.2) 0 (aE (bc .i64 ((me x.1 x.2)+x.2))) (aE (me x.1 x.2))) λx1=>(af x1))))
def ml (x:Int):Option (Int):=
 (jn (α:=Bool) (bf x 1 (aE ai) (aE (decide ((x:Int)=2)))) λx1=>(bcase x1 (af 0) (jn (α:=Bool) (iH 3 x (aE (c7 x 5)) (aE aj)) λx2=>(bcase x2 (af 1) (jn (α:=Bool) (iH 6 x (aE (c7 x 18)) (aE aj)) λI=>(bcase I (af 2) (af (-1))))))))
def l9 (rr02_ShapedExpr:Xp->Option (Bool)) (x:Xp):Option (Bool):=
 (jn (α:=Bool×Xp) (bf (Xp.op x) 2 (aE (ai,d_ ((Xp.op x),(Xp.n x),(Xp.name x),(Xp.l x)))) (aE ((decide (((Xp.op x):Int)=3)),d_ ((Xp.op x),(Xp.n x),(Xp.name x),(Xp.l x))))) λx1=>(jn (α:=Bool×Xp) (obind (ml (Xp.op x1.2)) λY=>(je Y (aO (al (Xp.l x1.2))) (aE (ai,d_ ((Xp.op x1.2),(Xp.n x1.2),(Xp.name x1.2),(Xp.l x1.2)))) (bcase ((x1.1==(!decide (((Xp.name x1.2):List UInt8)=([])))) !=ai) (aE (ai,d_ ((Xp.op x1.2),(Xp.n x1.2),(Xp.name x1.2),(Xp.l x1.2)))) (bcase x1.1 (obind (fg (Xp.name x1.2)) λU=>(bcase (!U) (aE (ai,d_ ((Xp.op x1.2),(Xp.n x1.2),(Xp.name x1.2),(Xp.l x1.2)))) (bx (Xp.n x1.2) 0 (aE (ai,d_ ((Xp.op x1.2),(Xp.n x1.2),(Xp.name x1.2),(Xp.l x1.2)))) (je (Xp.op x1.2) 1 (aE ((!decide (((Xp.n x1.2):Int)=0)),d_ ((Xp.op x1.2),(Xp.n x1.2),(Xp.name x1.2),(Xp.l x1.2)))) (aE (aj,d_ ((Xp.op x1.2),(Xp.n x1.2),(Xp.name x1.2),(Xp.l x1.2)))))))) (bx (Xp.n x1.2) 0 (aE (ai,d_ ((Xp.op x1.2),(Xp.n x1.2),(Xp.name x1.2),(Xp.l x1.2)))) (je (Xp.op x1.2) 1 (aE ((!decide (((Xp.n x1.2):Int)=0)),d_ ((Xp.op x1.2),(Xp.n x1.2),(Xp.name x1.2),(Xp.l x1.2)))) (aE (aj,d_ ((Xp.op x1.2),(Xp.n x1.2),(Xp.name x1.2),(Xp.l x1.2)))))))))) λx2=>(bcase x2.1 (af aj) (iter (σ:=Int×Xp) (λI=>(bx I.1 (aO (al (Xp.l I.2))) (bA (.ex) (Xp.l I.2) I.1 λJ=>(obind (rr02_ShapedExpr J) λM=>(bcase (!M) (aE aj) (cK ((cE I.1),d_ ((Xp.op I.2),(Xp.n I.2),(Xp.name I.2),(Xp.l I.2))))))) (aE ai))) (0,d_ ((Xp.op x2.2),(Xp.n x2.2),(Xp.name x2.2),(Xp.l x2.2)))))))
def ia:Nat->Xp->Option (Bool)
 |0,_=>ah
 |n+1,x=>l9 (ia n) x
theorem sF (n:Nat) (x:Xp):ia (n+1) x=l9 (ia n) x:=rfl
def ja (x:Xp):Option (Bool):=ia fuel x
def pm (x:Xp):Option (Bool):=
 (jn (α:=Bool) (bf (Xp.op x) 0 (bf (Xp.n x) 0 (bcase (decide (((Xp.name x):List UInt8)=([]))) (aE (decide (((aO (al (Xp.l x))):Int)=0))) (aE aj)) (aE aj)) (aE aj)) λx1=>(af x1))
def j6 (rr02_ShapedStmt:Sx->Option (Bool)) (rr02_ShapedStmts:(List Sx)->Option (Bool)) (x:Sx):Option (Bool):=
 (jn (α:=Bool×Sx) (bx (Sx.op x) 1 (aE (ai,eh x)) (aE ((fQ 15 (Sx.op x)),eh x))) λx1=>(bcase x1.1 (af aj) (jn (α:=Bool×Sx) (bf (Sx.op x1.2) 2 (aE (ai,eh x1.2)) (bf (Sx.op x1.2) 3 (aE (ai,eh x1.2)) (bf (Sx.op x1.2) 7 (aE (ai,eh x1.2)) (aE ((decide (((Sx.op x1.2):Int)=8)),eh x1.2))))) λx2=>(jn (α:=Bool×Sx) (bcase x2.1 (bcase (!decide (((Sx.name x2.2):List UInt8)=([]))) (aE (ai,eh x2.2)) (bcase (!x2.1) (obind (fg (Sx.name x2.2)) λy4=>(aE ((!y4),eh x2.2))) (aE (aj,eh x2.2)))) (bcase (!x2.1) (obind (fg (Sx.name x2.2)) λy5=>(aE ((!y5),eh x2.2))) (aE (aj,eh x2.2)))) λU=>(bcase U.1 (af aj) (jn (α:=Bool×Sx) (bf (Sx.op U.2) 15 (obind (fg (Sx.arg U.2)) λy7=>(bcase (!y7) (aE (ai,eh U.2)) (je (Sx.op U.2) 15 (aE ((!decide (((Sx.arg U.2):List UInt8)=([]))),eh U.2)) (aE (aj,eh U.2))))) (je (Sx.op U.2) 15 (aE ((!decide (((Sx.arg U.2):List UInt8)=([]))),eh U.2)) (aE (aj,eh U.2)))) λM=>(bcase M.1 (af aj) (jn (α:=Bool×Sx) (bx 1 (aO (al (Sx.index M.2))) (aE (ai,eh M.2)) (je (Sx.op M.2) 1 (bx 0 (aO (al (Sx.index M.2))) (aE (ai,eh M.2)) (bf (aO (al (Sx.index M.2))) 1 (bA (.ex) (Sx.index M.2) 0 λz9=>(obind (ja z9) λy10=>(aE ((!y10),eh M.2)))) (aE (aj,eh M.2)))) (bf (aO (al (Sx.index M.2))) 1 (bA (.ex) (Sx.index M.2) 0 λz11=>(obind (ja z11) λy12=>(aE ((!y12),eh M.2)))) (aE (aj,eh M.2))))) λZ=>(bcase Z.1 (af aj) (jn (α:=Bool×Sx) (bf (Sx.op Z.2) 1 (aE (ai,eh Z.2)) (bf (Sx.op Z.2) 2 (aE (ai,eh Z.2)) (bf (Sx.op Z.2) 3 (aE (ai,eh Z.2)) (aE ((decide (((Sx.op Z.2):Int)=14)),eh Z.2))))) λI=>(jn (α:=Bool×Sx) (bcase I.1 (obind (ja (d_ ((Xp.op (Sx.expr I.2)),(Xp.n (Sx.expr I.2)),(Xp.name (Sx.expr I.2)),(Xp.l (Sx.expr I.2))))) λy15=>(bcase (!y15) (aE (ai,eh I.2)) (bcase (!I.1) (obind (pm (d_ ((Xp.op (Sx.expr I.2)),(Xp.n (Sx.expr I.2)),(Xp.name (Sx.expr I.2)),(Xp.l (Sx.expr I.2))))) λy16=>(aE ((!y16),eh I.2))) (aE (aj,eh I.2))))) (bcase (!I.1) (obind (pm (d_ ((Xp.op (Sx.expr I.2)),(Xp.n (Sx.expr I.2)),(Xp.name (Sx.expr I.2)),(Xp.l (Sx.expr I.2))))) λy17=>(aE ((!y17),eh I.2))) (aE (aj,eh I.2)))) λY=>(bcase Y.1 (af aj) (jn (α:=Bool×Sx) (iH 2 (Sx.op Y.2) (aE ((c7 (Sx.op Y.2) 8),eh Y.2)) (aE (aj,eh Y.2))) λJ=>(jn (α:=Bool×Sx) (bcase (!J.1) (bx 0 (aO (al (Sx.body J.2))) (aE (ai,eh J.2)) (je (Sx.op J.2) 2 (aE ((fQ 0 (aO (al (Sx.els J.2)))),eh J.2)) (aE (aj,eh J.2)))) (je (Sx.op J.2) 2 (aE ((fQ 0 (aO (al (Sx.els J.2)))),eh J.2)) (aE (aj,eh J.2)))) λx19=>(bcase x19.1 (af aj) (jn (α:=Bool) (obind (rr02_ShapedStmts (Sx.body x19.2)) λy21=>(bcase y21 (obind (rr02_ShapedStmts (Sx.els x19.2)) λy22=>(aE y22)) (aE aj))) λx20=>(af x20)))))))))))))))))
def jx (rr02_ShapedStmt:Sx->Option (Bool)) (rr02_ShapedStmts:(List Sx)->Option (Bool)) (x:List Sx):Option (Bool):=
 (iter (σ:=Int) (λx1=>(bx x1 (aY x) (v7 x1 x (obind (rr02_ShapedStmt (aJ (T:=.sm) x x1)) λI=>(bcase (!I) (aE aj) (cK (cE x1))))) (aE ai))) 0)
mutual
def eC:Nat->Sx->Option (Bool)
 |0,_=>ah
 |n+1,x=>j6 (eC n) (dG n) x
def dG:Nat->(List Sx)->Option (Bool)
 |0,_=>ah
 |n+1,x=>jx (eC n) (dG n) x
end
theorem zu (n:Nat) (x:Sx):eC (n+1) x=j6 (eC n) (dG n) x:=rfl
theorem yL (n:Nat) (x:List Sx):dG (n+1) x=jx (eC n) (dG n) x:=rfl
def nL (x:List Sx):Option (Bool):=dG fuel x
def jY (x:Int×Int×(List UInt8)×Int×Int×List UInt8):Option (Bool):=
 (jn (α:=Bool×Int×Int×(List UInt8)×Int×Int×List UInt8) (bx x.1 1 (aE (ai,x)) (bx 6 x.1 (aE (ai,x)) (obind (fg x.p2) λM=>(bcase (!M) (aE (ai,x)) (bx x.p3 0 (aE (ai,x)) (je x.1 1 (aE ((!decide ((x.p3:Int)=0)),x)) (aE (aj,x)))))))) λx1=>(bcase x1.1 (af aj) (jn (α:=Bool×Int×Int×(List UInt8)×Int×Int×List UInt8) (bf x1.2.1 5 (obind (fg x1.q6) λJ=>(bcase (!J) (aE (ai,x1.2)) (je x1.2.1 5 (aE ((!decide ((x1.q6:List UInt8)=([]))),x1.2)) (aE (aj,x1.2))))) (je x1.2.1 5 (aE ((!decide ((x1.q6:List UInt8)=([]))),x1.2)) (aE (aj,x1.2)))) λI=>(bcase I.1 (af aj) (jn (α:=Bool) (bx (-9223372036854775808) I.p5 (bf I.p5 0 (aE ai) (bf I.2.1 1 (aE ai) (aE (decide ((I.2.1:Int)=2))))) (aE aj)) λU=>(af U))))))
def pK (x:sg×List sd):Option (Bool):=
 (iter (σ:=Int×sg×List sd) (λx1=>(bx x1.1 (aY x1.2.1) (bA GZ x1.2.1 x1.1 λz2=>(obind (jY z2) λy3=>(bcase (!y3) (aE aj) (cK ((cE x1.1),x1.2))))) (obind (iter (σ:=Int×sg×List sd) (λJ=>(bx J.1 (aY J.2.2) (bA sY J.2.2 J.1 λz5=>(iter (σ:=Int×(sg×List sd)×(List UInt8)×Int×cf×List Sx) (λI=>(bx I.1 (aY I.p4) (bA (.str) I.p4 I.1 λZ=>(obind (fg Z) λy8=>(bcase (!y8) (aE (bP aj)) (cK ((cE I.1),I.2))))) (obind (jn (α:=Bool×sg×List sd) (obind (fg I.p2) λU=>(bcase (!U) (aE (ai,I.2.1)) (obind (nL I.q5) λM=>(aE ((!M),I.2.1))))) λY=>(bcase Y.1 (aE aj) (cK ((cE J.1),Y.2)))) λr=>af (bP r)))) (0,J.2,z5))) (aE (fQ 0 (aY J.2.2))))) (0,x1.2)) λr=>af (bP r)))) (0,x))
def iY (x:cf×List UInt8):Option (Int):=
 (iter (σ:=Int) (λx1=>(bx x1 (aY x.1) (bA (.str) x.1 x1 λI=>(bcase (decide ((I:List UInt8)=x.2)) (aE x1) (cK (cE x1)))) (aE (-1)))) 0)
def h_ (x:sg×List UInt8):Option (Int):=
 (iter (σ:=Int) (λx1=>(bx x1 (aY x.1) (bA GZ x.1 x1 λI=>(bcase (decide ((I.2.2.1:List UInt8)=x.2)) (aE x1) (cK (cE x1)))) (aE (-1)))) 0)
def gR (x:(List sd)×List UInt8):Option (Int):=
 (iter (σ:=Int) (λx1=>(bx x1 (aY x.1) (bA sY x.1 x1 λI=>(bcase (decide ((I.1:List UInt8)=x.2)) (aE x1) (cK (cE x1)))) (aE (-1)))) 0)
def pJ (x:(sg×List sd)×Int×List UInt8):Option (Int):=
 (jn (α:=Bool×sg×List sd) (iH 0 x.2.1 (bx x.2.1 (aY x.1.2) (bA sY x.1.2 x.2.1 λZ=>(obind (iY (Z.2.2.1,x.2.2)) λy3=>(aE ((c7 0 y3),x.1)))) (aE (aj,x.1))) (aE (aj,x.1))) λx1=>(bcase x1.1 (af 8) (obind (h_ (x1.2.1,x.2.2)) λJ=>(bx J 0 (obind (gR (x1.2.2,x.2.2)) λy5=>(iH 0 y5 (af 7) (af 0))) (v7 J x1.2.1 (lt ((aJ (T:=GZ) x1.2.1 J).1) λI=>(bf I 1 (bA GZ x1.2.1 J λY=>(je Y.2.2.2.1 0 (af 2) (af 1))) (bf I 2 (af 1) (jn (α:=Bool×sg×List sd) (bf I 3 (aE ((decide ((I:Int)=3)),x1.2)) (bf I 4 (aE ((decide ((I:Int)=4)),x1.2)) (bf I 5 (aE ((decide ((I:Int)=5)),x1.2)) (aE ((decide ((I:Int)=6)),x1.2))))) λM=>(bcase M.1 (bA GZ M.2.1 J λU=>(af U.1)) (af 9)))))))))))
def gE (x:(sg×List sd)×Int×(List UInt8)×Int×Int):Option (Int):=
 (obind (pJ (x.1,x.2.1,x.p2)) λI=>(bf I 0 (af 5) (jn (α:=Bool) (je I x.p3 (aE (!decide ((I:Int)=x.q4))) (aE aj)) λx2=>(bcase x2 (af 6) (af 0)))))
def ux (rr04_Nodes:Xp->Option (Int×Int)) (x:Xp):Option (Int×Int):=
 (iter (σ:=(Int×Int×Int)×Xp) (λx1=>(bx x1.1.2.2 (aO (al (Xp.l x1.2))) (bA (.ex) (Xp.l x1.2) x1.1.2.2 λJ=>(obind (rr04_Nodes J) λI=>(cK (((bc .i64 (x1.1.1+I.1)),(iD x1.1.2.1 I.2),(cE x1.1.2.2)),d_ ((Xp.op x1.2),(Xp.n x1.2),(Xp.name x1.2),(Xp.l x1.2)))))) (aE (x1.1.1,(cE x1.1.2.1))))) ((1,0,0),d_ ((Xp.op x),(Xp.n x),(Xp.name x),(Xp.l x))))
def nh:Nat->Xp->Option (Int×Int)
 |0,_=>ah
 |n+1,x=>ux (nh n) x
theorem yk (n:Nat) (x:Xp):nh (n+1) x=ux (nh n) x:=rfl
def BU (x:Xp):Option (Int×Int):=nh fuel x
def uw (rr04_names:((sg×List sd)×Int×Xp)->Option (Int)) (x:(sg×List sd)×Int×Xp):Option (Int):=
 (jn (α:=Int×(sg×List sd)×Xp) (bf (Xp.op x.2.2) 2 (obind (gE (x.1,x.2.1,(Xp.name x.2.2),8,1)) λZ=>(aE (Z,x.1,d_ ((Xp.op x.2.2),(Xp.n x.2.2),(Xp.name x.2.2),(Xp.l x.2.2))))) (bf (Xp.op x.2.2) 3 (obind (gE (x.1,x.2.1,(Xp.name x.2.2),2,2)) λY=>(aE (Y,x.1,d_ ((Xp.op x.2.2),(Xp.n x.2.2),(Xp.name x.2.2),(Xp.l x.2.2))))) (aE (0,x.1,d_ ((Xp.op x.2.2),(Xp.n x.2.2),(Xp.name x.2.2),(Xp.l x.2.2)))))) λx1=>(iter (σ:=(Int×Int)×(sg×List sd)×Xp) (λI=>(jn (α:=Bool×(sg×List sd)×Xp) (bx I.1.2 (aO (al (Xp.l I.2.2))) (aE ((decide ((I.1.1:Int)=0)),I.2.1,d_ ((Xp.op I.2.2),(Xp.n I.2.2),(Xp.name I.2.2),(Xp.l I.2.2)))) (aE (aj,I.2.1,d_ ((Xp.op I.2.2),(Xp.n I.2.2),(Xp.name I.2.2),(Xp.l I.2.2))))) λJ=>(bcase J.1 (bA (.ex) (Xp.l J.2.2) I.1.2 λM=>(obind (rr04_names (J.2.1,x.2.1,M)) λU=>(cK ((U,(cE I.1.2)),J.2.1,d_ ((Xp.op J.2.2),(Xp.n J.2.2),(Xp.name J.2.2),(Xp.l J.2.2)))))) (aE I.1.1)))) ((x1.1,0),x1.2.1,d_ ((Xp.op x1.2.2),(Xp.n x1.2.2),(Xp.name x1.2.2),(Xp.l x1.2.2)))))
def ng:Nat->((sg×List sd)×Int×Xp)->Option (Int)
 |0,_=>ah
 |n+1,x=>uw (ng n) x
theorem yi (n:Nat) (x:(sg×List sd)×Int×Xp):ng (n+1) x=uw (ng n) x:=rfl
def BT (x:(sg×List sd)×Int×Xp):Option (Int):=ng fuel x
def mj (x:(sg×List sd)×Int×Xp):Option (Int):=
 (obind (ja (d_ ((Xp.op x.2.2),(Xp.n x.2.2),(Xp.name x.2.2),(Xp.l x.2.2)))) λU=>(bcase (!U) (af 3) (obind (BU (d_ ((Xp.op x.2.2),(Xp.n x.2.2),(Xp.name x.2.2),(Xp.l x.2.2)))) λJ=>(jn (α:=Bool×(sg×List sd)×Xp) (bx 24 J.1 (aE (ai,x.1,d_ ((Xp.op x.2.2),(Xp.n x.2.2),(Xp.name x.2.2),(Xp.l x.2.2)))) (aE ((fQ 6 J.2),x.1,d_ ((Xp.op x.2.2),(Xp.n x.2.2),(Xp.name x.2.2),(Xp.l x.2.2))))) λI=>(bcase I.1 (af 2) (obind (BT (I.2.1,x.2.1,d_ ((Xp.op I.2.2),(Xp.n I.2.2),(Xp.name I.2.2),(Xp.l I.2.2)))) λM=>(af M)))))))
def c9 (x:Bool):Option (Int):=
 (bcase x (af 7) (af 0))
def iX (x:Int×Int):Option (Int):=
 (je x.1 0 (af x.1) (af x.2))
def dU (x:(Int×Int×List UInt8)×qX×(Bool×List Sx)×cf×List (List UInt8)):Option (Bool×qX×(Bool×List Sx)×cf×List (List UInt8)):=
 (iter (σ:=Int×qX×(Bool×List Sx)×cf×List (List UInt8)) (λx1=>(bx x1.1 (aY x1.p2.2) (kB (.sm) x1.p2.2 x1.1 λI=>(jn (α:=Bool×qX×(Bool×List Sx)×cf×List (List UInt8)) (bf (Sx.op I) x.1.1 (bcase (decide ((x.1.2.2:List UInt8)=([]))) (aE (ai,x1.2)) (aE ((decide (((Sx.name I):List UInt8)=x.1.2.2)),x1.2))) (bf (Sx.op I) x.1.2.1 (bcase (decide ((x.1.2.2:List UInt8)=([]))) (aE (ai,x1.2)) (aE ((decide (((Sx.name I):List UInt8)=x.1.2.2)),x1.2))) (aE (aj,x1.2)))) λJ=>(bcase J.1 (aE (ai,J.2)) (cK ((cE x1.1),J.2))))) (aE (aj,x1.2)))) (0,x.2))
def mi (x:Sx×qX×(Bool×List Sx)×cf×List (List UInt8)):Option (Int×qX×(Bool×List Sx)×cf×List (List UInt8)):=
 (obind (dU ((7,7,[]),x.2)) λy1=>(bB (aC (al x.q4) (al y1.q4)&&(aC (al x.p3) (al y1.p3)&&(((x.p2.1==y1.p2.1)&&ai)&&aC (al x.p2.2) (al y1.p2.2)&&ai))) (obind (dU ((8,8,[]),y1.2)) λy2=>(bB (aC (al y1.q4) (al y2.q4)&&(aC (al y1.p3) (al y2.p3)&&(((y1.p2.1==y2.p2.1)&&ai)&&aC (al y1.p2.2) (al y2.p2.2)&&ai))) (obind (dU ((3,3,[]),y2.2)) λy3=>(bB (aC (al y2.q4) (al y3.q4)&&(aC (al y2.p3) (al y3.p3)&&(((y2.p2.1==y3.p2.1)&&ai)&&aC (al y2.p2.2) (al y3.p2.2)&&ai))) (bf (Sx.op x.1) 1 (bf (aO (al (Sx.index x.1))) 0 (obind (gE ((x.2.1.1,x.2.1.2.1),x.2.1.2.2,(Sx.name x.1),8,1)) λy4=>(obind (mj ((x.2.1.1,x.2.1.2.1),x.2.1.2.2,d_ ((Xp.op (Sx.expr x.1)),(Xp.n (Sx.expr x.1)),(Xp.name (Sx.expr x.1)),(Xp.l (Sx.expr x.1))))) λy5=>(obind (iX (y4,y5)) λy6=>(af (y6,y3.2))))) (obind (gE ((x.2.1.1,x.2.1.2.1),x.2.1.2.2,(Sx.name x.1),2,2)) λy7=>(bA (.ex) (Sx.index x.1) 0 λz8=>(obind (mj ((x.2.1.1,x.2.1.2.1),x.2.1.2.2,z8)) λy9=>(obind (mj ((x.2.1.1,x.2.1.2.1),x.2.1.2.2,d_ ((Xp.op (Sx.expr x.1)),(Xp.n (Sx.expr x.1)),(Xp.name (Sx.expr x.1)),(Xp.l (Sx.expr x.1))))) λy10=>(obind (iX (y9,y10)) λy11=>(obind (iX (y7,y11)) λy12=>(af (y12,y3.2))))))))) (jn (α:=Bool×qX×(Bool×List Sx)×Sx×(sg×List sd)×cf×List (List UInt8)) (bf (Sx.op x.1) 2 (aE ((decide (((Sx.op x.1):Int)=2)),y3.2.1,y3.p2,eh x.1,(x.2.1.1,x.2.1.2.1),y3.q3)) (aE ((decide (((Sx.op x.1):Int)=3)),y3.2.1,y3.p2,eh x.1,(x.2.1.1,x.2.1.2.1),y3.q3))) λM=>(bcase M.1 (obind (mj (M.p4,x.2.1.2.2,d_ ((Xp.op (Sx.expr M.p3)),(Xp.n (Sx.expr M.p3)),(Xp.name (Sx.expr M.p3)),(Xp.l (Sx.expr M.p3))))) λy14=>(af (y14,M.2.1,M.p2,M.q5))) (bf (Sx.op x.1) 4 (jn (α:=Int×qX×(Bool×List Sx)×cf×List (List UInt8)) (obind (gE (M.p4,x.2.1.2.2,(Sx.name M.p3),3,3)) λy16=>(bcase y1.1 (obind (c9 ai) λy17=>(obind (iX (y16,y17)) λy18=>(aE (y18,M.2.1,M.p2,M.q5)))) (obind (dU ((4,4,(Sx.name M.p3)),M.2.1,M.p2,M.q5)) λy19=>(bB (aC (al M.q6) (al y19.q4)&&(aC (al M.p5) (al y19.p3)&&(((M.p2.1==y19.p2.1)&&ai)&&aC (al M.p2.2) (al y19.p2.2)&&ai))) (obind (c9 y19.1) λy20=>(obind (iX (y16,y20)) λy21=>(aE (y21,y19.2)))))))) λx15=>(af x15)) (jn (α:=Bool×qX×(Bool×List Sx)×Sx×(sg×List sd)×cf×List (List UInt8)) (bf (Sx.op x.1) 5 (aE ((decide (((Sx.op x.1):Int)=5)),M.2.1,M.p2,eh M.p3,M.q4)) (aE ((decide (((Sx.op x.1):Int)=6)),M.2.1,M.p2,eh M.p3,M.q4))) λJ=>(bcase J.1 (jn (α:=Int×qX×(Bool×List Sx)×cf×List (List UInt8)) (obind (gE (J.p4,x.2.1.2.2,(Sx.name J.p3),4,4)) λy24=>(bcase y1.1 (obind (c9 ai) λy25=>(obind (iX (y24,y25)) λy26=>(aE (y26,J.2.1,J.p2,J.q5)))) (obind (dU ((5,6,(Sx.name J.p3)),J.2.1,J.p2,J.q5)) λy27=>(bB (aC (al J.q6) (al y27.q4)&&(aC (al J.p5) (al y27.p3)&&(((J.p2.1==y27.p2.1)&&ai)&&aC (al J.p2.2) (al y27.p2.2)&&ai))) (obind (c9 y27.1) λy28=>(obind (iX (y24,y28)) λy29=>(aE (y29,y27.2)))))))) λx23=>(af x23)) (bf (Sx.op x.1) 7 (obind (c9 y1.1) λy30=>(af (y30,J.2.1,J.p2,J.q5))) (bf (Sx.op x.1) 8 (jn (α:=Int×qX×(Bool×List Sx)×cf×List (List UInt8)) (bcase y1.1 (obind (c9 ai) λy32=>(aE (y32,J.2.1,J.p2,J.q5))) (obind (c9 y2.1) λy33=>(aE (y33,J.2.1,J.p2,J.q5)))) λx31=>(af x31)) (jn (α:=Bool×qX×(Bool×List Sx)×Sx×(sg×List sd)×cf×List (List UInt8)) (bf (Sx.op x.1) 9 (aE ((decide (((Sx.op x.1):Int)=9)),J.2.1,J.p2,eh J.p3,J.q4)) (bf (Sx.op x.1) 10 (aE ((decide (((Sx.op x.1):Int)=10)),J.2.1,J.p2,eh J.p3,J.q4)) (aE ((decide (((Sx.op x.1):Int)=11)),J.2.1,J.p2,eh J.p3,J.q4)))) λI=>(bcase I.1 (obind (gE (I.p4,x.2.1.2.2,(Sx.name I.p3),5,5)) λy35=>(je y35 0 (af (y35,I.2.1,I.p2,I.q5)) (obind (h_ (I.p4.1,(Sx.name I.p3))) λy36=>(bA GZ I.p4.1 y36 λz37=>(obind (dU ((4,4,z37.2.2.2.2.2),I.2.1,I.p2,I.q5)) λy38=>(bB (aC (al I.q6) (al y38.q4)&&(aC (al I.p5) (al y38.p3)&&(((I.p2.1==y38.p2.1)&&ai)&&aC (al I.p2.2) (al y38.p2.2)&&ai))) (jn (α:=Int×qX×(Bool×List Sx)×cf×List (List UInt8)) (bcase y1.1 (obind (c9 ai) λy40=>(aE (y40,y38.2))) (bcase (!y38.1) (obind (c9 ai) λy41=>(aE (y41,y38.2))) (bf (Sx.op I.p3) 9 (obind (c9 y2.1) λy42=>(aE (y42,y38.2))) (obind (c9 aj) λy43=>(aE (y43,y38.2)))))) λx39=>(af x39)))))))) (bf (Sx.op x.1) 12 (obind (gE (I.p4,x.2.1.2.2,(Sx.name I.p3),7,7)) λy44=>(je y44 0 (af (y44,I.2.1,I.p2,I.q5)) (obind (gR (I.p4.2,(Sx.name I.p3))) λy45=>(jn (α:=Bool×qX×(Bool×List Sx)×Sx×cf×List (List UInt8)) (bcase y1.1 (aE (ai,I.2.1,I.p2,eh I.p3,I.q5)) (bcase y2.1 (aE (ai,I.2.1,I.p2,eh I.p3,I.q5)) (bcase y3.1 (aE (ai,I.2.1,I.p2,eh I.p3,I.q5)) (bf y45 x.2.1.2.2 (aE (ai,I.2.1,I.p2,eh I.p3,I.q5)) (aE ((decide ((y45:Int)=0)),I.2.1,I.p2,eh I.p3,I.q5)))))) λU=>(bcase U.1 (af (7,U.2.1,U.p2,U.q4)) (obind (iY (U.p4,(Sx.name U.p3))) λy47=>(iH 0 y47 (af (8,U.2.1,U.p2,U.q4)) (bB (a_ (al U.p4+al ([(Sx.name U.p3)])) 16) (af (0,U.2.1,U.p2,(U.p4++([(Sx.name U.p3)])),U.q5)))))))))) (bf (Sx.op x.1) 13 (jn (α:=Int×qX×(Bool×List Sx)×cf×List (List UInt8)) (obind (gE (I.p4,x.2.1.2.2,(Sx.name I.p3),7,7)) λy49=>(bcase y1.1 (obind (c9 ai) λy50=>(obind (iX (y49,y50)) λy51=>(aE (y51,I.2.1,I.p2,I.q5)))) (bcase y2.1 (obind (c9 ai) λy52=>(obind (iX (y49,y52)) λy53=>(aE (y53,I.2.1,I.p2,I.q5)))) (obind (gR (I.p4.2,(Sx.name I.p3))) λy54=>(obind (c9 (decide ((y54:Int)=x.2.1.2.2))) λy55=>(obind (iX (y49,y55)) λy56=>(aE (y56,I.2.1,I.p2,I.q5)))))))) λx48=>(af x48)) (bf (Sx.op x.1) 14 (jn (α:=Int×qX×(Bool×List Sx)×Sx×(sg×List sd)×cf×List (List UInt8)) (obind (gE (I.p4,x.2.1.2.2,(Sx.name I.p3),6,6)) λy58=>(bcase y1.1 (obind (c9 ai) λy59=>(obind (iX (y58,y59)) λy60=>(aE (y60,I.2.1,I.p2,eh I.p3,I.q4)))) (obind (c9 y3.1) λy61=>(obind (iX (y58,y61)) λy62=>(aE (y62,I.2.1,I.p2,eh I.p3,I.q4)))))) λZ=>(jn (α:=Int×qX×(Bool×List Sx)×Sx×(sg×List sd)×cf×List (List UInt8)) (jn (α:=Bool×qX×(Bool×List Sx)×Sx×(sg×List sd)×cf×List (List UInt8)) (bf Z.1 0 (obind (iY (Z.q6,(Sx.name Z.p3))) λy65=>(aE ((c7 0 y65),Z.2.1,Z.p2,eh Z.p3,Z.q4))) (aE (aj,Z.2.1,Z.p2,eh Z.p3,Z.q4))) λx64=>(bcase x64.1 (aE (8,x64.2.1,x64.p2,eh x64.p3,x64.q4)) (aE (Z.1,x64.2.1,x64.p2,eh x64.p3,x64.q4)))) λY=>(bB (a_ (al Y.q6+al ([(Sx.name Y.p3)])) 16) (obind (mj (Y.p4,x.2.1.2.2,d_ ((Xp.op (Sx.expr Y.p3)),(Xp.n (Sx.expr Y.p3)),(Xp.name (Sx.expr Y.p3)),(Xp.l (Sx.expr Y.p3))))) λy66=>(obind (iX (Y.1,y66)) λy67=>(af (y67,Y.2.1,Y.p2,Y.p5,(Y.q6++([(Sx.name Y.p3)]))))))))) (obind (gE (I.p4,x.2.1.2.2,(Sx.name I.p3),8,8)) λy68=>(obind (gE (I.p4,x.2.1.2.2,(Sx.arg I.p3),6,6)) λy69=>(obind (c9 y1.1) λy70=>(obind (iX (y69,y70)) λy71=>(obind (iX (y68,y71)) λy72=>(af (y72,I.2.1,I.p2,I.q5))))))))))))))))))))))))))
def mn (rr04_walk_all:((List Sx)×qX×(Bool×List Sx)×cf×List (List UInt8))->Option ag3) (x:(List Sx)×qX×(Bool×List Sx)×cf×List (List UInt8)):Option ag3:=
 (iter (σ:=Int×qX×(Bool×List Sx)×cf×List (List UInt8)) (λx1=>(bx x1.1 (aY x.1) (bA (.sm) x.1 x1.1 λY=>(obind (mi (eh Y,x1.2)) λU=>(bB (aC (al x1.q4) (al x1.q4)&&(aC (al x1.p3) (al x1.p3)&&(((x1.p2.1==U.p2.1)&&ai)&&aC (al x1.p2.2) (al U.p2.2)&&ai))) (jn (α:=Int×qX×Sx×(Bool×List Sx)×cf×List (List UInt8)) (bx 6 (bc .i64 ((aY U.p2.2)+1)) (aE (2,U.2.1,eh Y,U.2.2)) (aE (U.1,U.2.1,eh Y,U.2.2))) λI=>(je I.1 0 (aE ((I.1,(Sx.line I.p2)),I.2.1,I.q3)) (bB (a_ (al I.p3.2+al ([nN (0,0,[],[],([]:List Xp),d_ (0,0,[],([]:List Xp)),([]:List Sx),([]:List Sx))])) 176) (ck (fe (aY I.p3.2) (al (I.p3.2++([nN (0,0,[],[],([]:List Xp),d_ (0,0,[],([]:List Xp)),([]:List Sx),([]:List Sx))])))) (obind (rr04_walk_all ((Sx.body I.p2),I.2.1,(I.p3.1,(cQ (I.p3.2++([nN (0,0,[],[],([]:List Xp),d_ (0,0,[],([]:List Xp)),([]:List Sx),([]:List Sx))])) (aY I.p3.2) (eh I.p2))),I.q4)) λM=>(bB (aC (al I.q5) (al I.q5)&&(aC (al I.p4) (al I.p4)&&(((I.p3.1==I.p3.1)&&ai)&&aC (al (cQ (I.p3.2++([nN (0,0,[],[],([]:List Xp),d_ (0,0,[],([]:List Xp)),([]:List Sx),([]:List Sx))])) (aY I.p3.2) (eh I.p2))) (al (cQ (I.p3.2++([nN (0,0,[],[],([]:List Xp),d_ (0,0,[],([]:List Xp)),([]:List Sx),([]:List Sx))])) (aY I.p3.2) (eh I.p2)))&&ai))) (jn (α:=(Int×Int)×qX×(Bool×List Sx)×cf×List (List UInt8)) (bf M.1.1 0 (obind (rr04_walk_all ((Sx.els I.p2),M.2)) λZ=>(bB (aC (al M.q4) (al M.q4)&&(aC (al M.p3) (al M.p3)&&(((M.p2.1==M.p2.1)&&ai)&&aC (al M.p2.2) (al M.p2.2)&&ai))) (aE Z))) (aE M)) λJ=>(bB (c7 0 (bc .i64 ((aY J.p2.2)-1))&&fQ (bc .i64 ((aY J.p2.2)-1)) (al J.p2.2)) (je J.1.1 0 (aE (J.1,J.2.1,(aj,(dP (aU (bc .i64 ((aY J.p2.2)-1))) J.p2.2)),J.q3)) (cK ((cE x1.1),J.2.1,(aj,(dP (aU (bc .i64 ((aY J.p2.2)-1))) J.p2.2)),J.q3)))))))))))))) (aE ((0,0),x1.2)))) (0,x.2))
def iF:Nat->((List Sx)×qX×(Bool×List Sx)×cf×List (List UInt8))->Option ag3
 |0,_=>ah
 |n+1,x=>mn (iF n) x
theorem B7 (n:Nat) (x:(List Sx)×qX×(Bool×List Sx)×cf×List (List UInt8)):iF (n+1) x=mn (iF n) x:=rfl
def vK (x:(List Sx)×qX×(Bool×List Sx)×cf×List (List UInt8)):Option ag3:=iF fuel x
def uy (rr04_Count:(List Sx)->Option (Int)) (x:List Sx):Option (Int):=
 (iter (σ:=Int×Int) (λx1=>(bx x1.2 (aY x) (v7 x1.2 x (lt (Sx.body (aJ (T:=.sm) x x1.2)) λJ=>(obind (rr04_Count J) λU=>(v7 x1.2 x (lt (Sx.els (aJ (T:=.sm) x x1.2)) λI=>(obind (rr04_Count I) λM=>(cK ((bc .i64 ((bc .i64 (x1.1+U))+M)),(cE x1.2))))))))) (aE x1.1))) ((aY x),0))
def nj:Nat->(List Sx)->Option (Int)
 |0,_=>ah
 |n+1,x=>uy (nj n) x
theorem yl (n:Nat) (x:List Sx):nj (n+1) x=uy (nj n) x:=rfl
def BV (x:List Sx):Option (Int):=nj fuel x
def rB (x:List aco):Option (Int×Int):=
 (iter (σ:=Int×Int×Int×Int×Int) (λx1=>(bx x1.q4 (aY x) (jn (α:=Int×Int×Int×Int) (bA GZ x x1.q4 λI=>(bB (c7 0 x1.q4&&c7 x1.q4 (al x)) (obind (h_ ((dP (aU x1.q4) x),I.p2)) λy4=>(iH 0 y4 (cK (bP (4,I.2.1))) (bx 4 I.p3 (cK (bP (2,I.2.1))) (jn (α:=(Int×Int×Int×Int)×Int×Int×(List UInt8)×Int×Int×List UInt8) (jn (α:=Bool×Int×Int×(List UInt8)×Int×Int×List UInt8) (bf I.1 1 (aE ((decide ((I.1:Int)=1)),I)) (aE ((decide ((I.1:Int)=2)),I))) λU=>(bcase U.1 (aE (((bc .i64 (x1.1+(iD U.p4 1))),x1.2.1,x1.p2,x1.p3),U.2)) (jn (α:=Bool×Int×Int×(List UInt8)×Int×Int×List UInt8) (bf I.1 3 (aE ((decide ((I.1:Int)=3)),U.2)) (aE ((decide ((I.1:Int)=4)),U.2))) λY=>(bcase Y.1 (aE ((x1.1,(cE x1.2.1),x1.p2,x1.p3),Y.2)) (bf I.1 5 (aE ((x1.1,x1.2.1,(cE x1.p2),x1.p3),Y.2)) (aE ((x1.1,x1.2.1,x1.p2,(cE x1.p3)),Y.2))))))) λJ=>(jn (α:=Bool×Int×Int×(List UInt8)×Int×Int×List UInt8) (bx 12 J.1.1 (aE (ai,J.2)) (bx 4 J.1.2.1 (aE (ai,J.2)) (bx 2 J.1.p2 (aE (ai,J.2)) (aE ((fQ 2 J.1.q3),J.2))))) λM=>(bcase M.1 (cK (bP (2,M.p2))) (bf M.2.1 5 (bB (c7 0 x1.q4&&c7 x1.q4 (al x)) (obind (h_ ((dP (aU x1.q4) x),M.q6)) λy9=>(bx y9 0 (cK (bP (5,M.p2))) (bA GZ x y9 λZ=>(je Z.1 3 (cK (bP (6,M.p2))) (aE J.1)))))) (aE J.1)))))))))) λx2=>(cK (x2.1,x2.2.1,x2.p2,x2.q3,(cE x1.q4)))) (aE (0,0)))) (0,0,0,0,0))
def nK (x:sg×List sd):Option (Int×Int):=
 (iter (σ:=Int×sg×List sd) (λx1=>(bx x1.1 (aY x1.2.2) (bA sY x1.2.2 x1.1 λU=>(jn (α:=Bool×(sg×List sd)×(List UInt8)×Int×cf×List Sx) (obind (h_ (x1.2.1,U.1)) λy4=>(iH 0 y4 (aE (ai,x1.2,U)) (bB (c7 0 x1.1&&c7 x1.1 (al x1.2.2)) (obind (gR ((dP (aU x1.1) x1.2.2),U.1)) λy5=>(aE ((c7 0 y5),x1.2,U)))))) λx3=>(bcase x3.1 (aE (4,x3.p3)) (cK ((cE x1.1),x3.2.1))))) (obind (iter (σ:=Int×sg×List sd) (λM=>(bx M.1 (aY M.2.2) (bA sY M.2.2 M.1 λZ=>(bx 4 (aY Z.p2) (aE (2,Z.2.1)) (iter (σ:=Int×(sg×List sd)×(List UInt8)×Int×cf×List Sx) (λI=>(bx I.1 (aY I.p4) (bA (.str) I.p4 I.1 λY=>(jn (α:=Bool×(sg×List sd)×(List UInt8)×Int×cf×List Sx) (obind (h_ (I.2.1.1,Y)) λy11=>(iH 0 y11 (aE (ai,I.2)) (obind (gR (I.2.1.2,Y)) λy12=>(iH 0 y12 (aE (ai,I.2)) (bB (c7 0 I.1&&c7 I.1 (al I.p4)) (obind (iY ((dP (aU I.1) I.p4),Y)) λy13=>(aE ((c7 0 y13),I.2)))))))) λJ=>(bcase J.1 (aE (bP (4,J.p3))) (cK ((cE I.1),J.2))))) (aE (mr ((cE M.1),I.2.1))))) (0,M.2,Z)))) (aE (0,0)))) (0,x1.2)) λr=>af (bP r)))) (0,x))
def fm (x:sg×List sd):Option (Int×Int):=
 (obind (pK x) λy1=>(bcase (!y1) (af (3,0)) (obind (rB x.1) λY=>(je Y.1 0 (af Y) (bx 4 (aY x.2) (af (2,0)) (obind (nK x) λU=>(je U.1 0 (af U) (iter (σ:=(Int×Int)×sg×List sd) (λJ=>(bx J.1.2 (aY J.2.2) (bA sY J.2.2 J.1.2 λz5=>(obind (BV z5.2.2.2) λy6=>(cK (((bc .i64 (J.1.1+y6)),(cE J.1.2)),J.2)))) (obind (bx 60 J.1.1 (af (2,0)) (iter (σ:=Int×(sg×List sd)×qX×(Bool×List Sx)×cf×List (List UInt8)) (λI=>(bx I.1 (aY I.2.1.2) (bA sY I.2.1.2 I.1 λZ=>(obind (vK (Z.2.2.2,(I.p2.1,I.p2.2.1,I.1),I.q3)) λM=>(bB (aC (al I.q5) (al I.q5)&&(aC (al I.p4) (al I.p4)&&(((I.p3.1==I.p3.1)&&ai)&&aC (al I.p3.2) (al I.p3.2)&&ai))) (je M.1.1 0 (aE M.1) (cK ((cE I.1),I.2.1,M.2)))))) (aE (0,0)))) (0,J.2,(J.2.1,J.2.2,0),(ai,([]:List Sx)),([]:List (List UInt8)),([]:List (List UInt8))))) λr=>af (bP r)))) ((0,0),x)))))))))
def xD (rr06_sites:((Int×Int×List Sx)×List (Int×Int×Int))->Option (Int×List (Int×Int×Int))) (x:(Int×Int×List Sx)×List (Int×Int×Int)):Option (Int×List (Int×Int×Int)):=
 (iter (σ:=(Int×Int)×List (Int×Int×Int)) (λx1=>(bx x1.1.2 (aY x.1.2.2) (v7 x1.1.2 x.1.2.2 (lt (Sx.line (aJ (T:=.sm) x.1.2.2 x1.1.2)) λI=>(bB (a_ (al x1.2+al ([(x.1.1,x1.1.1,I)])) 24) (v7 x1.1.2 x.1.2.2 (lt (Sx.body (aJ (T:=.sm) x.1.2.2 x1.1.2)) λY=>(obind (rr06_sites ((x.1.1,(cE x1.1.1),Y),(x1.2++([(x.1.1,x1.1.1,I)])))) λJ=>(bB (aC (al (x1.2++([(x.1.1,x1.1.1,I)]))) (al (x1.2++([(x.1.1,x1.1.1,I)])))&&ai) (v7 x1.1.2 x.1.2.2 (lt (Sx.els (aJ (T:=.sm) x.1.2.2 x1.1.2)) λU=>(obind (rr06_sites ((x.1.1,J.1,U),J.2)) λM=>(bB (aC (al J.2) (al J.2)&&ai) (cK ((M.1,(cE x1.1.2)),M.2))))))))))))) (aE (x1.1.1,x1.2)))) ((x.1.2.1,0),x.2))
def pu:Nat->((Int×Int×List Sx)×List (Int×Int×Int))->Option (Int×List (Int×Int×Int))
 |0,_=>ah
 |n+1,x=>xD (pu n) x
theorem He (n:Nat) (x:(Int×Int×List Sx)×List (Int×Int×Int)):pu (n+1) x=xD (pu n) x:=rfl
def IC (x:(Int×Int×List Sx)×List (Int×Int×Int)):Option (Int×List (Int×Int×Int)):=pu fuel x
def j_ (x:gz×List UInt8):Option (Int):=
 (iter (σ:=Int) (λx1=>(bx x1 (aY x.1) (bA qY x.1 x1 λI=>(bcase (decide ((I.1:List UInt8)=x.2)) (aE x1) (cK (cE x1)))) (aE (-1)))) 0)
def lx (x:dz×List UInt8):Option (Int):=
 (iter (σ:=Int×gP×gz×(List fw)×cf×cf×List (Int×Int×Int)) (λx1=>(bx x1.1 (aY x1.2.1) (bA ky x1.2.1 x1.1 λI=>(bcase (decide ((I.1:List UInt8)=x.2)) (aE x1.1) (cK ((cE x1.1),x1.2)))) (aE (-1)))) (0,x.1))
def uk (x:sg×List sd):Option dz:=
 (obind (fm x) λy1=>(je y1.1 0 (af (([]:List S4),([]:List ((List UInt8)×Bool)),([]:List fw),([]:List (List UInt8)),([]:List (List UInt8)),([]:List (Int×Int×Int)))) (iter (σ:=Int×(sg×List sd)×gP×gz×(List fw)×List (List UInt8)) (λx2=>(bx x2.1 (aY x2.2.1.1) (bA GZ x2.2.1.1 x2.1 λU=>(jn (α:=(sg×List sd)×gP×gz×(List fw)×List (List UInt8)) (jn (α:=Bool×(sg×List sd)×aco×gP×gz×(List fw)×List (List UInt8)) (bf U.1 1 (aE ((decide ((U.1:Int)=1)),x2.2.1,U,x2.2.2)) (aE ((decide ((U.1:Int)=2)),x2.2.1,U,x2.2.2))) λZ=>(bcase Z.1 (iter (σ:=Int×(sg×List sd)×aco×gP×gz×(List fw)×List (List UInt8)) (λJ=>(bx J.1 (iD J.p2.p3 1) (bB (a_ (al J.p3+al ([(J.p2.p2,J.1,J.p2.p3,(decide ((J.p2.1:Int)=2)),J.p2.p4)])) 48) (cK ((cE J.1),J.2.1,J.p2,(J.p3++([(J.p2.p2,J.1,J.p2.p3,(decide ((J.p2.1:Int)=2)),J.p2.p4)])),J.q4))) (aE (bP (J.2.1,J.q3))))) (0,Z.2)) (jn (α:=Bool×(sg×List sd)×aco×gP×gz×(List fw)×List (List UInt8)) (bf U.1 3 (aE ((decide ((U.1:Int)=3)),Z.2)) (aE ((decide ((U.1:Int)=4)),Z.2))) λI=>(bcase I.1 (bB (a_ (al I.p4+al ([(I.p2.p2,(decide ((I.p2.1:Int)=4)))])) 24) (aE (I.2.1,I.p3,(I.p4++([(I.p2.p2,(decide ((I.p2.1:Int)=4)))])),I.q5))) (bf U.1 5 (obind (j_ (I.p4,I.p2.q5)) λy8=>(bB (a_ (al I.p5+al ([(I.p2.p2,y8)])) 24) (aE (I.2.1,I.p3,I.p4,(I.p5++([(I.p2.p2,y8)])),I.q6)))) (bB (a_ (al I.q6+al ([I.p2.p2])) 16) (aE (I.2.1,I.p3,I.p4,I.p5,(I.q6++([I.p2.p2])))))))))) λx4=>(cK ((cE x2.1),x4)))) (obind (iter (σ:=Int×(sg×List sd)×gP×gz×(List fw)×cf×cf×List (Int×Int×Int)) (λM=>(bx M.1 (aY M.2.1.2) (bA sY M.2.1.2 M.1 λY=>(bB (a_ (al M.p6+al ([Y.1])) 16) (bA sY M.2.1.2 M.1 λz11=>(obind (IC ((M.1,0,z11.2.2.2),M.q7)) λy12=>(bB (aC (al M.q7) (al M.q7)&&ai) (cK ((cE M.1),M.2.1,M.p2,M.p3,M.p4,M.p5,(M.p6++([Y.1])),y12.2))))))) (aE M.2.2))) (0,x2.2.1,x2.p2,x2.p3,x2.p4,x2.q5,([]:List (List UInt8)),([]:List (Int×Int×Int)))) λr=>af (bP r)))) (0,x,([]:List S4),([]:List ((List UInt8)×Bool)),([]:List fw),([]:List (List UInt8))))))
def pj (x:gP×gz×(List fw)×cf×cf×List (Int×Int×Int)):Option (cf×Bool):=
 (iter (σ:=Int×dz×List (List UInt8)) (λx1=>(bx x1.1 (aY x1.2.1.1) (jn (α:=Int×dz×List (List UInt8)) (bA ky x1.2.1.1 x1.1 λM=>(bB (a_ (al x1.2.2+al ([M.1])) 16) (bf M.p2 0 (je M.2.1 0 (cK (bP (([]:List (List UInt8)),aj))) (aE ((cE x1.1),x1.2.1,(x1.2.2++([M.1]))))) (jn (α:=Bool×dz×cf×(List UInt8)×Int×Int×Bool×Int) (bx M.p2 1 (aE (ai,x1.2.1,(x1.2.2++([M.1])),M)) (bx 4 M.p2 (aE (ai,x1.2.1,(x1.2.2++([M.1])),M)) (aE ((fQ (bc .i64 ((aY x1.2.1.1)-x1.1)) M.p2),x1.2.1,(x1.2.2++([M.1])),M)))) λx4=>(bcase x4.1 (cK (bP (([]:List (List UInt8)),aj))) (iter (σ:=Int×dz×cf×(List UInt8)×Int×Int×Bool×Int) (λJ=>(bx J.1 J.p5 (bA ky J.2.1.1 (bc .i64 (x1.1+J.1)) λY=>(jn (α:=Bool×dz×cf×(List UInt8)×Int×Int×Bool×Int) (je Y.2.1 J.1 (aE (ai,J.2)) (bcase (!decide ((Y.1:List UInt8)=J.p3)) (aE (ai,J.2)) (je Y.p2 J.p5 (aE (ai,J.2)) (je Y.q4 J.q7 (aE (ai,J.2)) (aE (Y.p3,J.2)))))) λx7=>(bcase x7.1 (aE (mr (bP (([]:List (List UInt8)),aj)))) (cK ((cE J.1),x7.2))))) (aE (bP ((bc .i64 (x1.1+J.p5)),J.2.1,J.p2))))) (0,x4.2))))))) λx2=>(cK x2)) (obind (iter (σ:=Int×dz×List (List UInt8)) (λU=>(bx U.1 (aY U.2.1.2.1) (bA qY U.2.1.2.1 U.1 λz9=>(bB (a_ (al U.2.2+al ([z9.1])) 16) (cK ((cE U.1),U.2.1,(U.2.2++([z9.1])))))) (obind (iter (σ:=Int×dz×List (List UInt8)) (λI=>(bx I.1 (aY I.2.1.p2) (bA lq I.2.1.p2 I.1 λZ=>(bB (a_ (al I.2.2+al ([Z.1])) 16) (cK ((cE I.1),I.2.1,(I.2.2++([Z.1])))))) (obind (bB (a_ (al I.2.2+al I.2.1.p3) 16) (bB (a_ (al (I.2.2++I.2.1.p3)+al I.2.1.p4) 16) (af (((I.2.2++I.2.1.p3)++I.2.1.p4),ai)))) λr=>af (bP r)))) (0,U.2)) λr=>af (bP r)))) (0,x1.2)) λr=>af (bP r)))) (0,x,([]:List (List UInt8))))
def hZ (x:gP×gz×(List fw)×cf×cf×List (Int×Int×Int)):Option (Bool):=
 (jn (α:=Bool×gP×gz×(List fw)×cf×cf×List (Int×Int×Int)) (bx 12 (aY x.1) (aE (ai,x)) (bx 4 (aY x.2.1) (aE (ai,x)) (bx 2 (aY x.p2) (aE (ai,x)) (bx 2 (aY x.p3) (aE (ai,x)) (bx (aY x.p4) 1 (aE (ai,x)) (bx 4 (aY x.p4) (aE (ai,x)) (aE ((fQ 60 (aY x.q5)),x)))))))) λx1=>(bcase x1.1 (af aj) (obind (pj x1.2) λy2=>(bcase (!y2.2) (af aj) (iter (σ:=Int×gP×gz×(List fw)×cf×cf×List (Int×Int×Int)) (λY=>(bx Y.1 (aY y2.1) (jn (α:=Bool×gP×gz×(List fw)×cf×cf×List (Int×Int×Int)) (bA (.str) y2.1 Y.1 λz5=>(obind (fg z5) λy6=>(bcase (!y6) (aE (ai,Y.2)) (bB (c7 0 Y.1&&c7 Y.1 (al y2.1)) (bA (.str) y2.1 Y.1 λz7=>(obind (iY ((dP (aU Y.1) y2.1),z7)) λy8=>(aE ((c7 0 y8),Y.2)))))))) λx4=>(bcase x4.1 (aE aj) (cK ((cE Y.1),x4.2)))) (obind (iter (σ:=Int×gP×gz×(List fw)×cf×cf×List (Int×Int×Int)) (λM=>(bx M.1 (aY M.p3) (bA lq M.p3 M.1 λz10=>(jn (α:=Bool×gP×gz×(List fw)×cf×cf×List (Int×Int×Int)) (bx z10.2 0 (aE (ai,M.2)) (iH (aY M.p2) z10.2 (aE (ai,M.2)) (bA qY M.p2 z10.2 λz12=>(aE (z12.2,M.2))))) λx11=>(bcase x11.1 (aE aj) (cK ((cE M.1),x11.2))))) (obind (iter (σ:=Int×gP×gz×(List fw)×cf×cf×List (Int×Int×Int)) (λI=>(bx I.1 (aY I.q6) (jn (α:=gP×gz×(List fw)×cf×cf×List (Int×Int×Int)) (bA oy I.q6 I.1 λZ=>(jn (α:=Bool×dz×Int×Int×Int) (bx Z.1 0 (aE (ai,I.2,Z)) (aE ((c7 (aY I.p5) Z.1),I.2,Z))) λU=>(bcase U.1 (cK (bP aj)) (jn (α:=Bool×dz×Int×Int×Int) (bf I.1 0 (aE (ai,U.2)) (bA oy U.2.1.q5 (bc .i64 (I.1-1)) λz18=>(aE ((!decide ((z18.1:Int)=U.p2)),U.2)))) λJ=>(bcase J.1 (jn (α:=Bool×gP×gz×(List fw)×cf×cf×List (Int×Int×Int)) (je J.p3 0 (aE (ai,J.2.1)) (bx 0 I.1 (bA oy J.2.1.q5 (bc .i64 (I.1-1)) λz20=>(aE ((fQ J.p2 z20.1),J.2.1))) (aE (aj,J.2.1)))) λx19=>(bcase x19.1 (cK (bP aj)) (aE x19.2))) (bA oy J.2.1.q5 (bc .i64 (I.1-1)) λz21=>(je J.p3 (cE z21.2.1) (cK (bP aj)) (aE J.2.1)))))))) λx14=>(cK ((cE I.1),x14))) (aE ai))) (0,M.2)) λr=>af (bP r)))) (0,Y.2)) λr=>af (bP r)))) (0,x1.2))))))
def jE (x:Int×Int×Int×Int×Int×Int):Option (List Int):=
 (jn (α:=Bool×Int×Int×Int×Int×Int×Int) (bf x.1 1 (aE ((decide ((x.1:Int)=1)),x)) (bf x.1 6 (aE ((decide ((x.1:Int)=6)),x)) (bf x.1 10 (aE ((decide ((x.1:Int)=10)),x)) (aE ((decide ((x.1:Int)=27)),x))))) λx1=>(bcase x1.1 (af ([x1.p2])) (jn (α:=Bool×Int×Int×Int×Int×Int×Int) (bf x.1 2 (aE ((decide ((x.1:Int)=2)),x1.2)) (aE ((decide ((x.1:Int)=3)),x1.2))) λx2=>(bcase x2.1 (af ([x2.p2,x2.p3])) (bf x.1 4 (af ([x2.p2,x2.p3,x2.p4])) (bf x.1 7 (af ([x2.p2,x2.p4])) (jn (α:=Bool×Int×Int×Int×Int×Int×Int) (bf x.1 8 (aE ((decide ((x.1:Int)=8)),x2.2)) (aE ((decide ((x.1:Int)=26)),x2.2))) λI=>(bcase I.1 (af ([I.p3])) (bf x.1 9 (af ([I.p3,I.p4])) (af ([]:List Int)))))))))))
def pI (x:Int):Option (Bool):=
 (jn (α:=Bool) (iH 1 x (aE (c7 x 5)) (aE aj)) λx1=>(af x1))
def pl (x:(List jR)×Int):Option (Bool):=
 (iter (σ:=Int×Int) (λx1=>(iH x1.2 (aY x.1) (jn (α:=Int) (jn (α:=Bool) (bx x1.1 0 (aE ai) (aE (c7 (aY x.1) x1.1))) λY=>(bcase Y (cK (bP aj)) (bA qW x.1 x1.1 λM=>(obind (pI M.1) λU=>(bcase (!U) (cK (bP ai)) (bA qW x.1 x1.1 λJ=>(bf J.1 5 (bA qW x.1 x1.1 λI=>(aE I.2.1)) (aE (cE x1.1))))))))) λx2=>(cK (x2,(cE x1.2)))) (aE aj))) (x.2,0))
def jp (x:Int×Int):Option (Bool):=
 (jn (α:=Bool) (iH 0 x.1 (aE (fQ x.1 x.2)) (aE aj)) λx1=>(af x1))
def m6 (x:dz×Int×Int):Option (Bool):=
 (jn (α:=Bool) (obind (jp (x.2.1,(aY x.1.1))) λU=>(bcase U (bA ky x.1.1 x.2.1 λM=>(bf M.2.1 0 (bA ky x.1.1 x.2.1 λJ=>(je J.2.2.1 0 (bA ky x.1.1 x.2.1 λI=>(aE (decide ((I.2.2.1:Int)=x.2.2)))) (aE aj))) (aE aj))) (aE aj))) λx1=>(af x1))
def lG (x:dz×Int×Int×Int×Int×Int×Int):Option (Bool):=
 (bf x.2.1 6 (jn (α:=Bool) (obind (jp (x.p3,(aY x.1.1))) λy2=>(bcase y2 (bA ky x.1.1 x.p3 λz3=>(aE (decide ((z3.2.2.1:Int)=0)))) (aE aj))) λx1=>(af x1)) (bf x.2.1 8 (jn (α:=Bool) (obind (jp (x.p2,(aY x.1.1))) λy5=>(bcase y5 (bA ky x.1.1 x.p2 λz6=>(aE (decide ((z6.2.2.1:Int)=0)))) (aE aj))) λx4=>(af x4)) (bf x.2.1 7 (obind (m6 (x.1,x.p3,x.p5)) λy7=>(af y7)) (bf x.2.1 9 (obind (m6 (x.1,x.p2,x.p5)) λy8=>(af y8)) (jn (α:=Bool×dz×Int×Int×Int×Int×Int×Int) (bf x.2.1 11 (aE ((decide ((x.2.1:Int)=11)),x)) (aE ((decide ((x.2.1:Int)=12)),x))) λU=>(bcase U.1 (jn (α:=Bool) (obind (jp (U.p3,(aY U.2.1.2.1))) λy11=>(bcase y11 (bA qY U.2.1.2.1 U.p3 λZ=>(aE (!Z.2))) (aE aj))) λx10=>(af x10)) (jn (α:=Bool×dz×Int×Int×Int×Int×Int×Int) (bf x.2.1 13 (aE ((decide ((x.2.1:Int)=13)),U.2)) (bf x.2.1 14 (aE ((decide ((x.2.1:Int)=14)),U.2)) (bf x.2.1 15 (aE ((decide ((x.2.1:Int)=15)),U.2)) (aE ((decide ((x.2.1:Int)=16)),U.2))))) λJ=>(bcase J.1 (jn (α:=Bool) (obind (jp (J.p3,(aY J.2.1.2.1))) λy15=>(bcase y15 (bA qY J.2.1.2.1 J.p3 λY=>(aE Y.2)) (aE aj))) λx14=>(af x14)) (jn (α:=Bool×dz×Int×Int×Int×Int×Int×Int) (bf x.2.1 21 (aE ((decide ((x.2.1:Int)=21)),J.2)) (bf x.2.1 22 (aE ((decide ((x.2.1:Int)=22)),J.2)) (aE ((decide ((x.2.1:Int)=23)),J.2)))) λM=>(bcase M.1 (obind (jp (M.p3,(aY M.2.1.p2))) λy18=>(af y18)) (jn (α:=Bool×dz×Int×Int×Int×Int×Int×Int) (bf x.2.1 24 (aE ((decide ((x.2.1:Int)=24)),M.2)) (aE ((decide ((x.2.1:Int)=25)),M.2))) λI=>(bcase I.1 (obind (jp (I.p3,(aY I.2.1.p4))) λy20=>(af y20)) (bf x.2.1 26 (obind (jp (I.p3,(aY I.2.1.p3))) λy21=>(af y21)) (bf x.2.1 27 (obind (jp (I.p4,(aY I.2.1.p3))) λy22=>(af y22)) (bf x.2.1 3 (jn (α:=Bool) (bf I.p6 4 (aE ai) (aE (decide ((I.p6:Int)=5)))) λx23=>(af x23)) (bf x.2.1 4 (jn (α:=Bool) (iH 6 I.p6 (aE (c7 I.p6 18)) (aE aj)) λx24=>(af x24)) (af ai)))))))))))))))))
def im (x:dz×Int×Int×List jR):Option (Bool):=
 (jn (α:=Bool×dz×Int×List jR) (bx x.p2 0 (aE (ai,x.1,x.2.2)) (bx 32 x.p2 (aE (ai,x.1,x.2.2)) (aE ((decide (((aY x.q3):Int)=0)),x.1,x.2.2)))) λx1=>(bcase x1.1 (af aj) (iter (σ:=Int×dz×Int×List jR) (λx2=>(bx x2.1 (aY x.q3) (bA qW x2.q3 x2.1 λU=>(jn (α:=Bool×dz×(Int×List jR)×Int×Int×Int×Int×Int×Int) (bx U.1 1 (aE (ai,x2.2.1,x2.2.2,U)) (bx 28 U.1 (aE (ai,x2.2.1,x2.2.2,U)) (bcase (((decide ((U.1:Int)=28))==(decide ((x2.1:Int)=(bc .i64 ((aY x.q3)-1))))) !=ai) (aE (ai,x2.2.1,x2.2.2,U)) (obind (lG (x2.2.1,U)) λy5=>(bcase (!y5) (aE (ai,x2.2.1,x2.2.2,U)) (obind (pl (x2.q3,x2.1)) λy6=>(aE ((!y6),x2.2.1,x2.2.2,U)))))))) λI=>(bcase I.1 (aE aj) (jn (α:=Bool×dz×(Int×List jR)×Int×Int×Int×Int×Int×Int) (bf I.p3 28 (je I.q8 (-1) (aE (ai,I.2)) (je I.p3 28 (obind (jp (I.q8,(aY I.2.1.q5))) λy8=>(bcase (!y8) (aE (ai,I.2)) (bA oy I.2.1.q5 I.q8 λz9=>(aE ((!decide ((z9.1:Int)=x.2.1)),I.2))))) (aE (aj,I.2)))) (je I.p3 28 (obind (jp (I.q8,(aY I.2.1.q5))) λy10=>(bcase (!y10) (aE (ai,I.2)) (bA oy I.2.1.q5 I.q8 λz11=>(aE ((!decide ((z11.1:Int)=x.2.1)),I.2))))) (aE (aj,I.2)))) λM=>(bcase M.1 (aE aj) (jn (α:=Bool×dz×(Int×List jR)×Int×Int×Int×Int×Int×Int) (bf M.p3 5 (obind (jp (M.p4,(aY x.q3))) λy13=>(bcase (!y13) (aE (ai,M.2)) (bf M.p3 10 (obind (jp (M.p5,(aY x.q3))) λy14=>(aE ((!y14),M.2))) (aE (aj,M.2))))) (bf M.p3 10 (obind (jp (M.p5,(aY x.q3))) λy15=>(aE ((!y15),M.2))) (aE (aj,M.2)))) λY=>(bcase Y.1 (aE aj) (obind (jE Y.q3) λZ=>(iter (σ:=Int×dz×Int×List jR) (λJ=>(bx J.1 (aY Z) (bA aM Z J.1 λz18=>(obind (jp (z18,J.p2)) λy19=>(bcase (!y19) (aE (bP aj)) (cK ((cE J.1),J.2))))) (aE (mr ((cE x2.1),J.2))))) (0,Y.2.1,Y.p2)))))))))) (aE ai))) (0,x1.2))))
def jD (x:dz×List (Int×List jR)):Option (Bool):=
 (jn (α:=Bool×dz×List (Int×List jR)) (obind (hZ x.1) λU=>(bcase (!U) (aE (ai,x)) (aE ((!decide (((aY x.2):Int)=(aY x.1.p4))),x)))) λx1=>(bcase x1.1 (af aj) (iter (σ:=Int×dz×List (Int×List jR)) (λI=>(bx I.1 (aY I.2.2) (bA xd I.2.2 I.1 λJ=>(obind (im (I.2.1,I.1,J)) λM=>(bcase (!M) (aE aj) (cK ((cE I.1),I.2))))) (aE ai))) (0,x1.2))))
def cD (x:jR×rQ×List jR):Option (rQ×List jR):=
 (bB (a_ (al x.2.2+al ([(x.1.1,x.1.2.1,x.1.p2,x.1.p3,x.1.p4,x.2.1.p7)])) 48) (af (x.2.1,(x.2.2++([(x.1.1,x.1.2.1,x.1.p2,x.1.p3,x.1.p4,x.2.1.p7)])))))
def qD (rr06_gen_value:((Xp×Int)×rQ×List jR)->Option (rQ×List jR)) (x:(Xp×Int)×rQ×List jR):Option (rQ×List jR):=
 (jn (α:=rQ×List jR) (bf (Xp.op x.1.1) 1 (obind (cD ((1,x.1.2,0,0,(Xp.n x.1.1),0),x.2)) λy2=>(bB (aC (al x.2.2) (al x.2.2)&&ai) (aE y2))) (bf (Xp.op x.1.1) 2 (obind (iY (x.2.1.p6,(Xp.name x.1.1))) λy3=>(iH 0 y3 (obind (cD ((2,x.1.2,y3,0,0,0),x.2)) λy4=>(bB (aC (al x.2.2) (al x.2.2)&&ai) (aE y4))) (obind (lx ((x.2.1.1,x.2.1.2.1,x.2.1.p2,x.2.1.p3,x.2.1.p4,x.2.1.p5),(Xp.name x.1.1))) λy5=>(obind (cD ((6,x.1.2,y5,0,0,0),x.2)) λy6=>(bB (aC (al x.2.2) (al x.2.2)&&ai) (aE y6)))))) (bf (Xp.op x.1.1) 3 (bA (.ex) (Xp.l x.1.1) 0 λz7=>(obind (rr06_gen_value ((z7,x.1.2),x.2)) λI=>(bB (aC (al x.2.2) (al x.2.2)&&ai) (obind (lx ((I.1.1,I.1.2.1,I.1.p2,I.1.p3,I.1.p4,I.1.p5),(Xp.name x.1.1))) λy9=>(bA ky I.1.1 y9 λz10=>(obind (cD ((7,x.1.2,y9,x.1.2,z10.2.2.1,0),I)) λy11=>(bB (aC (al I.2) (al I.2)&&ai) (aE y11)))))))) (bf (aO (al (Xp.l x.1.1))) 1 (bA (.ex) (Xp.l x.1.1) 0 λz12=>(obind (rr06_gen_value ((z12,x.1.2),x.2)) λU=>(bB (aC (al x.2.2) (al x.2.2)&&ai) (obind (cD ((3,x.1.2,x.1.2,0,(Xp.op x.1.1),0),U)) λy14=>(bB (aC (al U.2) (al U.2)&&ai) (aE y14)))))) (bA (.ex) (Xp.l x.1.1) 0 λZ=>(obind (rr06_gen_value ((Z,x.1.2),x.2)) λM=>(bB (aC (al x.2.2) (al x.2.2)&&ai) (bA (.ex) (Xp.l x.1.1) 1 λY=>(obind (rr06_gen_value ((Y,(cE x.1.2)),M)) λJ=>(bB (aC (al M.2) (al M.2)&&ai) (obind (cD ((4,x.1.2,x.1.2,(cE x.1.2),(Xp.op x.1.1),0),J)) λy19=>(bB (aC (al J.2) (al J.2)&&ai) (aE y19))))))))))))) λx1=>(af x1))
def iK:Nat->((Xp×Int)×rQ×List jR)->Option (rQ×List jR)
 |0,_=>ah
 |n+1,x=>qD (iK n) x
theorem AG (n:Nat) (x:(Xp×Int)×rQ×List jR):iK (n+1) x=qD (iK n) x:=rfl
def iJ (x:(Xp×Int)×rQ×List jR):Option (rQ×List jR):=iK fuel x
def lY (x:Sx×rQ×List jR):Option (rQ×List jR):=
 (bx 0 (aO (al (Sx.index x.1))) (bA (.ex) (Sx.index x.1) 0 λz1=>(obind (iJ ((z1,(aY x.2.1.p6)),x.2)) λM=>(bB (aC (al x.2.2) (al x.2.2)&&ai) (obind (iJ ((d_ ((Xp.op (Sx.expr x.1)),(Xp.n (Sx.expr x.1)),(Xp.name (Sx.expr x.1)),(Xp.l (Sx.expr x.1))),(bc .i64 ((aY x.2.1.p6)+1))),M)) λJ=>(bB (aC (al M.2) (al M.2)&&ai) (obind (lx ((J.1.1,J.1.2.1,J.1.p2,J.1.p3,J.1.p4,J.1.p5),(Sx.name x.1))) λy4=>(bA ky J.1.1 y4 λz5=>(obind (cD ((9,y4,(bc .i64 ((aY x.2.1.p6)+1)),(aY x.2.1.p6),z5.2.2.1,0),J)) λy6=>(bB (aC (al J.2) (al J.2)&&ai) (af y6)))))))))) (obind (iJ ((d_ ((Xp.op (Sx.expr x.1)),(Xp.n (Sx.expr x.1)),(Xp.name (Sx.expr x.1)),(Xp.l (Sx.expr x.1))),(aY x.2.1.p6)),x.2)) λI=>(bB (aC (al x.2.2) (al x.2.2)&&ai) (obind (iY (I.1.p6,(Sx.name x.1))) λZ=>(iH 0 Z (obind (cD ((2,Z,(aY x.2.1.p6),0,0,0),I)) λy9=>(bB (aC (al I.2) (al I.2)&&ai) (af y9))) (obind (lx ((I.1.1,I.1.2.1,I.1.p2,I.1.p3,I.1.p4,I.1.p5),(Sx.name x.1))) λY=>(obind (cD ((8,Y,(aY x.2.1.p6),0,0,0),I)) λU=>(bB (aC (al I.2) (al I.2)&&ai) (af U)))))))))
def jt (x:(List UInt8)×rQ×List jR):Option (Int×rQ×List jR):=
 (iter (σ:=Int×rQ×List jR) (λx1=>(bx x1.1 (aY x1.2.1.p2) (bA lq x1.2.1.p2 x1.1 λI=>(bcase (decide ((I.1:List UInt8)=x.1)) (aE x1) (cK ((cE x1.1),x1.2)))) (aE ((-1),x1.2)))) (0,x.2))
def qE (rr06_gen_stmts:acm->Option (rQ×List jR)) (rr06_gen_stmt:Mk->Option (rQ×List jR)) (rr06_gen_branches:Mk->Option (rQ×List jR)) (rr06_gen_around:acn->Option (rQ×List jR)) (x:(List Sx)×rQ×List jR):Option (rQ×List jR):=
 (iter (σ:=Int×rQ×List jR) (λx1=>(bx x1.1 (aY x.1) (bA (.sm) x.1 x1.1 λI=>(obind (rr06_gen_stmt (I,x1.2)) λJ=>(bB (aC (al x1.2.2) (al x1.2.2)&&ai) (cK ((cE x1.1),J))))) (aE x1.2))) (0,x.2))
def rZ (rr06_gen_stmts:acm->Option (rQ×List jR)) (rr06_gen_stmt:Mk->Option (rQ×List jR)) (rr06_gen_branches:Mk->Option (rQ×List jR)) (rr06_gen_around:acn->Option (rQ×List jR)) (x:Sx×rQ×List jR):Option (rQ×List jR):=
 (jn (α:=rQ×List jR) (bf (Sx.op x.1) 1 (obind (lY (eh x.1,(x.2.1.1,x.2.1.2.1,x.2.1.p2,x.2.1.p3,x.2.1.p4,x.2.1.p5,x.2.1.p6,x.2.1.q8,(cE x.2.1.q8)),x.2.2)) λy2=>(bB (aC (al x.2.2) (al x.2.2)&&ai) (aE y2))) (jn (α:=Bool×rQ×Sx×List jR) (bf (Sx.op x.1) 2 (aE ((decide (((Sx.op x.1):Int)=2)),(x.2.1.1,x.2.1.2.1,x.2.1.p2,x.2.1.p3,x.2.1.p4,x.2.1.p5,x.2.1.p6,x.2.1.q8,(cE x.2.1.q8)),eh x.1,x.2.2)) (aE ((decide (((Sx.op x.1):Int)=3)),(x.2.1.1,x.2.1.2.1,x.2.1.p2,x.2.1.p3,x.2.1.p4,x.2.1.p5,x.2.1.p6,x.2.1.q8,(cE x.2.1.q8)),eh x.1,x.2.2))) λI=>(bcase I.1 (obind (rr06_gen_branches (eh I.p2,I.2.1,I.q3)) λy4=>(bB (aC (al I.q3) (al I.q3)&&ai) (aE y4))) (bf (Sx.op x.1) 4 (obind (j_ (I.2.1.2.1,(Sx.name I.p2))) λy5=>(obind (rr06_gen_around ((eh I.p2,11,12,y5),I.2.1,I.q3)) λy6=>(bB (aC (al I.q3) (al I.q3)&&ai) (aE y6)))) (bf (Sx.op x.1) 5 (obind (j_ (I.2.1.2.1,(Sx.name I.p2))) λy7=>(obind (rr06_gen_around ((eh I.p2,13,14,y7),I.2.1,I.q3)) λy8=>(bB (aC (al I.q3) (al I.q3)&&ai) (aE y8)))) (bf (Sx.op x.1) 6 (obind (j_ (I.2.1.2.1,(Sx.name I.p2))) λy9=>(obind (rr06_gen_around ((eh I.p2,15,16,y9),I.2.1,I.q3)) λy10=>(bB (aC (al I.q3) (al I.q3)&&ai) (aE y10)))) (bf (Sx.op x.1) 7 (obind (rr06_gen_around ((eh I.p2,17,18,0),I.2.1,I.q3)) λy11=>(bB (aC (al I.q3) (al I.q3)&&ai) (aE y11))) (bf (Sx.op x.1) 8 (obind (rr06_gen_around ((eh I.p2,19,20,0),I.2.1,I.q3)) λy12=>(bB (aC (al I.q3) (al I.q3)&&ai) (aE y12))) (bf (Sx.op x.1) 9 (obind (jt ((Sx.name I.p2),I.2.1,I.q3)) λU=>(bB (aC (al I.q3) (al U.2.2)&&ai) (obind (cD ((21,U.1,0,0,0,0),U.2)) λy14=>(bB (aC (al U.2.2) (al U.2.2)&&ai) (aE y14))))) (bf (Sx.op x.1) 10 (obind (jt ((Sx.name I.p2),I.2.1,I.q3)) λM=>(bB (aC (al I.q3) (al M.2.2)&&ai) (obind (cD ((22,M.1,0,0,0,0),M.2)) λy16=>(bB (aC (al M.2.2) (al M.2.2)&&ai) (aE y16))))) (bf (Sx.op x.1) 11 (obind (jt ((Sx.name I.p2),I.2.1,I.q3)) λJ=>(bB (aC (al I.q3) (al J.2.2)&&ai) (obind (cD ((23,J.1,0,0,0,0),J.2)) λy18=>(bB (aC (al J.2.2) (al J.2.2)&&ai) (aE y18))))) (bf (Sx.op x.1) 12 (obind (iY (I.2.1.p4,(Sx.name I.p2))) λy19=>(obind (cD ((24,y19,0,0,0,0),I.2.1,I.q3)) λy20=>(bB (aC (al I.q3) (al I.q3)&&ai) (aE y20)))) (bf (Sx.op x.1) 13 (obind (iY (I.2.1.p4,(Sx.name I.p2))) λy21=>(obind (cD ((25,y21,0,0,0,0),I.2.1,I.q3)) λy22=>(bB (aC (al I.q3) (al I.q3)&&ai) (aE y22)))) (bf (Sx.op x.1) 14 (obind (iJ ((d_ ((Xp.op (Sx.expr I.p2)),(Xp.n (Sx.expr I.p2)),(Xp.name (Sx.expr I.p2)),(Xp.l (Sx.expr I.p2))),(aY x.2.1.p6)),I.2.1,I.q3)) λY=>(bB (aC (al I.q3) (al I.q3)&&ai) (obind (iY (Y.1.p3,(Sx.name I.p2))) λy24=>(obind (cD ((26,y24,(aY x.2.1.p6),0,0,0),Y)) λy25=>(bB (aC (al Y.2) (al Y.2)&&ai) (aE y25)))))) (bf (Sx.op x.1) 15 (obind (iY (I.2.1.p6,(Sx.name I.p2))) λy26=>(obind (iY (I.2.1.p3,(Sx.arg I.p2))) λy27=>(obind (cD ((27,y26,y27,0,0,0),I.2.1,I.q3)) λZ=>(bB (aC (al I.q3) (al I.q3)&&ai) (aE Z))))) (aE (I.2.1,I.q3))))))))))))))))) λx1=>(af x1))
def mz (rr06_gen_stmts:acm->Option (rQ×List jR)) (rr06_gen_stmt:Mk->Option (rQ×List jR)) (rr06_gen_branches:Mk->Option (rQ×List jR)) (rr06_gen_around:acn->Option (rQ×List jR)) (x:Sx×rQ×List jR):Option (rQ×List jR):=
 (obind (iJ ((d_ ((Xp.op (Sx.expr x.1)),(Xp.n (Sx.expr x.1)),(Xp.name (Sx.expr x.1)),(Xp.l (Sx.expr x.1))),(aY x.2.1.p6)),x.2)) λJ=>(bB (aC (al x.2.2) (al x.2.2)&&ai) (obind (cD ((10,(aY J.1.p6),0,0,0,0),J)) λZ=>(bB (aC (al J.2) (al J.2)&&ai) (obind (rr06_gen_stmts ((Sx.body x.1),Z)) λI=>(bB (aC (al Z.2) (al Z.2)&&ai) (bf (Sx.op x.1) 3 (obind (cD ((5,(aY x.2.2),0,0,0,0),(I.1.1,I.1.2.1,I.1.p2,I.1.p3,I.1.p4,I.1.p5,I.1.p6,x.2.1.p7,I.1.q8),I.2)) λU=>(bB (aC (al I.2) (al I.2)&&ai) (ck (fe (aY J.2) (al U.2)) (af (U.1,(cQ U.2 (aY J.2) ((aJ (T:=qW) U.2 (aY J.2)).1,((aJ (T:=qW) U.2 (aY J.2)).2).1,(aY U.2),(((aJ (T:=qW) U.2 (aY J.2)).2).2).2))))))) (bf (aO (al (Sx.els x.1))) 0 (ck (fe (aY J.2) (al I.2)) (af ((I.1.1,I.1.2.1,I.1.p2,I.1.p3,I.1.p4,I.1.p5,I.1.p6,x.2.1.p7,I.1.q8),(cQ I.2 (aY J.2) ((aJ (T:=qW) I.2 (aY J.2)).1,((aJ (T:=qW) I.2 (aY J.2)).2).1,(aY I.2),(((aJ (T:=qW) I.2 (aY J.2)).2).2).2))))) (obind (cD ((5,0,0,0,0,0),(I.1.1,I.1.2.1,I.1.p2,I.1.p3,I.1.p4,I.1.p5,I.1.p6,x.2.1.p7,I.1.q8),I.2)) λM=>(bB (aC (al I.2) (al I.2)&&ai) (ck (fe (aY J.2) (al M.2)) (obind (rr06_gen_stmts ((Sx.els x.1),M.1,(cQ M.2 (aY J.2) ((aJ (T:=qW) M.2 (aY J.2)).1,((aJ (T:=qW) M.2 (aY J.2)).2).1,(aY M.2),(((aJ (T:=qW) M.2 (aY J.2)).2).2).2)))) λY=>(bB (aC (al (cQ M.2 (aY J.2) ((aJ (T:=qW) M.2 (aY J.2)).1,((aJ (T:=qW) M.2 (aY J.2)).2).1,(aY M.2),(((aJ (T:=qW) M.2 (aY J.2)).2).2).2))) (al (cQ M.2 (aY J.2) ((aJ (T:=qW) M.2 (aY J.2)).1,((aJ (T:=qW) M.2 (aY J.2)).2).1,(aY M.2),(((aJ (T:=qW) M.2 (aY J.2)).2).2).2)))&&ai) (ck (fe (aY I.2) (al Y.2)) (af (Y.1,(cQ Y.2 (aY I.2) ((aJ (T:=qW) Y.2 (aY I.2)).1,(aY Y.2),((aJ (T:=qW) Y.2 (aY I.2)).2).2))))))))))))))))))
def oZ (rr06_gen_stmts:acm->Option (rQ×List jR)) (rr06_gen_stmt:Mk->Option (rQ×List jR)) (rr06_gen_branches:Mk->Option (rQ×List jR)) (rr06_gen_around:acn->Option (rQ×List jR)) (x:(Sx×Int×Int×Int)×rQ×List jR):Option (rQ×List jR):=
 (obind (cD ((x.1.2.1,x.1.q3,0,0,0,0),x.2)) λJ=>(bB (aC (al x.2.2) (al x.2.2)&&ai) (obind (rr06_gen_stmts ((Sx.body x.1.1),J)) λI=>(bB (aC (al J.2) (al J.2)&&ai) (obind (cD ((x.1.p2,x.1.q3,0,0,0,0),(I.1.1,I.1.2.1,I.1.p2,I.1.p3,I.1.p4,I.1.p5,I.1.p6,x.2.1.p7,I.1.q8),I.2)) λM=>(bB (aC (al I.2) (al I.2)&&ai) (af M)))))))
mutual
def dM:Nat->acm->Option (rQ×List jR)
 |0,_=>ah
 |n+1,x=>qE (dM n) (eR n) (db n) (dI n) x
def eR:Nat->Mk->Option (rQ×List jR)
 |0,_=>ah
 |n+1,x=>rZ (dM n) (eR n) (db n) (dI n) x
def db:Nat->Mk->Option (rQ×List jR)
 |0,_=>ah
 |n+1,x=>mz (dM n) (eR n) (db n) (dI n) x
def dI:Nat->acn->Option (rQ×List jR)
 |0,_=>ah
 |n+1,x=>oZ (dM n) (eR n) (db n) (dI n) x
end
def uj (x:(List Sx)×rQ×List jR):Option (rQ×List jR):=dM fuel x
def qr (x:sg×List sd):Option (zW×Int×Int):=
 (obind (fm x) λy1=>(je y1.1 0 (af (((([]:List S4),([]:List ((List UInt8)×Bool)),([]:List fw),([]:List (List UInt8)),([]:List (List UInt8)),([]:List (Int×Int×Int))),([]:List (Int×List jR))),y1)) (obind (uk x) λy2=>(iter (σ:=(Int×Int)×(sg×List sd)×dz×List (Int×List jR)) (λJ=>(bx J.1.2 (aY J.2.1.2) (bA sY J.2.1.2 J.1.2 λz4=>(bA sY J.2.1.2 J.1.2 λz5=>(obind (uj (z5.2.2.2,(J.p2.1,J.p2.2.1,J.p2.p2,J.p2.p3,J.p2.p4,J.p2.q5,z4.2.2.1,0,J.1.1),([]:List jR))) λU=>(bB (aC (al ([]:List jR)) (al ([]:List jR))&&ai) (obind (cD ((28,0,0,0,0,0),(U.1.1,U.1.2.1,U.1.p2,U.1.p3,U.1.p4,U.1.p5,U.1.p6,(-1),U.1.q8),U.2)) λy7=>(bB (aC (al U.2) (al U.2)&&ai) (iter (σ:=Int×(sg×List sd)×dz×rQ×Int×(List (Int×List jR))×List jR) (λM=>(bx M.1 (aY M.q6) (kB qW M.q6 M.1 λz9=>(obind (jE z9) λY=>(iter (σ:=Int×(sg×List sd)×dz×rQ×Int×(List (Int×List jR))×List jR) (λI=>(bx I.1 (aY Y) (bA aM Y I.1 λZ=>(cK ((cE I.1),I.2.1,I.p2,I.p3,(iD I.p4 (cE Z)),I.q5))) (aE (mr ((cE M.1),I.2))))) (0,M.2)))) (obind (bB (a_ (al M.p5+al ([(M.p4,M.q6)])) 32) (cK ((U.1.q8,(cE J.1.2)),M.2.1,M.p2,(M.p5++([(M.p4,M.q6)]))))) λr=>af (bP r)))) (0,J.2.1,J.p2,y7.1,(aY y7.1.p6),J.q3,y7.2)))))))) (aE (J.2.2,0,0)))) ((0,0),x,y2,([]:List (Int×List jR)))))))
def qp (x:(List Int)×Int):Option (Bool):=
 (iter (σ:=Int) (λx1=>(bx x1 (aY x.1) (bA aM x.1 x1 λI=>(bf I x.2 (aE ai) (cK (cE x1)))) (aE aj))) 0)
def wA (x:(List Int)×Int):Option (List Int):=
 (iter (σ:=Int) (λx1=>(jn (α:=Bool) (bx x1 (aY x.1) (bA aM x.1 x1 λJ=>(aE (fQ J x.2))) (aE aj)) λx2=>(bcase x2 (cK (cE x1)) (obind (jn (α:=Bool) (bx x1 (aY x.1) (bA aM x.1 x1 λI=>(aE (decide ((I:Int)=x.2)))) (aE aj)) λM=>(bcase M (af x.1) (bB (c7 0 x1&&c7 x1 (al x.1)) (bB (a_ (al ([]:List Int)+al (dP (aU x1) x.1)) 8) (bB (a_ (al (([]:List Int)++(dP (aU x1) x.1))+al ([x.2])) 8) (bB (c7 0 x1&&c7 x1 (al x.1)) (bB (a_ (al ((([]:List Int)++(dP (aU x1) x.1))++([x.2]))+al (List.drop (aU x1) x.1)) 8) (af (((([]:List Int)++(dP (aU x1) x.1))++([x.2]))++(List.drop (aU x1) x.1)))))))))) λr=>af (bP r))))) 0)
def rz (x:(List Int)×List Int):Option (List Int):=
 (iter (σ:=(List Int)×Int) (λx1=>(bx x1.2 (aY x.1) (bA aM x.1 x1.2 λM=>(obind (wA (x1.1,M)) λY=>(cK (Y,(cE x1.2))))) (obind (iter (σ:=(List Int)×Int) (λI=>(bx I.2 (aY x.2) (bA aM x.2 I.2 λJ=>(obind (wA (I.1,J)) λU=>(cK (U,(cE I.2))))) (aE I.1))) (x1.1,0)) λr=>af (bP r)))) (([]:List Int),0))
def mh (x:Int):Option (Int):=
 (jn (α:=Bool) (bx x 1 (aE ai) (aE (fQ 100 x))) λx1=>(bcase x1 (af 0) (af x)))
def cj (x:Int×(List Int)×(List (List Int))×Int):Option ((Int×Int)×(List Int)×List (List Int)):=
 (bB (a_ (al ([]:List Int)+al x.2.1) 8) (iter (σ:=Int×tY×(Int×Int)×(Int×Int)×(List Int)×List (List Int)) (λx1=>(bx x1.1 (aY x1.2.1.p2) (bA (.sl aM) x1.2.1.p2 x1.1 λI=>(bB (a_ (al ([]:List Int)+al I) 8) (bB (a_ (al x1.q5+al ([(([]:List Int)++I)])) 24) (cK ((cE x1.1),x1.2.1,x1.p2,x1.p3,x1.p4,(x1.q5++([(([]:List Int)++I)]))))))) (aE x1.q3))) (0,x,(0,0),(x.1,x.q3),(([]:List Int)++x.2.1),([]:List (List Int)))))
def wz (x:(jR×Int×Int)×(List Int)×List (List Int)):Option (((Int×Int)×Bool)×(List Int)×List (List Int)):=
 (obind (jE x.1.1) λy1=>(iter (σ:=Int×(List Int)×(List (List Int))×jR×(Int×Int)×Int×Int) (λx2=>(bx x2.1 (aY y1) (jn (α:=Bool×(List Int)×(List (List Int))×jR×(Int×Int)×Int×Int) (bA aM y1 x2.1 λz4=>(bx z4 0 (aE (ai,x2.2)) (bA aM y1 x2.1 λz5=>(aE ((c7 (aY x2.2.1) z5),x2.2))))) λx3=>(bcase x3.1 ah (cK ((cE x2.1),x3.2)))) (obind (jn (α:=(Int×Bool×List Int)×(List Int)×(List (List Int))×jR×(Int×Int)×Int×Int) (bf x2.p3.1 5 (cK (((x2.p3.2.1,x2.p4.2),ai),x2.2.1,x2.p2)) (bf x2.p3.1 1 (aE ((x2.p3.p4,ai,([]:List Int)),x2.2)) (bf x2.p3.1 2 (kB aM x2.2.1 x2.p3.p2 λz7=>(kB (.sl aM) x2.p2 x2.p3.p2 λz8=>(aE ((z7,ai,z8),x2.2)))) (bf x2.p3.1 3 (obind (mh x2.p3.p4) λy9=>(kB aM x2.2.1 x2.p3.p2 λz10=>(obind (ul (y9,z10)) λM=>(kB (.sl aM) x2.p2 x2.p3.p2 λz12=>(aE ((M.1,M.2,z12),x2.2)))))) (obind (mh x2.p3.p4) λy13=>(kB aM x2.2.1 x2.p3.p2 λz14=>(kB aM x2.2.1 x2.p3.p3 λZ=>(obind (su (y13,z14,Z)) λJ=>(kB (.sl aM) x2.p2 x2.p3.p2 λY=>(kB (.sl aM) x2.p2 x2.p3.p3 λU=>(obind (rz (Y,U)) λy19=>(aE ((J.1,J.2,y19),x2.2))))))))))))) λI=>(bB (a_ (al ([]:List Int)+al I.1.2.2) 8) (ck (fe I.p3.2.1 (al I.2.1)) (ck (fe I.p3.2.1 (al I.p2)) (af ((((cE I.p4.1),I.p4.2),I.1.2.1),(cQ I.2.1 I.p3.2.1 I.1.1),(cQ I.p2 I.p3.2.1 (([]:List Int)++I.1.2.2)))))))) λr=>af (bP r)))) (0,x.2.1,x.2.2,x.1.1,x.1.2,0,0)))
def mZ (x:(Int×List jR)×Int×(List Int)×(List (List Int))×Int):Option (tY×Bool):=
 (jn (α:=Bool×(Int×List jR)×tY×Int×Int) (je (aY x.p2) x.1.1 (aE (ai,x.1,x.2,0,0)) (aE ((!decide (((aY x.p3):Int)=x.1.1)),x.1,x.2,0,0))) λx1=>(bcase x1.1 (af ((0,([]:List Int),([]:List (List Int)),0),aj)) (obind (cj x1.p2) λY=>(iter (σ:=Int×(Int×List jR)×(Int×Int)×(Int×Int)×(List Int)×List (List Int)) (λJ=>(iH J.1 (aY J.2.1.2) (jn (α:=Bool×(Int×List jR)×(Int×Int)×(Int×Int)×(List Int)×List (List Int)) (bx J.p2.1 0 (aE (ai,J.2)) (aE ((c7 (aY J.2.1.2) J.p2.1),J.2))) λI=>(bcase I.1 (aE ((0,([]:List Int),([]:List (List Int)),0),aj)) (bA qW I.2.1.2 I.p2.1 λU=>(obind (pI U.1) λZ=>(bcase (!Z) (aE ((I.p2.1,I.p4,I.q5,I.p2.2),ai)) (bf J.1 (aY I.2.1.2) (aE ((0,([]:List Int),([]:List (List Int)),0),aj)) (obind (wz ((U,I.p2),I.q4)) λM=>(bB (aC (al I.q5) (al M.2.2)&&(aC (al I.p4) (al M.2.1)&&ai)) (bcase (!M.1.2) (aE ((0,([]:List Int),([]:List (List Int)),0),aj)) (cK ((cE J.1),I.2.1,M.1.1,I.p3,M.2))))))))))) (aE ((0,([]:List Int),([]:List (List Int)),0),aj)))) (0,x1.2.1,Y.1,x1.q3,Y.2)))))
def rx (x:gP×gz×(List fw)×cf×cf×List (Int×Int×Int)):Option o9:=
 (iter (σ:=Int×dz×Int×Int×List (Int×List Int)) (λx1=>(bx x1.1 (aY x1.2.1.2.1) (bB (a_ (al x1.q4+al ([((-1),([]:List Int))])) 32) (cK ((cE x1.1),x1.2.1,x1.p2,x1.p3,(x1.q4++([((-1),([]:List Int))]))))) (obind (iter (σ:=Int×dz×Int×Int×gG×List Bool) (λx2=>(bx x2.1 (aY x2.2.1.p3) (bB (a_ (al x2.q5+al ([aj])) 1) (cK ((cE x2.1),x2.2.1,x2.p2,x2.p3,x2.p4,(x2.q5++([aj]))))) (obind (iter (σ:=Int×dz×Int×Int×gG×(List Bool)×List dy) (λI=>(bx I.1 (aY I.2.1.p4) (jn (α:=dz×Int×Int×dy×gG×(List Bool)×List dy) (bf I.1 0 (aE (I.2.1,I.p2,I.p3,(1,0,aj),I.q4)) (aE (I.2.1,I.p2,I.p3,(0,0,aj),I.q4))) λJ=>(bB (a_ (al J.q6+al ([J.p3])) 24) (cK ((cE I.1),J.1,J.2.1,J.p2,J.p4,J.p5,(J.q6++([J.p3])))))) (aE (I.p4,I.p3,I.q5)))) (0,x2.2.1,x2.p2,x2.p3,x2.p4,x2.q5,([]:List dy))) λr=>af (bP r)))) (0,x1.2.1,x1.p2,x1.p3,x1.q4,([]:List Bool))) λr=>af (bP r)))) (0,x,0,(-1),([]:List (Int×List Int))))
def ry (x:dz×gG×Int×(List Bool)×List dy):Option (Bool):=
 (iter (σ:=Int×dz×gG×Int×(List Bool)×List dy) (λx1=>(bx x1.1 (aY x1.2.1.p2) (jn (α:=Bool×dz×gG×Int×(List Bool)×List dy) (bA lq x1.2.1.p2 x1.1 λJ=>(bx J.2 0 (aE (ai,x1.2)) (bA lq x1.2.1.p2 x1.1 λI=>(aE ((c7 (aY x1.2.1.2.1) I.2),x1.2))))) λx2=>(bcase x2.1 (aE aj) (cK ((cE x1.1),x2.2)))) (obind (jn (α:=Bool) (bf (aY x1.p2) (aY x1.2.1.2.1) (bf (aY x1.p4) (aY x1.2.1.p3) (aE (decide (((aY x1.q5):Int)=(aY x1.2.1.p4)))) (aE aj)) (aE aj)) λM=>(af M)) λr=>af (bP r)))) (0,x))
def qn (x:Int×Int):Option (Bool):=
 (jn (α:=Bool) (iH 0 x.1 (aE (fQ x.1 x.2)) (aE aj)) λx1=>(af x1))
def ui (x:dz×Int×Int):Option (Bool):=
 (jn (α:=Bool×gP×gz×(List fw)×cf×cf×List (Int×Int×Int)) (bf x.2.1 1 (aE ((decide ((x.2.1:Int)=1)),x.1)) (bf x.2.1 2 (aE ((decide ((x.2.1:Int)=2)),x.1)) (bf x.2.1 5 (aE ((decide ((x.2.1:Int)=5)),x.1)) (bf x.2.1 12 (aE ((decide ((x.2.1:Int)=12)),x.1)) (bf x.2.1 13 (aE ((decide ((x.2.1:Int)=13)),x.1)) (bf x.2.1 14 (aE ((decide ((x.2.1:Int)=14)),x.1)) (aE ((decide ((x.2.1:Int)=15)),x.1)))))))) λx1=>(bcase x1.1 (af (decide ((x.2.2:Int)=(-1)))) (jn (α:=Bool×gP×gz×(List fw)×cf×cf×List (Int×Int×Int)) (bf x.2.1 3 (aE ((decide ((x.2.1:Int)=3)),x1.2)) (aE ((decide ((x.2.1:Int)=4)),x1.2))) λx2=>(bcase x2.1 (obind (qn (x.2.2,(aY x2.2.1))) λy3=>(af y3)) (jn (α:=Bool×gP×gz×(List fw)×cf×cf×List (Int×Int×Int)) (bf x.2.1 6 (aE ((decide ((x.2.1:Int)=6)),x2.2)) (aE ((decide ((x.2.1:Int)=7)),x2.2))) λU=>(bcase U.1 (jn (α:=Bool) (obind (qn (x.2.2,(aY U.p2))) λy6=>(bcase y6 (bA qY U.p2 x.2.2 λz7=>(aE (!z7.2))) (aE aj))) λx5=>(af x5)) (jn (α:=Bool×gP×gz×(List fw)×cf×cf×List (Int×Int×Int)) (bf x.2.1 8 (aE ((decide ((x.2.1:Int)=8)),U.2)) (bf x.2.1 9 (aE ((decide ((x.2.1:Int)=9)),U.2)) (bf x.2.1 10 (aE ((decide ((x.2.1:Int)=10)),U.2)) (aE ((decide ((x.2.1:Int)=11)),U.2))))) λM=>(bcase M.1 (jn (α:=Bool) (obind (qn (x.2.2,(aY M.p2))) λy10=>(bcase y10 (bA qY M.p2 x.2.2 λZ=>(aE Z.2)) (aE aj))) λx9=>(af x9)) (jn (α:=Bool×gP×gz×(List fw)×cf×cf×List (Int×Int×Int)) (bf x.2.1 16 (aE ((decide ((x.2.1:Int)=16)),M.2)) (bf x.2.1 17 (aE ((decide ((x.2.1:Int)=17)),M.2)) (bf x.2.1 18 (aE ((decide ((x.2.1:Int)=18)),M.2)) (aE ((decide ((x.2.1:Int)=19)),M.2))))) λJ=>(bcase J.1 (obind (qn (x.2.2,(aY J.p3))) λy13=>(af y13)) (jn (α:=Bool×gP×gz×(List fw)×cf×cf×List (Int×Int×Int)) (bf x.2.1 20 (aE ((decide ((x.2.1:Int)=20)),J.2)) (aE ((decide ((x.2.1:Int)=21)),J.2))) λI=>(bcase I.1 (obind (qn (x.2.2,(aY I.p5))) λy15=>(af y15)) (jn (α:=Bool×gP×gz×(List fw)×cf×cf×List (Int×Int×Int)) (bf x.2.1 22 (aE ((decide ((x.2.1:Int)=22)),I.2)) (aE ((decide ((x.2.1:Int)=23)),I.2))) λY=>(bcase Y.1 (obind (qn (x.2.2,(aY Y.p4))) λy17=>(af y17)) (af aj)))))))))))))))
def j9 (x:dz×o9×Int×Int×Int):Option (Bool):=
 (jn (α:=Bool×dz×gG×Int×(List Bool)×List dy) (obind (ry (x.1,x.2.1)) λy2=>(bcase (!y2) (aE (ai,x.1,x.2.1)) (obind (qn (x.p2,(aY x.1.p4))) λy3=>(bcase (!y3) (aE (ai,x.1,x.2.1)) (obind (ui (x.1,x.q3)) λy4=>(aE ((!y4),x.1,x.2.1))))))) λx1=>(bcase x1.1 (af aj) (bA ic x1.q5 x.p2 λM=>(bf x.p3 1 (af (decide ((M.1:Int)=1))) (bf x.p3 17 (jn (α:=Bool) (bf M.1 4 (bf M.2.1 x.q4 (bA lq x1.2.1.p2 x.q4 λz7=>(bA dZ x1.p2 z7.2 λz8=>(aE (decide ((z8.1:Int)=(-1)))))) (aE aj)) (aE aj)) λx6=>(af x6)) (je M.1 2 (af aj) (bf x.p3 6 (bA dZ x1.p2 x.q4 λz9=>(af (decide ((z9.1:Int)=(-1))))) (bf x.p3 10 (jn (α:=Bool) (bA dZ x1.p2 x.q4 λz11=>(bf z11.1 (-1) (bA dZ x1.p2 x.q4 λz12=>(aE (decide (((aY z12.2):Int)=0)))) (aE aj))) λx10=>(af x10)) (bf x.p3 8 (jn (α:=Bool) (bA dZ x1.p2 x.q4 λz14=>(bf z14.1 (-1) (bA dZ x1.p2 x.q4 λz15=>(obind (qp (z15.2,x.p2)) λy16=>(aE (!y16)))) (aE aj))) λx13=>(af x13)) (jn (α:=Bool×dz×o9×Int×Int×Bool) (bf x.p3 7 (aE ((decide ((x.p3:Int)=7)),x1.2.1,x1.2.2,M)) (aE ((decide ((x.p3:Int)=11)),x1.2.1,x1.2.2,M))) λI=>(bcase I.1 (bA dZ I.p2.1 x.q4 λz18=>(af (decide ((z18.1:Int)=x.p2)))) (bf x.p3 9 (bA dZ I.p2.1 x.q4 λz19=>(obind (qp (z19.2,x.p2)) λy20=>(af y20))) (bf x.p3 12 (af (decide ((I.p2.2.1:Int)=(-1)))) (bf x.p3 13 (af (decide ((I.p2.2.1:Int)=x.p2))) (bf x.p3 14 (af (!I.q5)) (bf x.p3 15 (af I.q5) (jn (α:=Bool×dz×gG×Int×(List Bool)×List dy) (bf x.p3 16 (aE ((decide ((x.p3:Int)=16)),I.2.1,I.p2)) (bf x.p3 18 (aE ((decide ((x.p3:Int)=18)),I.2.1,I.p2)) (aE ((decide ((x.p3:Int)=19)),I.2.1,I.p2)))) λJ=>(bcase J.1 (bA lq J.2.1.p2 x.q4 λz22=>(bA dZ J.p2 z22.2 λz23=>(af (decide ((z23.1:Int)=x.p2))))) (bf x.p3 20 (jn (α:=Bool) (je x.q4 x.p2 (bA ic J.q5 x.q4 λz25=>(aE (decide ((z25.1:Int)=0)))) (aE aj)) λx24=>(af x24)) (bf x.p3 21 (jn (α:=Bool) (je x.q4 x.p2 (bA ic J.q5 x.q4 λZ=>(aE (decide ((Z.1:Int)=5)))) (aE aj)) λx26=>(af x26)) (bf x.p3 22 (bA (.bool) J.p4 x.q4 λY=>(af (!Y))) (bf x.p3 23 (bA (.bool) J.p4 x.q4 λU=>(af U)) (af ai)))))))))))))))))))))))
def nJ (x:o9×Int):Option (List Int):=
 (iter (σ:=Int×o9×List Int) (λx1=>(bx x1.1 (aY x1.2.1.q3) (jn (α:=o9×List Int) (jn (α:=Bool×o9×List Int) (bA ic x1.2.1.q3 x1.1 λM=>(bf M.1 3 (bA ic x1.2.1.q3 x1.1 λJ=>(aE ((decide ((J.2.1:Int)=x.2)),x1.2))) (aE (aj,x1.2)))) λI=>(bcase I.1 (bB (a_ (al I.2.2+al ([x1.1])) 8) (aE (I.2.1,(I.2.2++([x1.1]))))) (aE I.2))) λx2=>(cK ((cE x1.1),x2))) (aE x1.2.2))) (0,x.1,([]:List Int)))
def qm (x:(List Int)×Int):Option (List Int):=
 (iter (σ:=Int×List Int) (λx1=>(bx x1.1 (aY x.1) (jn (α:=List Int) (bA aM x.1 x1.1 λJ=>(je J x.2 (bA aM x.1 x1.1 λI=>(bB (a_ (al x1.2+al ([I])) 8) (aE (x1.2++([I]))))) (aE x1.2))) λx2=>(cK ((cE x1.1),x2))) (aE x1.2))) (0,([]:List Int)))
def il (x:gG×Int×(List Bool)×List dy):Option (Int×gG×(List Bool)×List dy):=
 (bB (a_ (al ([]:List Bool)+al x.p2) 1) (bB (a_ (al ([]:List dy)+al x.q3) 24) (iter (σ:=Int×o9×Int×Int×gG×(List Bool)×List dy) (λx1=>(bx x1.1 (aY x1.2.1.1) (bA dZ x1.2.1.1 x1.1 λJ=>(bA dZ x1.2.1.1 x1.1 λI=>(bB (a_ (al ([]:List Int)+al I.2) 8) (bB (a_ (al x1.p4+al ([(J.1,(([]:List Int)++I.2))])) 32) (cK ((cE x1.1),x1.2.1,x1.p2,x1.p3,(x1.p4++([(J.1,(([]:List Int)++I.2))])),x1.q5)))))) (aE x1.q3))) (0,x,0,x.2.1,([]:List (Int×List Int)),(([]:List Bool)++x.p2),(([]:List dy)++x.q3)))))
def mg (x:(Int×Int)×gG×(List Bool)×List dy):Option ((List Int)×gG×(List Bool)×List dy):=
 (iter (σ:=Int×gG×(List Bool)×(List dy)×Int×List Int) (λx1=>(bx x1.1 (aY x1.p3) (jn (α:=gG×(List Bool)×(List dy)×Int×List Int) (jn (α:=Bool×gG×(List Bool)×(List dy)×Int×List Int) (kB ic x1.p3 x1.1 λM=>(bf M.1 3 (kB ic x1.p3 x1.1 λJ=>(aE ((decide ((J.2.1:Int)=x.1.2)),x1.2))) (aE (aj,x1.2)))) λI=>(bcase I.1 (bB (a_ (al I.q5+al ([x1.1])) 8) (aE (I.2.1,I.p2,I.p3,I.p4,(I.q5++([x1.1]))))) (aE I.2))) λx2=>(cK ((cE x1.1),x2))) (aE (x1.q5,x1.2.1,x1.p2,x1.p3)))) (0,x.2.1,x.p2,x.q3,x.1.1,([]:List Int)))
def jC (x:(Int×Int)×gG×(List Bool)×List dy):Option (List Int):=obind (mg x) λy=>same y.2 x.2 (af y.1)
def pi (x:dz×o9×Int×Int×Int×Int):Option (o9×Int×Bool):=
 (obind (j9 (x.1,x.2.1,x.p2,x.p3,x.p4)) λy1=>(bcase (!y1) (af ((([]:List (Int×List Int)),0,([]:List Bool),([]:List dy)),0,aj)) (obind (il x.2.1) λU=>(jn (α:=Int×Int×Int×gG×(List Bool)×List dy) (bf x.p3 1 (ck (fe x.p2 (al U.q3)) (aE (0,U.1,0,U.2.1,U.p2,(cQ U.q3 x.p2 (2,(aJ (T:=ic) U.q3 x.p2).2))))) (bf x.p3 2 (ck (fe x.p2 (al U.q3)) (aE (0,U.1,0,U.2.1,U.p2,(cQ U.q3 x.p2 (5,(aJ (T:=ic) U.q3 x.p2).2))))) (jn (α:=Bool×dz×Int×Int×gG×(List Bool)×List dy) (bf x.p3 6 (aE ((decide ((x.p3:Int)=6)),x.1,U.1,0,U.2)) (aE ((decide ((x.p3:Int)=10)),x.1,U.1,0,U.2))) λY=>(bcase Y.1 (ck (fe x.p4 (al Y.p4)) (aE (0,Y.p2,Y.p3,(cQ Y.p4 x.p4 (x.p2,(aJ (T:=dZ) Y.p4 x.p4).2)),Y.q5))) (jn (α:=Bool×dz×Int×Int×gG×(List Bool)×List dy) (bf x.p3 7 (aE ((decide ((x.p3:Int)=7)),Y.2)) (aE ((decide ((x.p3:Int)=11)),Y.2))) λI=>(bcase I.1 (ck (fe x.p4 (al I.p4)) (aE (0,I.p2,I.p3,(cQ I.p4 x.p4 ((-1),(aJ (T:=dZ) I.p4 x.p4).2)),I.q5))) (bf x.p3 8 (kB dZ I.p4 x.p4 λz6=>(obind (rz (z6.2,[x.p2])) λy7=>(ck (fe x.p4 (al I.p4)) (aE (0,I.p2,I.p3,(cQ I.p4 x.p4 ((aJ (T:=dZ) I.p4 x.p4).1,y7)),I.q5))))) (bf x.p3 9 (kB dZ I.p4 x.p4 λz8=>(obind (qm (z8.2,x.p2)) λy9=>(ck (fe x.p4 (al I.p4)) (aE (0,I.p2,I.p3,(cQ I.p4 x.p4 ((aJ (T:=dZ) I.p4 x.p4).1,y9)),I.q5))))) (bf x.p3 12 (aE (0,x.p2,I.q3)) (bf x.p3 13 (aE (0,(-1),I.q3)) (bf x.p3 14 (ck (fe x.p2 (al I.q6)) (aE (0,I.p2,I.p3,I.p4,I.p5,(cQ I.q6 x.p2 ((aJ (T:=ic) I.q6 x.p2).1,((aJ (T:=ic) I.q6 x.p2).2).1,ai))))) (bf x.p3 15 (ck (fe x.p2 (al I.q6)) (aE (0,I.p2,I.p3,I.p4,I.p5,(cQ I.q6 x.p2 ((aJ (T:=ic) I.q6 x.p2).1,((aJ (T:=ic) I.q6 x.p2).2).1,aj))))) (bf x.p3 16 (bA lq I.2.1.p2 x.p4 λz10=>(ck (fe z10.2 (al I.p4)) (ck (fe x.p2 (al I.q6)) (ck (fe x.p2 (al (cQ I.q6 x.p2 (3,(aJ (T:=ic) I.q6 x.p2).2)))) (aE (0,I.p2,I.p3,(cQ I.p4 z10.2 ((-1),(aJ (T:=dZ) I.p4 z10.2).2)),I.p5,(cQ (cQ I.q6 x.p2 (3,(aJ (T:=ic) I.q6 x.p2).2)) x.p2 ((aJ (T:=ic) (cQ I.q6 x.p2 (3,(aJ (T:=ic) I.q6 x.p2).2)) x.p2).1,x.p4,((aJ (T:=ic) (cQ I.q6 x.p2 (3,(aJ (T:=ic) I.q6 x.p2).2)) x.p2).2).2)))))))) (bf x.p3 17 (bA lq I.2.1.p2 x.p4 λz11=>(ck (fe z11.2 (al I.p4)) (ck (fe x.p2 (al I.q6)) (ck (fe x.p2 (al (cQ I.q6 x.p2 (2,(aJ (T:=ic) I.q6 x.p2).2)))) (aE (0,I.p2,I.p3,(cQ I.p4 z11.2 (x.p2,(aJ (T:=dZ) I.p4 z11.2).2)),I.p5,(cQ (cQ I.q6 x.p2 (2,(aJ (T:=ic) I.q6 x.p2).2)) x.p2 ((aJ (T:=ic) (cQ I.q6 x.p2 (2,(aJ (T:=ic) I.q6 x.p2).2)) x.p2).1,0,((aJ (T:=ic) (cQ I.q6 x.p2 (2,(aJ (T:=ic) I.q6 x.p2).2)) x.p2).2).2)))))))) (bf x.p3 18 (obind (jC ((I.p2,x.p4),I.q4)) λy12=>(bx 0 (aY y12) (bA aM y12 0 λz13=>(jn (α:=Int×Int×Int×gG×(List Bool)×List dy) (obind (qp (y12,x.q5)) λy15=>(bcase y15 (aE (x.q5,I.2.2)) (aE (z13,I.2.2)))) λM=>(ck (fe M.1 (al M.q5)) (aE (M.1,M.2.1,M.p2,M.p3,M.p4,(cQ M.q5 M.1 (4,(aJ (T:=ic) M.q5 M.1).2))))))) (aE ((-1),I.2.2)))) (bf x.p3 19 (obind (jC ((I.p2,x.p4),I.q4)) λy16=>(iter (σ:=Int×Int×Int×gG×(List Bool)×List dy) (λJ=>(bx J.1 (aY y16) (bA aM y16 J.1 λZ=>(ck (fe Z (al J.q5)) (cK ((cE J.1),J.2.1,J.p2,J.p3,J.p4,(cQ J.q5 Z (4,(aJ (T:=ic) J.q5 Z).2)))))) (aE (bP ((aY y16),J.2))))) (0,I.2.2))) (bf x.p3 20 (ck (fe x.p4 (al I.q6)) (aE (0,I.p2,I.p3,I.p4,I.p5,(cQ I.q6 x.p4 (1,(aJ (T:=ic) I.q6 x.p4).2))))) (bf x.p3 22 (ck (fe x.p4 (al I.p5)) (aE (0,I.p2,I.p3,I.p4,(cQ I.p5 x.p4 ai),I.q6))) (aE (0,I.2.2)))))))))))))))))))) λx3=>(af ((x3.p3,x3.2.1,x3.q4),x3.1,ai))))))
def uh (x:dz×List (Int×List jR)):Option xc:=
 (obind (jD x) λy1=>(bcase (!y1) (af ((([]:List (Int×List Int)),0,([]:List Bool),([]:List dy)),([]:List Int),([]:List Int),([]:List tY))) (obind (rx x.1) λy2=>(iter (σ:=Int×zW×Int×o9×List Int) (λM=>(bx M.1 (aY M.2.1.1.1) (bA ky M.2.1.1.1 M.1 λZ=>(bB (a_ (al M.q4+al ([Z.2.2.2.2])) 8) (cK ((cE M.1),M.2.1,M.p2,M.p3,(M.q4++([Z.2.2.2.2])))))) (obind (iter (σ:=Int×zW×Int×o9×(List Int)×List Int) (λJ=>(bx J.1 (aY J.2.1.1.p3) (bB (a_ (al J.q5+al ([0])) 8) (cK ((cE J.1),J.2.1,J.p2,J.p3,J.p4,(J.q5++([0]))))) (obind (iter (σ:=Int×zW×Int×o9×(List Int)×(List Int)×List tY) (λI=>(bx I.1 (aY I.2.1.2) (v7 I.1 I.2.1.2 (lt ((aJ (T:=xd) I.2.1.2 I.1).1) λY=>(bB (c7 0 Y&&c7 Y Y&&a_ (aU Y) 8) (v7 I.1 I.2.1.2 (lt ((aJ (T:=xd) I.2.1.2 I.1).1) λU=>(bB (c7 0 U&&c7 U U&&a_ (aU U) 24) (bB (a_ (al I.q6+al ([(0,(aG (aU Y) (0:Int)),(aG (aU U) ([]:List Int)),0)])) 64) (cK ((cE I.1),I.2.1,I.p2,I.p3,I.p4,I.p5,(I.q6++([(0,(aG (aU Y) (0:Int)),(aG (aU U) ([]:List Int)),0)]))))))))))) (aE I.q3))) (0,J.2.1,J.p2,J.p3,J.p4,J.q5,([]:List tY))) λr=>af (bP r)))) (0,M.2.1,M.p2,M.p3,M.q4,([]:List Int))) λr=>af (bP r)))) (0,x,0,y2,([]:List Int))))))
def wy (x:zW×o9×(List Int)×(List Int)×List tY):Option (Bool):=
 (jn (α:=Bool×zW×o9×(List Int)×(List Int)×List tY) (obind (jD x.1) λy2=>(bcase (!y2) (aE (ai,x)) (obind (ry (x.1.1,x.2.1)) λy3=>(bcase (!y3) (aE (ai,x)) (je (aY x.p2) (aY x.1.1.1) (aE (ai,x)) (je (aY x.p3) (aY x.1.1.p3) (aE (ai,x)) (aE ((!decide (((aY x.q4):Int)=(aY x.1.2))),x)))))))) λx1=>(bcase x1.1 (af aj) (iter (σ:=Int×zW×o9×(List Int)×(List Int)×List tY) (λI=>(bx I.1 (aY I.2.1.2) (bA eX I.q5 I.1 λJ=>(jn (α:=Bool×zW×o9×(List Int)×(List Int)×List tY) (bx J.1 0 (aE (ai,I.2)) (bA xd I.2.1.2 I.1 λZ=>(iH (aY Z.2) J.1 (aE (ai,I.2)) (bA xd I.2.1.2 I.1 λY=>(je (aY J.2.1) Y.1 (aE (ai,I.2)) (bA xd I.2.1.2 I.1 λU=>(aE ((!decide (((aY J.p2):Int)=U.1)),I.2)))))))) λM=>(bcase M.1 (aE aj) (cK ((cE I.1),M.2))))) (aE ai))) (0,x1.2))))
def wv (x:Int):Option (Int):=
 (jn (α:=Bool×List Int) (bx x 6 (aE (ai,[3,3,4,4,5,6,7,8,9,10,11,12,13,14,15,16,18,19,20,21,22,23,2])) (aE ((fQ 28 x),[3,3,4,4,5,6,7,8,9,10,11,12,13,14,15,16,18,19,20,21,22,23,2]))) λx1=>(bcase x1.1 (af 0) (kB aM x1.2 (bc .i64 (x-6)) λI=>(af I))))
def sr (x:jR×Int×(List Int)×(List (List Int))×Int):Option (Int):=
 (jn (α:=Bool×jR×Int×(List Int)×(List (List Int))×Int) (bf x.1.1 6 (aE ((decide ((x.1.1:Int)=6)),x)) (aE ((decide ((x.1.1:Int)=27)),x))) λx1=>(bcase x1.1 (af x1.2.1.p2) (bf x.1.1 7 (bA aM x1.p3 x1.2.1.p3 λM=>(obind (rA (M,x1.2.1.p4)) λY=>(af (bc .i64 (x1.2.1.p2+Y))))) (bf x.1.1 9 (bA aM x1.p3 x1.2.1.p3 λJ=>(obind (rA (J,x1.2.1.p4)) λU=>(af (bc .i64 (x1.2.1.2.1+U))))) (jn (α:=Bool×Int×Int×Int×Int×Int×Int) (bf x.1.1 10 (aE ((decide ((x.1.1:Int)=10)),x1.2.1)) (bf x.1.1 17 (aE ((decide ((x.1.1:Int)=17)),x1.2.1)) (bf x.1.1 18 (aE ((decide ((x.1.1:Int)=18)),x1.2.1)) (bf x.1.1 19 (aE ((decide ((x.1.1:Int)=19)),x1.2.1)) (bf x.1.1 20 (aE ((decide ((x.1.1:Int)=20)),x1.2.1)) (aE ((decide ((x.1.1:Int)=28)),x1.2.1))))))) λI=>(bcase I.1 (af (-1)) (af I.p2)))))))
def nI (x:zW×xc×Int):Option (gj×Bool):=
 (jn (α:=Bool×zW×xc×Int×Int×Int×Int×Int) (obind (wy (x.1,x.2.1)) λy2=>(bcase (!y2) (aE (ai,x.1,x.2.1,0,0,0,0,0)) (bx x.2.2 0 (aE (ai,x.1,x.2.1,0,0,0,0,0)) (aE ((c7 (aY x.1.2) x.2.2),x.1,x.2.1,0,0,0,0,0))))) λx1=>(bcase x1.1 (af ((0,0,0,0,0,([]:List Int),([]:List Int)),aj)) (bA eX x1.p2.q3 x.2.2 λZ=>(bA xd x1.2.1.2 x.2.2 λz4=>(bA qW z4.2 Z.1 λM=>(bA ic x1.p2.1.q3 x.2.2 λz6=>(bf z6.1 1 (af ((x.2.2,1,(-1),0,(-1),([]:List Int),([]:List Int)),ai)) (bf z6.1 4 (bA ic x1.p2.1.q3 x.2.2 λz7=>(af ((x.2.2,17,z7.2.1,0,M.q5,([]:List Int),([]:List Int)),ai))) (bf z6.1 2 (obind (wv M.1) λy8=>(obind (sr (M,Z)) λy9=>(bf y8 0 (af ((0,0,0,0,0,([]:List Int),([]:List Int)),aj)) (jn (α:=vR×tY×jR×vR×List Int) (bf M.1 10 (bA (.sl aM) Z.p2 M.2.1 λz11=>(bB (a_ (al (z11:List Int)) 8) (aE (x1.q3,Z,M,(x.2.2,y8,y9,0,M.q5),z11)))) (jn (α:=Bool×vR×tY×jR×Int×Int×Int×Int×Int) (bf M.1 7 (aE ((decide ((M.1:Int)=7)),x1.q3,Z,M,x.2.2,y8,y9,0,M.q5)) (aE ((decide ((M.1:Int)=9)),x1.q3,Z,M,x.2.2,y8,y9,0,M.q5))) λI=>(bcase I.1 (bA (.sl aM) I.p2.p2 I.p3.p3 λz13=>(bB (a_ (al (z13:List Int)) 8) (aE (I.2.1,I.p2,I.p3,I.q4,z13)))) (aE (I.2.1,I.p2,I.p3,I.q4,([]:List Int)))))) λY=>(jn (α:=vR×vR×(List Int)×List Int) (jn (α:=Bool×vR×tY×jR×vR×List Int) (bf Y.p2.1 8 (aE (ai,Y)) (bf Y.p2.1 9 (aE (ai,Y)) (aE ((decide ((Y.p2.1:Int)=26)),Y)))) λJ=>(bcase J.1 (bA (.sl aM) J.p2.p2 J.p3.p2 λz16=>(bB (a_ (al (z16:List Int)) 8) (aE (J.2.1,J.p4,J.q5,z16)))) (aE (J.2.1,J.p4,J.q5,([]:List Int))))) λU=>(af ((U.2.1.1,U.2.1.2.1,U.2.1.p2,U.2.1.p3,U.2.1.q4,U.2.2),ai))))))) (af ((0,0,0,0,0,([]:List Int),([]:List Int)),aj)))))))))))
def mM (x:gP×gz×(List fw)×cf×cf×List (Int×Int×Int)):Option eK:=
 (obind (rx x) λJ=>(bB (c7 0 (aY x.p3)&&c7 (aY x.p3) (aY x.p3)&&a_ (aU (aY x.p3)) 8) (bB (c7 0 (aY x.p4)&&c7 (aY x.p4) (aY x.p4)&&a_ (aU (aY x.p4)) 8) (iter (σ:=Int×dz×Int×o9×(List Int)×(List Int)×List Int) (λx2=>(bx x2.1 (aY x2.2.1.1) (bA ky x2.2.1.1 x2.1 λI=>(bB (a_ (al x2.p4+al ([I.2.2.2.2])) 8) (cK ((cE x2.1),x2.2.1,x2.p2,x2.p3,(x2.p4++([I.2.2.2.2])),x2.q5)))) (aE x2.q3))) (0,x,0,J,([]:List Int),(aG (aU (aY x.p3)) (0:Int)),(aG (aU (aY x.p4)) (0:Int)))))))
def wu (x:dz×o9×(List Int)×(List Int)×List Int):Option (Bool):=
 (jn (α:=Bool) (obind (ry (x.1,x.2.1)) λI=>(bcase I (bf (aY x.p2) (aY x.1.1) (bf (aY x.p3) (aY x.1.p3) (aE (decide (((aY x.q4):Int)=(aY x.1.p4)))) (aE aj)) (aE aj)) (aE aj))) λx1=>(af x1))
def CS (x:Int×Int):Option (Bool):=
 (jn (α:=Bool) (iH 0 x.1 (aE (fQ x.1 x.2)) (aE aj)) λx1=>(af x1))
def nG (x:(List Int)×Int):Option (Bool):=
 (iter (σ:=Int) (λx1=>(bx x1 (aY x.1) (jn (α:=Bool) (bA aM x.1 x1 λU=>(bx U 1 (aE ai) (bA aM x.1 x1 λM=>(iH x.2 M (aE ai) (bx 0 x1 (bA aM x.1 x1 λJ=>(bA aM x.1 (bc .i64 (x1-1)) λI=>(aE (c7 J I)))) (aE aj)))))) λx2=>(bcase x2 (aE aj) (cK (cE x1)))) (aE ai))) 0)
def uf (x:eK×Int×Int×Int×Int×Int×(List Int)×List Int):Option (Bool):=
 (bf x.p2 3 (bA aM x.1.2.1 x.p3 λU=>(af (decide ((x.p4:Int)=U)))) (bf x.p2 23 (bA aM x.1.p2 x.p3 λM=>(af (decide ((x.p4:Int)=M)))) (bf x.p2 5 (jn (α:=Bool) (bf x.p4 0 (aE ai) (aE (decide ((x.p4:Int)=1)))) λx3=>(af x3)) (jn (α:=Bool×eK×Int×Int×Int×Int×Int×(List Int)×List Int) (bf x.p2 4 (aE ((decide ((x.p2:Int)=4)),x)) (aE ((decide ((x.p2:Int)=22)),x))) λI=>(bcase I.1 (af ai) (bf x.p2 18 (obind (nJ (I.2.1.1,I.p4)) λJ=>(bf (aY J) 0 (af (decide ((I.p5:Int)=(-1)))) (jn (α:=Bool) (iH 0 I.p5 (bx I.p5 (aY I.2.1.1.q3) (obind (qp (J,I.p5)) λZ=>(aE Z)) (aE aj)) (aE aj)) λx6=>(af x6)))) (bf x.p2 19 (obind (nJ (I.2.1.1,I.p4)) λY=>(af (decide ((I.p5:Int)=(aY Y))))) (af (decide ((I.p5:Int)=0))))))))))
def ru (x:dz×eK×Int×Int×Int×Int×Int×(List Int)×List Int):Option (eK×Bool):=
 (jn (α:=Bool×dz×eK×gj×Int) (obind (wu (x.1,x.2.1)) λy2=>(bcase (!y2) (aE (ai,x.1,x.2.1,x.2.2,0)) (obind (CS (x.p2,(aY x.1.p4))) λy3=>(bcase (!y3) (aE (ai,x.1,x.2.1,x.2.2,0)) (bx x.p3 1 (aE (ai,x.1,x.2.1,x.2.2,0)) (bx 23 x.p3 (aE (ai,x.1,x.2.1,x.2.2,0)) (obind (j9 (x.1,x.2.1.1,x.p2,x.p3,x.p4)) λy4=>(aE ((!y4),x.1,x.2.1,x.2.2,0))))))))) λx1=>(bcase x1.1 (af (((([]:List (Int×List Int)),0,([]:List Bool),([]:List dy)),([]:List Int),([]:List Int),([]:List Int)),aj)) (jn (α:=dz×eK×gj×Int) (jn (α:=Bool×dz×eK×gj×Int) (bf x1.p3.2.1 1 (aE (ai,x1.2)) (aE ((decide ((x1.p3.2.1:Int)=2)),x1.2))) λx6=>(bcase x6.1 (je x6.p3.p4 (-1) (cK (((([]:List (Int×List Int)),0,([]:List Bool),([]:List dy)),([]:List Int),([]:List Int),([]:List Int)),aj)) (aE x6.2)) (jn (α:=Bool×dz×eK×gj×Int) (obind (CS (x6.p3.p4,(aY x6.2.1.q5))) λy8=>(bcase (!y8) (aE (ai,x6.2)) (bA oy x6.2.1.q5 x6.p3.p4 λz9=>(aE ((!decide ((z9.1:Int)=x6.p3.1)),x6.2))))) λx7=>(bcase x7.1 (cK (((([]:List (Int×List Int)),0,([]:List Bool),([]:List dy)),([]:List Int),([]:List Int),([]:List Int)),aj)) (aE x7.2))))) λx5=>(jn (α:=Bool×dz×eK×gj×Int) (bf x5.p2.2.1 3 (aE (ai,x5)) (aE ((decide ((x5.p2.2.1:Int)=4)),x5))) λZ=>(jn (α:=Bool×dz×eK×gj×Int) (bx 0 (aY Z.p3.p5) (je Z.p3.2.1 5 (bcase Z.1 (bA ky Z.2.1.1 Z.p3.p2 λz12=>(aE ((!(!decide ((z12.2.2.1:Int)=0))),Z.2))) (aE (ai,Z.2))) (aE (aj,Z.2))) (aE (aj,Z.2))) λx11=>(bcase x11.1 (af (((([]:List (Int×List Int)),0,([]:List Bool),([]:List dy)),([]:List Int),([]:List Int),([]:List Int)),aj)) (jn (α:=Bool×dz×eK×gj×Int) (bx 0 (aY x11.p3.q6) (je x11.p3.2.1 4 (aE ((!decide ((x11.p3.2.1:Int)=22)),x11.2)) (aE (aj,x11.2))) (aE (aj,x11.2))) λU=>(bcase U.1 (af (((([]:List (Int×List Int)),0,([]:List Bool),([]:List dy)),([]:List Int),([]:List Int),([]:List Int)),aj)) (jn (α:=Bool×dz×eK×gj×Int) (bA aM U.p2.q3 U.p3.1 λz15=>(obind (nG (U.p3.p5,z15)) λy16=>(bcase (!y16) (aE (ai,U.2)) (bA aM U.p2.q3 U.p3.1 λz17=>(obind (nG (U.p3.q6,z17)) λy18=>(bcase (!y18) (aE (ai,U.2)) (obind (uf (U.p2,U.p3)) λy19=>(aE ((!y19),U.2))))))))) λI=>(bcase I.1 (af (((([]:List (Int×List Int)),0,([]:List Bool),([]:List dy)),([]:List Int),([]:List Int),([]:List Int)),aj)) (bB (a_ (al ([]:List Int)+al I.p2.2.1) 8) (bB (a_ (al ([]:List Int)+al I.p2.p2) 8) (bB (a_ (al ([]:List Int)+al I.p2.q3) 8) (jn (α:=Int×dz×eK×gj×Int×Int×(List Int)×(List Int)×List Int) (bf I.p3.2.1 18 (aE (I.p3.p3,I.2.1,I.p2,I.p3,I.q4,0,(([]:List Int)++I.p2.2.1),(([]:List Int)++I.p2.p2),(([]:List Int)++I.p2.q3))) (aE ((-1),I.2.1,I.p2,I.p3,I.q4,0,(([]:List Int)++I.p2.2.1),(([]:List Int)++I.p2.p2),(([]:List Int)++I.p2.q3)))) λJ=>(obind (pi (J.2.1,J.p2.1,J.p3.1,J.p3.2.1,J.p3.p2,J.1)) λy21=>(jn (α:=gj×Int×o9×(List Int)×(List Int)×List Int) (bf J.p3.2.1 4 (ck (fe J.p3.p2 (al J.p6)) (aE (J.p3,J.p4,y21.1,(cQ J.p6 J.p3.p2 J.p3.p3),J.q7))) (aE (J.p3,J.p4,y21.1,J.q6))) λM=>(jn (α:=gj×Int×o9×(List Int)×(List Int)×List Int) (bf M.1.2.1 22 (ck (fe M.1.p2 (al M.p4)) (aE (M.1,M.2.1,M.p2,M.p3,(cQ M.p4 M.1.p2 M.1.p3),M.q5))) (aE M)) λY=>(kB aM Y.q5 Y.1.1 λz24=>(ck (fe Y.1.1 (al Y.q5)) (af ((Y.p2,Y.p3,Y.p4,(cQ Y.q5 Y.1.1 (cE z24))),ai)))))))))))))))))))))
def rq (x:(List gj)×Int×Int×List Int):Option (Bool):=
 (iter (σ:=Int) (λx1=>(bx x1 (aY x.q3) (iter (σ:=Int×Bool×Int) (λx2=>(bx x2.2.2 x.2.1 (jn (α:=Int×Bool) (bA fX x.1 x2.2.2 λY=>(je Y.1 x.p2 (aE (x2.1,x2.2.1)) (jn (α:=Bool) (bcase x2.2.1 (aE ai) (bA aM x.q3 x1 λU=>(bf x2.1 U (bA fX x.1 x2.2.2 λM=>(bf M.2.1 3 (aE ai) (bA fX x.1 x2.2.2 λJ=>(aE (decide ((J.2.1:Int)=23)))))) (aE aj)))) λZ=>(aE ((cE x2.1),Z))))) λI=>(cK (I.1,I.2,(cE x2.2.2)))) (obind (bcase (!x2.2.1) (aE aj) (cK (cE x1))) λr=>af (bP r)))) (0,aj,0)) (aE ai))) 0)
def ug (x:dz×List gj):Option (Int×Int):=
 (bx 400 (aY x.2) (af (0,2)) (obind (hZ x.1) λy1=>(bcase (!y1) (af (0,1)) (obind (mM x.1) λy2=>(iter (σ:=Int×(dz×List gj)×o9×(List Int)×(List Int)×List Int) (λI=>(bx I.1 (aY I.2.1.2) (bA fX I.2.1.2 I.1 λJ=>(obind (ru (I.2.1.1,I.2.2,J)) λM=>(jn (α:=Bool×(dz×List gj)×eK×o9×(List Int)×(List Int)×List Int) (bcase (!M.2) (aE (ai,I.2.1,I.2.2,M.1)) (obind (rq (I.2.1.2,I.1,J.1,J.p5)) λZ=>(bcase (!Z) (aE (ai,I.2.1,I.2.2,M.1)) (obind (rq (I.2.1.2,I.1,J.1,J.q6)) λY=>(aE ((!Y),I.2.1,I.2.2,M.1)))))) λU=>(bcase U.1 (aE (I.1,12)) (cK ((cE I.1),U.2.1,U.q3)))))) (aE (0,0)))) (0,x,y2))))))
def KG {Z W V:Type} (i:Int) (t1:Z->(List Int)->(List (List Int))->W) (t2:W->V) (t3:V->tY->List tY) (x6:Int) (I:zW×o9×(Int×Int)×Int×vR×gj×(Int×Int)×(List Int)×(List Int)×Z×(List Int)×List (List Int)):Option D3:=
 (jn (α:=o9×(Int×Int)×Int×vR×gj×tY×(List Int)×(List Int)×V) (jn (α:=Bool×zW×o9×(Int×Int)×Int×vR×gj×tY×(List Int)×(List Int)×W) (je I.p5.2.1 16 (aE ((!decide ((I.p5.2.1:Int)=2)),I.1,I.2.1,I.p2,I.p3,I.p4,I.p5,(x6,I.p10,I.q11,(cE I.p6.2)),I.p7,I.p8,(t1 I.p9 I.p10 I.q11))) (aE (aj,I.1,I.2.1,I.p2,I.p3,I.p4,I.p5,(x6,I.p10,I.q11,(cE I.p6.2)),I.p7,I.p8,(t1 I.p9 I.p10 I.q11)))) λJ=>(bcase J.1 (bA xd J.2.1.2 J.p3.1 λU=>(obind (mZ (U,J.p7)) λY=>(aE (J.p2,J.p3,J.p4,J.p5,J.p6,Y.1,J.p8,J.p9,(t2 J.q10))))) (aE (J.p2,J.p3,J.p4,J.p5,J.p6,J.p7,J.p8,J.p9,(t2 J.q10))))) λM=>(bf M.2.1.1 i (af ((M.1,M.p6,M.p7,(t3 M.q8 M.p5)),M.p4,ai)) ah))
def SG {Z:Type} (i:Int) (cp:(o9×(List Int)×(List Int)×List tY)->Option (Int×gG×(List Bool)×(List dy)×(List Int)×(List Int)×Z×(List Int)×List (List Int))) (Y ev:Z->Int) (k:Int->(zW×o9×(Int×Int)×Int×vR×gj×(Int×Int)×(List Int)×(List Int)×Z×(List Int)×List (List Int))->Option D3) (x:zW×xc×Int×Int):Option D3:=
 (obind (nI (x.1,x.2.1,x.p2)) λM=>(bcase (!M.2) (af (((([]:List (Int×List Int)),0,([]:List Bool),([]:List dy)),([]:List Int),([]:List Int),([]:List tY)),(0,0,0,0,0,([]:List Int),([]:List Int)),aj)) (obind (pi (x.1.1,x.2.1.1,x.p2,M.1.2.1,M.1.p2,x.q3)) λy2=>(bcase (!y2.2.2) (af (((([]:List (Int×List Int)),0,([]:List Bool),([]:List dy)),([]:List Int),([]:List Int),([]:List tY)),(0,0,0,0,0,([]:List Int),([]:List Int)),aj)) (obind (cp x.2.1) λU=>(bf x.p2 i (bA xd x.1.2 i λz4=>(bA qW z4.2 (Y U.p6) λz5=>(jn (α:=Int×zW×o9×(Int×Int)×Int×vR×gj×(Int×Int)×jR×(List Int)×(List Int)×Z×(List Int)×List (List Int)) (jn (α:=Bool×zW×o9×(Int×Int)×Int×vR×gj×(Int×Int)×jR×(List Int)×(List Int)×Z×(List Int)×List (List Int)) (bf M.1.2.1 1 (aE ((decide ((M.1.2.1:Int)=1)),x.1,y2.1,(i,x.q3),0,(0,0,0,0,0),(M.1.1,M.1.2.1,M.1.p2,y2.2.1,M.1.q4),((Y U.p6),(ev U.p6)),z5,U.q4)) (bf M.1.2.1 16 (aE ((decide ((M.1.2.1:Int)=16)),x.1,y2.1,(i,x.q3),0,(0,0,0,0,0),(M.1.1,M.1.2.1,M.1.p2,y2.2.1,M.1.q4),((Y U.p6),(ev U.p6)),z5,U.q4)) (aE ((decide ((M.1.2.1:Int)=2)),x.1,y2.1,(i,x.q3),0,(0,0,0,0,0),(M.1.1,M.1.2.1,M.1.p2,y2.2.1,M.1.q4),((Y U.p6),(ev U.p6)),z5,U.q4)))) λI=>(bcase I.1 (aE (I.p7.1,I.2)) (bf M.1.2.1 3 (kB aM I.p9 I.p6.p2 λz8=>(aE ((bc .i64 ((Y U.p6)+1)),I.2.1,I.p2,I.p3,I.p4,I.p5,(I.p6.1,I.p6.2.1,I.p6.p2,z8,I.p6.q4),I.q7))) (bf M.1.2.1 23 (kB aM I.p10 I.p6.p2 λz9=>(aE ((bc .i64 ((Y U.p6)+1)),I.2.1,I.p2,I.p3,I.p4,I.p5,(I.p6.1,I.p6.2.1,I.p6.p2,z9,I.p6.q4),I.q7))) (bf M.1.2.1 4 (kB aM I.p12 I.p8.p2 λz10=>(ck (fe I.p6.p2 (al I.p9)) (aE ((bc .i64 ((Y U.p6)+1)),I.2.1,I.p2,I.p3,I.p4,I.p5,(I.p6.1,I.p6.2.1,I.p6.p2,z10,I.p6.q4),I.p7,I.p8,(cQ I.p9 I.p6.p2 z10),I.q10)))) (bf M.1.2.1 22 (kB aM I.p12 I.p8.p2 λz11=>(ck (fe I.p6.p2 (al I.p10)) (aE ((bc .i64 ((Y U.p6)+1)),I.2.1,I.p2,I.p3,I.p4,I.p5,(I.p6.1,I.p6.2.1,I.p6.p2,z11,I.p6.q4),I.p7,I.p8,I.p9,(cQ I.p10 I.p6.p2 z11),I.q11)))) (bf M.1.2.1 5 (kB aM I.p12 I.p8.2.1 λz12=>(bf z12 0 (aE (I.p8.p2,I.2.1,I.p2,I.p3,I.p4,I.p5,(I.p6.1,I.p6.2.1,I.p6.p2,0,I.p6.q4),I.q7)) (aE ((bc .i64 ((Y U.p6)+1)),I.2.1,I.p2,I.p3,I.p4,I.p5,(I.p6.1,I.p6.2.1,I.p6.p2,1,I.p6.q4),I.q7)))) (aE ((bc .i64 ((Y U.p6)+1)),I.2))))))))) λx6=>(jn (α:=zW×o9×(Int×Int)×Int×vR×gj×(Int×Int)×(List Int)×(List Int)×Z×(List Int)×List (List Int)) (jn (α:=Bool×zW×o9×(Int×Int)×Int×vR×gj×(Int×Int)×jR×(List Int)×(List Int)×Z×(List Int)×List (List Int)) (bf x6.p6.2.1 3 (aE (ai,x6.2)) (aE ((decide ((x6.p6.2.1:Int)=23)),x6.2))) λJ=>(bcase J.1 (ck (fe J.p8.2.1 (al J.p12)) (ck (fe J.p8.2.1 (al J.q13)) (aE (J.2.1,J.p2,J.p3,J.p4,J.p5,J.p6,J.p7,J.p9,J.p10,J.p11,(cQ J.p12 J.p8.2.1 J.p6.p3),(cQ J.q13 J.p8.2.1 ([J.p7.2])))))) (aE (J.2.1,J.p2,J.p3,J.p4,J.p5,J.p6,J.p7,J.q9)))) λx13=>(k x6.1 x13))))) ah))))))
def mY (x:o9×(List Int)×(List Int)×List tY):Option (Int×gG×(List Bool)×(List dy)×(List Int)×(List Int)×(Int×Int)×(List Int)×List (List Int)):=
 (obind (il x.1) λI=>(bB (a_ (al ([]:List Int)+al x.2.1) 8) (bB (a_ (al ([]:List Int)+al x.p2) 8) (bx 0 (aY x.q3) (bA eX x.q3 0 λM=>(obind (cj M) λU=>(bx 1 (aY x.q3) (bA eX x.q3 1 λJ=>(obind (cj J) λY=>ah)) (af (I.1,I.2.1,I.p2,I.q3,(([]:List Int)++x.2.1),(([]:List Int)++x.p2),U))))) ah))))
def gg (x:zW×xc×Int×Int):Option D3:=
 SG 0 mY (λz=>z.1) (λz=>z.2) (KG 0 (λz R T=>(z.1,R,T,z.2)) (λw=>((w.1,w.2.1,w.2.2.1,w.2.2.2))) (λv t=>[t])) x
def mX (x:o9×(List Int)×(List Int)×List tY):Option (Int×gG×(List Bool)×(List dy)×(List Int)×(List Int)×Ya29×(List Int)×List (List Int)):=
 (obind (il x.1) λJ=>(bB (a_ (al ([]:List Int)+al x.2.1) 8) (bB (a_ (al ([]:List Int)+al x.p2) 8) (bx 0 (aY x.q3) (bA eX x.q3 0 λZ=>(obind (cj Z) λM=>(bx 1 (aY x.q3) (bA eX x.q3 1 λY=>(obind (cj Y) λI=>(bx 2 (aY x.q3) (bA eX x.q3 2 λU=>(obind (cj U) λy7=>ah)) (af (J.1,J.2.1,J.p2,J.q3,(([]:List Int)++x.2.1),(([]:List Int)++x.p2),(M.1.1,M.1.2,I.1.1,I.2.1,I.2.2,I.1.2),M.2))))) ah))) ah))))
def gD (x:zW×xc×Int×Int):Option D3:=
 SG 0 mX (λz=>z.1) (λz=>z.2.1) (KG 0 (λz R T=>(z.1,R,T,z.2.1,z.2.2)) (λw=>((w.1,w.2.1,w.2.2.1,w.2.2.2.1),w.2.2.2.2)) (λv t=>[t,v.2])) x
def mW (x:o9×(List Int)×(List Int)×List tY):Option (Int×gG×(List Bool)×(List dy)×(List Int)×(List Int)×(tY×Int×Int)×(List Int)×List (List Int)):=
 (obind (il x.1) λJ=>(bB (a_ (al ([]:List Int)+al x.2.1) 8) (bB (a_ (al ([]:List Int)+al x.p2) 8) (bx 0 (aY x.q3) (bA eX x.q3 0 λZ=>(obind (cj Z) λI=>(bx 1 (aY x.q3) (bA eX x.q3 1 λY=>(obind (cj Y) λM=>(bx 2 (aY x.q3) (bA eX x.q3 2 λU=>(obind (cj U) λy7=>ah)) (af (J.1,J.2.1,J.p2,J.q3,(([]:List Int)++x.2.1),(([]:List Int)++x.p2),((I.1.1,I.2.1,I.2.2,I.1.2),M.1),M.2))))) ah))) ah))))
def gf (x:zW×xc×Int×Int):Option D3:=
 SG 1 mW (λz=>z.2.1) (λz=>z.2.2) (KG 1 (λz R T=>(z.1,z.2.1,R,T,z.2.2)) (λw=>(w.1,(w.2.1,w.2.2.1,w.2.2.2.1,w.2.2.2.2))) (λv t=>[v.1,t])) x
def mV (x:o9×(List Int)×(List Int)×List tY):Option (Int×gG×(List Bool)×(List dy)×(List Int)×(List Int)×Ya27×(List Int)×List (List Int)):=
 (obind (il x.1) λM=>(bB (a_ (al ([]:List Int)+al x.2.1) 8) (bB (a_ (al ([]:List Int)+al x.p2) 8) (bx 0 (aY x.q3) (bA eX x.q3 0 λz2=>(obind (cj z2) λU=>(bx 1 (aY x.q3) (bA eX x.q3 1 λz4=>(obind (cj z4) λJ=>(bx 2 (aY x.q3) (bA eX x.q3 2 λZ=>(obind (cj Z) λI=>(bx 3 (aY x.q3) (bA eX x.q3 3 λY=>(obind (cj Y) λy9=>ah)) (af (M.1,M.2.1,M.p2,M.q3,(([]:List Int)++x.2.1),(([]:List Int)++x.p2),(U.1.1,U.1.2,(J.1.1,J.2.1,J.2.2,J.1.2),I.1.1,I.2.1,I.2.2,I.1.2),U.2))))) ah))) ah))) ah))))
def js (x:zW×xc×Int×Int):Option D3:=
 SG 0 mV (λz=>z.1) (λz=>z.2.1) (KG 0 (λz R T=>(z.1,R,T,z.2.1,z.p2,z.q3)) (λw=>((w.1,w.2.1,w.2.2.1,w.2.2.2.1),w.2.2.2.2.1,w.2.2.2.2.2)) (λv t=>[t,v.2.1,v.2.2])) x
def mU (x:o9×(List Int)×(List Int)×List tY):Option (Int×gG×(List Bool)×(List dy)×(List Int)×(List Int)×Ya28×(List Int)×List (List Int)):=
 (obind (il x.1) λM=>(bB (a_ (al ([]:List Int)+al x.2.1) 8) (bB (a_ (al ([]:List Int)+al x.p2) 8) (bx 0 (aY x.q3) (bA eX x.q3 0 λz2=>(obind (cj z2) λJ=>(bx 1 (aY x.q3) (bA eX x.q3 1 λz4=>(obind (cj z4) λU=>(bx 2 (aY x.q3) (bA eX x.q3 2 λZ=>(obind (cj Z) λI=>(bx 3 (aY x.q3) (bA eX x.q3 3 λY=>(obind (cj Y) λy9=>ah)) (af (M.1,M.2.1,M.p2,M.q3,(([]:List Int)++x.2.1),(([]:List Int)++x.p2),((J.1.1,J.2.1,J.2.2,J.1.2),U.1.1,U.1.2,I.1.1,I.2.1,I.2.2,I.1.2),U.2))))) ah))) ah))) ah))))
def iI (x:zW×xc×Int×Int):Option D3:=
 SG 1 mU (λz=>z.2.1) (λz=>z.p2) (KG 1 (λz R T=>(z.1,z.2.1,R,T,z.p2,z.q3)) (λw=>(w.1,(w.2.1,w.2.2.1,w.2.2.2.1,w.2.2.2.2.1),w.2.2.2.2.2)) (λv t=>[v.1,t,v.2.2])) x
def mT (x:o9×(List Int)×(List Int)×List tY):Option (Int×gG×(List Bool)×(List dy)×(List Int)×(List Int)×(tY×tY×Int×Int)×(List Int)×List (List Int)):=
 (obind (il x.1) λM=>(bB (a_ (al ([]:List Int)+al x.2.1) 8) (bB (a_ (al ([]:List Int)+al x.p2) 8) (bx 0 (aY x.q3) (bA eX x.q3 0 λz2=>(obind (cj z2) λJ=>(bx 1 (aY x.q3) (bA eX x.q3 1 λz4=>(obind (cj z4) λI=>(bx 2 (aY x.q3) (bA eX x.q3 2 λZ=>(obind (cj Z) λU=>(bx 3 (aY x.q3) (bA eX x.q3 3 λY=>(obind (cj Y) λy9=>ah)) (af (M.1,M.2.1,M.p2,M.q3,(([]:List Int)++x.2.1),(([]:List Int)++x.p2),((J.1.1,J.2.1,J.2.2,J.1.2),(I.1.1,I.2.1,I.2.2,I.1.2),U.1),U.2))))) ah))) ah))) ah))))
def hY (x:zW×xc×Int×Int):Option D3:=
 SG 2 mT (λz=>z.p2) (λz=>z.q3) (KG 2 (λz R T=>(z.1,z.2.1,z.p2,R,T,z.q3)) (λw=>(w.1,w.2.1,(w.2.2.1,w.2.2.2.1,w.2.2.2.2.1,w.2.2.2.2.2))) (λv t=>[v.1,v.2.1,t])) x
def mS (x:o9×(List Int)×(List Int)×List tY):Option (Int×gG×(List Bool)×(List dy)×(List Int)×(List Int)×Ya23×(List Int)×List (List Int)):=
 (obind (il x.1) λU=>(bB (a_ (al ([]:List Int)+al x.2.1) 8) (bB (a_ (al ([]:List Int)+al x.p2) 8) (bx 0 (aY x.q3) (bA eX x.q3 0 λz2=>(obind (cj z2) λZ=>(bx 1 (aY x.q3) (bA eX x.q3 1 λz4=>(obind (cj z4) λM=>(bx 2 (aY x.q3) (bA eX x.q3 2 λz6=>(obind (cj z6) λJ=>(bx 3 (aY x.q3) (bA eX x.q3 3 λz8=>(obind (cj z8) λI=>(bx 4 (aY x.q3) (bA eX x.q3 4 λY=>(obind (cj Y) λy11=>ah)) (af (U.1,U.2.1,U.p2,U.q3,(([]:List Int)++x.2.1),(([]:List Int)++x.p2),(Z.1.1,Z.1.2,(M.1.1,M.2.1,M.2.2,M.1.2),(J.1.1,J.2.1,J.2.2,J.1.2),I.1.1,I.2.1,I.2.2,I.1.2),Z.2))))) ah))) ah))) ah))) ah))))
def mO (x:zW×xc×Int×Int):Option D3:=
 SG 0 mS (λz=>z.1) (λz=>z.2.1) (KG 0 (λz R T=>(z.1,R,T,z.2.1,z.p2,z.p3,z.q4)) (λw=>((w.1,w.2.1,w.2.2.1,w.2.2.2.1),w.2.2.2.2.1,w.2.2.2.2.2.1,w.2.2.2.2.2.2)) (λv t=>[t,v.2.1,v.2.2.1,v.2.2.2])) x
def mR (x:o9×(List Int)×(List Int)×List tY):Option (Int×gG×(List Bool)×(List dy)×(List Int)×(List Int)×Ya24×(List Int)×List (List Int)):=
 (obind (il x.1) λU=>(bB (a_ (al ([]:List Int)+al x.2.1) 8) (bB (a_ (al ([]:List Int)+al x.p2) 8) (bx 0 (aY x.q3) (bA eX x.q3 0 λz2=>(obind (cj z2) λM=>(bx 1 (aY x.q3) (bA eX x.q3 1 λz4=>(obind (cj z4) λZ=>(bx 2 (aY x.q3) (bA eX x.q3 2 λz6=>(obind (cj z6) λJ=>(bx 3 (aY x.q3) (bA eX x.q3 3 λz8=>(obind (cj z8) λI=>(bx 4 (aY x.q3) (bA eX x.q3 4 λY=>(obind (cj Y) λy11=>ah)) (af (U.1,U.2.1,U.p2,U.q3,(([]:List Int)++x.2.1),(([]:List Int)++x.p2),((M.1.1,M.2.1,M.2.2,M.1.2),Z.1.1,Z.1.2,(J.1.1,J.2.1,J.2.2,J.1.2),I.1.1,I.2.1,I.2.2,I.1.2),Z.2))))) ah))) ah))) ah))) ah))))
def mN (x:zW×xc×Int×Int):Option D3:=
 SG 1 mR (λz=>z.2.1) (λz=>z.p2) (KG 1 (λz R T=>(z.1,z.2.1,R,T,z.p2,z.p3,z.q4)) (λw=>(w.1,(w.2.1,w.2.2.1,w.2.2.2.1,w.2.2.2.2.1),w.2.2.2.2.2.1,w.2.2.2.2.2.2)) (λv t=>[v.1,t,v.2.2.1,v.2.2.2])) x
def mQ (x:o9×(List Int)×(List Int)×List tY):Option (Int×gG×(List Bool)×(List dy)×(List Int)×(List Int)×Ya25×(List Int)×List (List Int)):=
 (obind (il x.1) λU=>(bB (a_ (al ([]:List Int)+al x.2.1) 8) (bB (a_ (al ([]:List Int)+al x.p2) 8) (bx 0 (aY x.q3) (bA eX x.q3 0 λz2=>(obind (cj z2) λM=>(bx 1 (aY x.q3) (bA eX x.q3 1 λz4=>(obind (cj z4) λJ=>(bx 2 (aY x.q3) (bA eX x.q3 2 λz6=>(obind (cj z6) λZ=>(bx 3 (aY x.q3) (bA eX x.q3 3 λz8=>(obind (cj z8) λI=>(bx 4 (aY x.q3) (bA eX x.q3 4 λY=>(obind (cj Y) λy11=>ah)) (af (U.1,U.2.1,U.p2,U.q3,(([]:List Int)++x.2.1),(([]:List Int)++x.p2),((M.1.1,M.2.1,M.2.2,M.1.2),(J.1.1,J.2.1,J.2.2,J.1.2),Z.1.1,Z.1.2,I.1.1,I.2.1,I.2.2,I.1.2),Z.2))))) ah))) ah))) ah))) ah))))
def lw (x:zW×xc×Int×Int):Option D3:=
 SG 2 mQ (λz=>z.p2) (λz=>z.p3) (KG 2 (λz R T=>(z.1,z.2.1,z.p2,R,T,z.p3,z.q4)) (λw=>(w.1,w.2.1,(w.2.2.1,w.2.2.2.1,w.2.2.2.2.1,w.2.2.2.2.2.1),w.2.2.2.2.2.2)) (λv t=>[v.1,v.2.1,t,v.2.2.2])) x
def mP (x:o9×(List Int)×(List Int)×List tY):Option (Int×gG×(List Bool)×(List dy)×(List Int)×(List Int)×Ya42×(List Int)×List (List Int)):=
 (obind (il x.1) λU=>(bB (a_ (al ([]:List Int)+al x.2.1) 8) (bB (a_ (al ([]:List Int)+al x.p2) 8) (bx 0 (aY x.q3) (bA eX x.q3 0 λz2=>(obind (cj z2) λM=>(bx 1 (aY x.q3) (bA eX x.q3 1 λz4=>(obind (cj z4) λJ=>(bx 2 (aY x.q3) (bA eX x.q3 2 λz6=>(obind (cj z6) λI=>(bx 3 (aY x.q3) (bA eX x.q3 3 λz8=>(obind (cj z8) λZ=>(bx 4 (aY x.q3) (bA eX x.q3 4 λY=>(obind (cj Y) λy11=>ah)) (af (U.1,U.2.1,U.p2,U.q3,(([]:List Int)++x.2.1),(([]:List Int)++x.p2),((M.1.1,M.2.1,M.2.2,M.1.2),(J.1.1,J.2.1,J.2.2,J.1.2),(I.1.1,I.2.1,I.2.2,I.1.2),Z.1),Z.2))))) ah))) ah))) ah))) ah))))
def j8 (x:zW×xc×Int×Int):Option D3:=
 SG 3 mP (λz=>z.p3) (λz=>z.q4) (KG 3 (λz R T=>(z.1,z.2.1,z.p2,z.p3,R,T,z.q4)) (λw=>(w.1,w.2.1,w.2.2.1,(w.2.2.2.1,w.2.2.2.2.1,w.2.2.2.2.2.1,w.2.2.2.2.2.2))) (λv t=>[v.1,v.2.1,v.2.2.1,t])) x
def Ah (x:zW×xc×Int×Int):Option D3:=orE (mO x) (orE (mN x) (orE (lw x) (orE (j8 x) (orE (js x) (orE (iI x) (orE (hY x) (orE (gD x) (orE (gf x) (gg x)))))))))
def ww (x:zW×xc×List (Int×Int)):Option ((List gj)×o9×(List Int)×(List Int)×List tY):=
 (iter (σ:=Int×(List gj)×zW×xc×Int) (λx1=>(jn (α:=Bool×(List gj)×zW×xc×Int) (bx x1.1 (aY x.2.2) (aE ((fQ (aY x1.2.1) 400),x1.2)) (aE (aj,x1.2))) λx2=>(bcase x2.1 (jn (α:=(List gj)×zW×xc×Int) (bA iv x.2.2 x1.1 λJ=>(obind (Ah (x2.p2,x2.p3,J)) λI=>(bcase I.2.2 (bB (a_ (al x2.2.1+al ([I.2.1])) 88) (aE ((x2.2.1++([I.2.1])),x2.p2,I.1,x2.q4))) (aE x2.2)))) λM=>(cK ((cE x1.1),M))) (aE (x2.2.1,x2.p3))))) (0,([]:List gj),x.1,x.2.1,0))
def y_ (x:zW×List (Int×Int)):Option ((dz×List gj)×o9×(List Int)×(List Int)×List tY):=
 (obind (jD x.1) λM=>(bcase (!M) (af (((([]:List S4),([]:List ((List UInt8)×Bool)),([]:List fw),([]:List (List UInt8)),([]:List (List UInt8)),([]:List (Int×Int×Int))),([]:List gj)),(([]:List (Int×List Int)),0,([]:List Bool),([]:List dy)),([]:List Int),([]:List Int),([]:List tY))) (obind (uh x.1) λJ=>(obind (ww (x.1,J,x.2)) λI=>(af ((x.1.1,I.1),I.2))))))
def bz (x:Int×(List Int)×Int):Option (Int×(List Int)×Int):=
 (jn (α:=Bool×(List Int)×Int) (iH (aY x.2.1) x.2.2 (aE (ai,x.2)) (aE ((fQ x.1 1),x.2))) λx1=>(bcase x1.1 (af (0,x1.2)) (lt (cE x1.2.2) λJ=>(bA (.int .u8) x1.2.1 (bc .i64 (J-1)) λI=>(bB (!decide ((x.1:Int)=0)) (af ((me (bc .i64 I) x.1),x1.2.1,(cE x1.2.2))))))))
def rE (x:Int):Option (Xp):=
 (af (d_ (1,x,[],([]:List Xp))))
def po (x:List UInt8):Option (Xp):=
 (af (d_ (2,0,x,([]:List Xp))))
def nM (x:Int×Xp×Xp):Option (Xp):=
 (af (d_ (x.1,0,[],[d_ ((Xp.op x.2.1),(Xp.n x.2.1),(Xp.name x.2.1),(Xp.l x.2.1)),d_ ((Xp.op x.2.2),(Xp.n x.2.2),(Xp.name x.2.2),(Xp.l x.2.2))])))
def jq (x:(List UInt8)×Xp):Option (Sx):=
 (af (nN (1,0,x.1,[],([]:List Xp),d_ ((Xp.op x.2),(Xp.n x.2),(Xp.name x.2),(Xp.l x.2)),([]:List Sx),([]:List Sx))))
def sw (x:Unit):Option sg:=
 (af ([(1,0,[120],0,0,[]),(1,0,[121],0,1,[]),(2,0,[118],0,0,[]),(1,0,[113],2,0,[]),(3,0,[109],0,0,[]),(3,0,[110],0,0,[]),(4,0,[114],0,0,[]),(5,0,[99],0,0,[109]),(6,0,[102],0,0,[])]))
def oM (x:List Int):Option (List (Int×Int)):=
 (iter (σ:=Int×List (Int×Int)) (λx1=>(bx x1.1 (aY x) (bA (.int .u8) x x1.1 λJ=>(bA (.int .u8) x x1.1 λI=>(bB (a_ (al x1.2+al ([((me (bc .i64 J) 4),(bc .i64 ((me (bc .i64 (Int.tdiv (bc .i64 I) 4)) 5)-1)))])) 16) (cK ((cE x1.1),(x1.2++([((me (bc .i64 J) 4),(bc .i64 ((me (bc .i64 (Int.tdiv (bc .i64 I) 4)) 5)-1)))]))))))) (aE x1.2))) (0,([]:List (Int×Int))))
def nU (rmade_maker_expr:Zb->Option ag0) (x:Int×yQ×fG×Bool×List (List UInt8)):Option ag0:=
 (obind (bz (10,x.p2)) λY=>(jn (α:=Bool×yQ×fG×S5×(Int×Int×List UInt8)×List (List UInt8)) (bx Y.1 2 (aE (ai,x.2.1,Y.2,x.q3,(0,0,[]),[[97],[98],[120],[121],[118],[120],[121]])) (bf x.1 0 (aE ((c7 7 Y.1),x.2.1,Y.2,x.q3,(0,0,[]),[[97],[98],[120],[121],[118],[120],[121]])) (aE (aj,x.2.1,Y.2,x.q3,(0,0,[]),[[97],[98],[120],[121],[118],[120],[121]])))) λx2=>(bcase x2.1 (obind (bz (4,x2.p2)) λy3=>(obind (rE y3.1) λy4=>(af (d_ ((Xp.op y4),(Xp.n y4),(Xp.name y4),(Xp.l y4)),x2.2.1,y3.2,x2.p3)))) (bx Y.1 7 (obind (bz ((aY x2.q5),x2.p2)) λy5=>(kB (.str) x2.q5 y5.1 λz6=>(obind (po z6) λZ=>(af (d_ ((Xp.op Z),(Xp.n Z),(Xp.name Z),(Xp.l Z)),x2.2.1,y5.2,x2.p3))))) (bf Y.1 7 (obind (rmade_maker_expr (0,x2.2.1,x2.p2,x2.p3)) λU=>(bB (((x2.p3.1==U.p3)&&ai)&&aC (al x2.p3.2) (al U.q4)&&ai) (af (d_ (3,0,[113],[d_ ((Xp.op U.1),(Xp.n U.1),(Xp.name U.1),(Xp.l U.1))]),U.2)))) (obind (bz ((aO (al ([6,7,8,11,13,17]))),x2.p2)) λy9=>(kB aM ([6,7,8,11,13,17]) y9.1 λz10=>(obind (rmade_maker_expr ((bc .i64 (x.1-1)),x2.2.1,y9.2,x2.p3)) λI=>(bB (((x2.p3.1==I.p3)&&ai)&&aC (al x2.p3.2) (al I.q4)&&ai) (obind (rmade_maker_expr ((bc .i64 (x.1-1)),I.2)) λM=>(bB (((I.p3==M.p3)&&ai)&&aC (al I.q4) (al M.q4)&&ai) (obind (nM (z10,I.1,M.1)) λJ=>(af (d_ ((Xp.op J),(Xp.n J),(Xp.name J),(Xp.l J)),M.2))))))))))))))
def ip:Nat->Zb->Option ag0
 |0,_=>ah
 |n+1,x=>nU (ip n) x
theorem yM (n:Nat) (x:Int×yQ×fG×Bool×List (List UInt8)):ip (n+1) x=nU (ip n) x:=rfl
def fd (x:Int×yQ×fG×Bool×List (List UInt8)):Option ag0:=ip fuel x
def eQ (x:(List UInt8)×yQ×fG×Bool×List (List UInt8)):Option (Bool×yQ×fG×Bool×List (List UInt8)):=
 (obind (iY (x.q4,x.1)) λI=>(af ((c7 0 I),x.2)))
def mB (rmade_maker_stmts:ag2->Option Za) (rmade_maker_stmt:Zb->Option acp) (rmade_maker_block:ag1->Option acq) (x:(Int×Int)×yQ×fG×Bool×List (List UInt8)):Option Za:=
 (iter (σ:=Int×yQ×fG×(List Sx)×Bool×List (List UInt8)) (λx1=>(jn (α:=Bool×yQ×fG×(List Sx)×Bool×List (List UInt8)) (bx x1.1 x.1.2 (bf x1.1 0 (aE (ai,x1.2)) (aE ((fQ 0 x1.2.1.2.1),x1.2))) (aE (aj,x1.2))) λx2=>(bcase x2.1 (obind (rmade_maker_stmt (x.1.1,x2.2.1,x2.p2,x2.q4)) λI=>(bB (((x2.p4==x2.p4)&&ai)&&aC (al x2.q5) (al x2.q5)&&ai) (bB (a_ (al x2.p3+al ([eh I.1])) 176) (cK ((cE x1.1),I.2.1,I.p2,(x2.p3++([eh I.1])),I.q3))))) (aE (x2.2.1,x2.p2,x2.q4,x2.p3))))) (0,x.2.1,x.p2,([]:List Sx),x.q3))
def nS (rmade_maker_stmts:ag2->Option Za) (rmade_maker_stmt:Zb->Option acp) (rmade_maker_block:ag1->Option acq) (x:Int×yQ×fG×Bool×List (List UInt8)):Option acp:=
 (obind (bz (18,x.p2)) λy1=>(jn (α:=Bool×yQ×fG×Hr×Bool×List (List UInt8)) (bx 0 x.1 (lt (bc .i64 (x.2.1.2.1-1)) λz3=>(bx 0 z3 (aE ((!x.2.1.p3),(x.2.1.1,(bc .i64 (x.2.1.2.1-1)),x.2.1.2.2),y1.2,(0,0,[],[],0,0,[]),x.q3)) (aE (aj,(x.2.1.1,(bc .i64 (x.2.1.2.1-1)),x.2.1.2.2),y1.2,(0,0,[],[],0,0,[]),x.q3)))) (aE (aj,(x.2.1.1,(bc .i64 (x.2.1.2.1-1)),x.2.1.2.2),y1.2,(0,0,[],[],0,0,[]),x.q3))) λx2=>(bx y1.1 4 (kB (.str) ([[120],[121],[120],[118]]) y1.1 λz4=>(obind (fd (1,x2.2.1,x2.p2,x2.q4)) λy5=>(bB (((x2.p4==y5.p3)&&ai)&&aC (al x2.q5) (al y5.q4)&&ai) (obind (jq (z4,y5.1)) λy6=>(af (eh y6,y5.2)))))) (bf y1.1 4 (obind (bz (2,x2.p2)) λy7=>(kB (.str) ([[97],[98]]) y7.1 λz8=>(obind (fd (1,x2.2.1,y7.2,x2.q4)) λy9=>(bB (((x2.p4==y9.p3)&&ai)&&aC (al x2.q5) (al y9.q4)&&ai) (obind (jq (z8,y9.1)) λy10=>(af (eh y10,y9.2))))))) (bf y1.1 5 (obind (fd (0,x2.2.1,x2.p2,x2.q4)) λy11=>(bB (((x2.p4==y11.p3)&&ai)&&aC (al x2.q5) (al y11.q4)&&ai) (obind (fd (1,y11.2)) λy12=>(bB (((y11.p3==y12.p3)&&ai)&&aC (al y11.q4) (al y12.q4)&&ai) (af (nN (1,0,[113],[],[d_ ((Xp.op y11.1),(Xp.n y11.1),(Xp.name y11.1),(Xp.l y11.1))],d_ ((Xp.op y12.1),(Xp.n y12.1),(Xp.name y12.1),(Xp.l y12.1)),([]:List Sx),([]:List Sx)),y12.2)))))) (jn (α:=Bool×yQ×fG×Hr×Bool×List (List UInt8)) (bf y1.1 6 (aE ((fQ 0 x.1),x2.2)) (aE (aj,x2.2))) λx13=>(bcase x13.1 (obind (fd (1,x13.2.1,x13.p2,x13.q4)) λU=>(bB (((x13.p4==U.p3)&&ai)&&aC (al x13.q5) (al U.q4)&&ai) (obind (rmade_maker_stmts (((bc .i64 (x.1-1)),1),U.2)) λy15=>(bB (((U.p3==U.p3)&&ai)&&aC (al U.q4) (al U.q4)&&ai) (jn (α:=yQ×fG×Hr×(Int×Int×(List UInt8)×(List UInt8)×Int×Int×(List UInt8)×List Xp)×S5×(List Sx)×List Sx) (obind (bz (2,y15.2.1)) λy17=>(bf y17.1 1 (obind (rmade_maker_stmts (((bc .i64 (x.1-1)),1),y15.1,y17.2,y15.p2)) λy18=>(bB (((y15.p2.1==y15.p2.1)&&ai)&&aC (al y15.p2.2) (al y15.p2.2)&&ai) (aE (y18.1,y18.2.1,x13.p3,(2,0,[],[],(Xp.op U.1),(Xp.n U.1),(Xp.name U.1),(Xp.l U.1)),y18.p2,y15.q3,y18.q3)))) (aE (y15.1,y17.2,x13.p3,(2,0,[],[],(Xp.op U.1),(Xp.n U.1),(Xp.name U.1),(Xp.l U.1)),y15.p2,y15.q3,([]:List Sx))))) λx16=>(af (nN (x16.p3.1,x16.p3.2.1,x16.p3.p2,x16.p3.p3,([]:List Xp),d_ x16.p3.q4,x16.q5),x16.1,x16.2.1,x16.p4))))))) (jn (α:=Bool×yQ×fG×Hr×Bool×List (List UInt8)) (bf y1.1 7 (aE ((fQ 0 x.1),x13.2)) (aE (aj,x13.2))) λI=>(bcase I.1 (obind (po ([98])) λy20=>(obind (rE 2) λy21=>(obind (nM (13,y20,y21)) λy22=>(obind (rmade_maker_stmts (((bc .i64 (x.1-1)),1),(I.2.1.1,I.2.1.2.1,I.2.1.p2,I.2.1.p3,I.2.1.p4,ai),I.p2,I.q4)) λy23=>(bB (((I.p4==I.p4)&&ai)&&aC (al I.q5) (al I.q5)&&ai) (obind (po ([98])) λy24=>(obind (rE 1) λy25=>(obind (nM (6,y24,y25)) λy26=>(obind (jq ([98],y26)) λy27=>(bB (a_ (al y23.q3+al ([eh y27])) 176) (af (nN (3,0,[],[],([]:List Xp),d_ ((Xp.op y22),(Xp.n y22),(Xp.name y22),(Xp.l y22)),(y23.q3++([eh y27])),([]:List Sx)),(y23.1.1,y23.1.2.1,y23.1.p2,y23.1.p3,y23.1.p4,I.2.1.q5),y23.2.1,y23.p2)))))))))))) (jn (α:=Bool×yQ×fG×Hr×Bool×List (List UInt8)) (bf y1.1 8 (bcase x2.1 (kB (.str) ([[109],[110]]) (bc .i64 (y1.1-8)) λz29=>(obind (eQ (z29,I.2.1,I.p2,I.q4)) λy30=>(bB (((I.p4==y30.p3)&&ai)&&aC (al I.q5) (al y30.q4)&&ai) (aE ((!y30.1),y30.2.1,y30.p2,I.p3,y30.q3))))) (aE (aj,I.2))) (bf y1.1 9 (bcase x2.1 (kB (.str) ([[109],[110]]) (bc .i64 (y1.1-8)) λz31=>(obind (eQ (z31,I.2.1,I.p2,I.q4)) λy32=>(bB (((I.p4==y32.p3)&&ai)&&aC (al I.q5) (al y32.q4)&&ai) (aE ((!y32.1),y32.2.1,y32.p2,I.p3,y32.q3))))) (aE (aj,I.2))) (aE (aj,I.2)))) λJ=>(bcase J.1 (kB (.str) ([[109],[110]]) (bc .i64 (y1.1-8)) λz33=>(obind (rmade_maker_block ((z33,(bc .i64 (x.1-1))),J.2.1,J.p2,J.q4)) λy34=>(bB (((J.p4==J.p4)&&ai)&&aC (al J.q5) (al J.q5)&&ai) (af (nN (4,0,z33,[],([]:List Xp),d_ (0,0,[],([]:List Xp)),y34.1,([]:List Sx)),y34.2))))) (jn (α:=Bool×yQ×fG×Hr×Bool×List (List UInt8)) (bf y1.1 10 (bcase x2.1 (obind (eQ ([114],J.2.1,J.p2,J.q4)) λy36=>(bB (((J.p4==y36.p3)&&ai)&&aC (al J.q5) (al y36.q4)&&ai) (aE ((!y36.1),y36.2.1,y36.p2,J.p3,y36.q3)))) (aE (aj,J.2))) (bf y1.1 11 (bcase x2.1 (obind (eQ ([114],J.2.1,J.p2,J.q4)) λy37=>(bB (((J.p4==y37.p3)&&ai)&&aC (al J.q5) (al y37.q4)&&ai) (aE ((!y37.1),y37.2.1,y37.p2,J.p3,y37.q3)))) (aE (aj,J.2))) (aE (aj,J.2)))) λx35=>(bcase x35.1 (obind (rmade_maker_block (([114],(bc .i64 (x.1-1))),x35.2.1,x35.p2,x35.q4)) λy38=>(bB (((x35.p4==x35.p4)&&ai)&&aC (al x35.q5) (al x35.q5)&&ai) (af (nN ((bc .i64 ((bc .i64 (y1.1-10))+5)),0,[114],[],([]:List Xp),d_ (0,0,[],([]:List Xp)),y38.1,([]:List Sx)),y38.2)))) (jn (α:=Bool×yQ×fG×Hr×Bool×List (List UInt8)) (bf y1.1 12 (aE (x2.1,x35.2)) (aE (aj,x35.2))) λY=>(bcase Y.1 (obind (bz (2,Y.p2)) λy40=>(obind (rmade_maker_stmts ((0,(bc .i64 (1+y40.1))),(Y.2.1.1,Y.2.1.2.1,Y.2.1.p2,ai,Y.2.1.q4),y40.2,Y.q4)) λy41=>(bB (((Y.p4==Y.p4)&&ai)&&aC (al Y.q5) (al Y.q5)&&ai) (af (nN (7,0,[],[],([]:List Xp),d_ (0,0,[],([]:List Xp)),y41.q3,([]:List Sx)),(y41.1.1,y41.1.2.1,y41.1.p2,aj,y41.1.q4),y41.2.1,y41.p2))))) (jn (α:=Bool×yQ×fG×Hr×Bool×List (List UInt8)) (bf y1.1 13 (bcase x2.1 (aE ((!Y.2.1.p4),Y.2)) (aE (aj,Y.2))) (aE (aj,Y.2))) λM=>(bcase M.1 (obind (rmade_maker_stmts (((bc .i64 (x.1-1)),2),(M.2.1.1,M.2.1.2.1,M.2.1.p2,M.2.1.p3,ai,M.2.1.q5),M.p2,M.q4)) λy43=>(bB (((M.p4==M.p4)&&ai)&&aC (al M.q5) (al M.q5)&&ai) (af (nN (8,0,[],[],([]:List Xp),d_ (0,0,[],([]:List Xp)),y43.q3,([]:List Sx)),(y43.1.1,y43.1.2.1,y43.1.p2,y43.1.p3,aj,y43.1.q5),y43.2.1,y43.p2)))) (jn (α:=Bool×yQ×fG×Hr×Bool×List (List UInt8)) (bf y1.1 14 (bcase x2.1 (bcase (!M.2.1.p4) (obind (eQ ([109],M.2.1,M.p2,M.q4)) λy45=>(bB (((M.p4==y45.p3)&&ai)&&aC (al M.q5) (al y45.q4)&&ai) (aE ((!y45.1),y45.2.1,y45.p2,M.p3,y45.q3)))) (aE (aj,M.2))) (aE (aj,M.2))) (aE (aj,M.2))) λx44=>(bcase x44.1 (obind (po ([120])) λy46=>(obind (jq ([97],y46)) λy47=>(af (nN (4,0,[109],[],([]:List Xp),d_ (0,0,[],([]:List Xp)),[nN (9,0,[99],[],([]:List Xp),d_ (0,0,[],([]:List Xp)),([]:List Sx),([]:List Sx)),eh y47],([]:List Sx)),x44.2.1,x44.p2,x44.q4)))) (jn (α:=Bool×yQ×fG×Hr×Bool×List (List UInt8)) (bf y1.1 15 (bcase x2.1 (obind (eQ ([109],x44.2.1,x44.p2,x44.q4)) λy49=>(bB (((x44.p4==y49.p3)&&ai)&&aC (al x44.q5) (al y49.q4)&&ai) (aE ((!y49.1),y49.2.1,y49.p2,x44.p3,y49.q3)))) (aE (aj,x44.2))) (aE (aj,x44.2))) λx48=>(bcase x48.1 (obind (bz (2,x48.p2)) λy50=>(af (nN (4,0,[109],[],([]:List Xp),d_ (0,0,[],([]:List Xp)),[nN ((bc .i64 (10+y50.1)),0,[99],[],([]:List Xp),d_ (0,0,[],([]:List Xp)),([]:List Sx),([]:List Sx))],([]:List Sx)),x48.2.1,y50.2,x48.q4))) (jn (α:=Bool×yQ×fG×Hr×Bool×List (List UInt8)) (bf y1.1 16 (bcase (!x48.2.1.p3) (bcase (!x48.2.1.q5) (aE ((!x48.2.1.p2),x48.2)) (aE (aj,x48.2))) (aE (aj,x48.2))) (aE (aj,x48.2))) λZ=>(bcase Z.1 (obind (fd (1,(Z.2.1.1,Z.2.1.2.1,ai,Z.2.1.q3),Z.p2,Z.q4)) λy52=>(bB (((Z.p4==y52.p3)&&ai)&&aC (al Z.q5) (al y52.q4)&&ai) (af (nN (14,0,[102],[],([]:List Xp),d_ ((Xp.op y52.1),(Xp.n y52.1),(Xp.name y52.1),(Xp.l y52.1)),([]:List Sx),([]:List Sx)),y52.2)))) (jn (α:=Bool×yQ×fG×Hr×Bool×List (List UInt8)) (bf y1.1 17 (bcase (!Z.2.1.p3) (obind (bz (2,Z.p2)) λy54=>(aE ((decide ((y54.1:Int)=1)),Z.2.1,y54.2,Z.q3))) (aE (aj,Z.2))) (aE (aj,Z.2))) λx53=>(bcase x53.1 (af (nN (15,0,[97],[102],([]:List Xp),d_ (0,0,[],([]:List Xp)),([]:List Sx),([]:List Sx)),x53.2.1,x53.p2,x53.q4)) (obind (fd (1,x53.2.1,x53.p2,x53.q4)) λy55=>(bB (((x53.p4==y55.p3)&&ai)&&aC (al x53.q5) (al y55.q4)&&ai) (obind (jq ([120],y55.1)) λy56=>(af (eh y56,y55.2))))))))))))))))))))))))))))))
def mC (rmade_maker_stmts:ag2->Option Za) (rmade_maker_stmt:Zb->Option acp) (rmade_maker_block:ag1->Option acq) (x:fw×yQ×fG×Bool×List (List UInt8)):Option acq:=
 (bB (a_ (al x.q4+al ([x.1.1])) 16) (obind (bz (2,x.p2)) λJ=>(obind (rmade_maker_stmts ((x.1.2,(bc .i64 (1+J.1))),x.2.1,J.2,x.p3,(x.q4++([x.1.1])))) λI=>(bB (((x.p3==x.p3)&&ai)&&aC (al (x.q4++([x.1.1]))) (al (x.q4++([x.1.1])))&&ai) (bB (c7 0 (bc .i64 ((aY I.p2.2)-1))&&fQ (bc .i64 ((aY I.p2.2)-1)) (al I.p2.2)) (af (I.q3,I.1,I.2.1,aj,(dP (aU (bc .i64 ((aY I.p2.2)-1))) I.p2.2))))))))
mutual
def dJ:Nat->ag2->Option Za
 |0,_=>ah
 |n+1,x=>mB (dJ n) (eJ n) (dX n) x
def eJ:Nat->Zb->Option acp
 |0,_=>ah
 |n+1,x=>nS (dJ n) (eJ n) (dX n) x
def dX:Nat->ag1->Option acq
 |0,_=>ah
 |n+1,x=>mC (dJ n) (eJ n) (dX n) x
end
def qu (x:(Int×Int)×yQ×fG×Bool×List (List UInt8)):Option Za:=dJ fuel x
def oL (x:List Int):Option (sg×List sd):=
 (obind (sw ()) λy1=>(obind (bz (3,x,0)) λy2=>(iter (σ:=Int×yQ×sg×cf×fG×S5×List sd) (λM=>(bx M.1 (bc .i64 (2+y2.1)) (kB (.str) M.p3 M.1 λz4=>(jn (α:=yQ×sg×cf×fw×fG×S5×(List sd)×cf×List Sx) (bf M.1 0 (iter (σ:=Int×yQ×sg×cf×fw×fG×S5×(List sd)×cf×List Sx) (λY=>(bx Y.1 (bc .i64 (2+y2.1)) (kB (.str) Y.p3 Y.1 λz7=>(bB (a_ (al Y.q9+al ([nN (12,0,z7,[],([]:List Xp),d_ (0,0,[],([]:List Xp)),([]:List Sx),([]:List Sx))])) 176) (cK ((cE Y.1),Y.2.1,Y.p2,Y.p3,Y.p4,Y.p5,Y.p6,Y.p7,Y.p8,(Y.q9++([nN (12,0,z7,[],([]:List Xp),d_ (0,0,[],([]:List Xp)),([]:List Sx),([]:List Sx))])))))) (aE (bP Y.2)))) (1,(M.1,M.2.1.2),M.p2,M.p3,(z4,0),M.p4,M.p5,M.q6,[[97],[98]],([]:List Sx))) (aE ((M.1,M.2.1.2),M.p2,M.p3,(z4,0),M.p4,M.p5,M.q6,[[97],[98]],([]:List Sx)))) λU=>(obind (bz (3,U.p4)) λy8=>(obind (qu ((2,(bc .i64 (1+y8.1))),U.1,y8.2,U.p5)) λZ=>(bB (((U.p5.1==U.p5.1)&&ai)&&aC (al U.p5.2) (al U.p5.2)&&ai) (bB (a_ (al U.q8+al Z.q3) 176) (jn (α:=yQ×sg×cf×fw×fG×S5×(List sd)×cf×List Sx) (jn (α:=Bool×yQ×sg×cf×fw×fG×S5×(List sd)×cf×List Sx) (bf M.1 0 (obind (bz (3,Z.2.1)) λy12=>(aE ((decide ((y12.1:Int)=2)),Z.1,U.2.1,U.p2,U.p3,y12.2,Z.p2,U.p6,U.p7,(U.q8++Z.q3)))) (aE (aj,Z.1,U.2.1,U.p2,U.p3,Z.2.1,Z.p2,U.p6,U.p7,(U.q8++Z.q3)))) λI=>(bcase I.1 (kB (.str) I.p3 1 λz13=>(bB (a_ (al I.q9+al ([nN (13,0,z13,[],([]:List Xp),d_ (0,0,[],([]:List Xp)),([]:List Sx),([]:List Sx))])) 176) (aE (I.2.1,I.p2,I.p3,I.p4,I.p5,I.p6,I.p7,I.p8,(I.q9++([nN (13,0,z13,[],([]:List Xp),d_ (0,0,[],([]:List Xp)),([]:List Sx),([]:List Sx))])))))) (aE I.2))) λJ=>(bB (a_ (al J.p6+al ([(J.p3.1,J.p3.2,J.q7)])) 72) (cK ((cE M.1),J.1,J.2.1,J.p2,J.p4,J.p5,(J.p6++([(J.p3.1,J.p3.2,J.q7)])))))))))))) (obind (obind (fm (M.p2,M.q6)) λy14=>(je y14.1 0 (obind (sw ()) λy15=>(obind (rE 1) λy16=>(obind (jq ([120],y16)) λy17=>(af (y15,[([109,97,105,110],0,[[97],[98]],[eh y17])]))))) (af (M.p2,M.q6)))) λr=>af (bP r)))) (0,(0,20,aj,aj,aj,aj),y1,[[109,97,105,110],[116,49],[116,50],[116,51]],y2.2,(ai,([]:List (List UInt8))),([]:List sd)))))
def xw (x:List Int):Option zW:=
 (obind (oL x) λJ=>(obind (qr J) λI=>(af I.1)))
def sx (x:(List Int)×List Int):Option (dz×List gj):=
 (obind (xw x.1) λM=>(obind (oM x.2) λJ=>(obind (y_ (M,J)) λI=>(af I.1))))
def nF (x:Unit):Option dz:=
 (iter (σ:=Int×gP×gz×(List fw)×cf×cf×List (Int×Int×Int)) (λx1=>(bx x1.1 (aO (al ([[109,97,105,110],[116,49],[116,50],[116,51]]))) (iter (σ:=Int×gP×gz×(List fw)×cf×cf×List (Int×Int×Int)) (λx2=>(bx x2.1 6 (bB (a_ (al x2.q6+al ([(x1.1,x2.1,(bc .i64 ((bc .i64 ((bc .i64 (10*x1.1))+x2.1))+1)))])) 24) (cK ((cE x2.1),x2.2.1,x2.p2,x2.p3,x2.p4,x2.p5,(x2.q6++([(x1.1,x2.1,(bc .i64 ((bc .i64 ((bc .i64 (10*x1.1))+x2.1))+1)))]))))) (aE (mr ((cE x1.1),x2.2))))) (0,x1.2)) (aE x1.2))) (0,[([120],0,0,aj,0),([121],0,0,aj,1),([118],0,0,ai,0),([113],0,2,aj,0),([113],1,2,aj,0)],[([109],aj),([110],aj),([114],ai)],[([99],0)],[[102]],[[109,97,105,110],[116,49],[116,50],[116,51]],([]:List (Int×Int×Int))))
def kW (x:o9×(List Int)×(List Int)×List Int):Option (List Int):=
 (iter (σ:=Int×List Int) (λx1=>(bx x1.1 (aY x.1.q3) (jn (α:=List Int) (bA ic x.1.q3 x1.1 λI=>(bf I.1 3 (bB (a_ (al x1.2+al ([x1.1])) 8) (aE (x1.2++([x1.1])))) (aE x1.2))) λx2=>(cK ((cE x1.1),x2))) (aE x1.2))) (0,([]:List Int)))
def tD (x:Unit):Option (List Int):=
 (af ([3,3,3,3,3,4,4,4,4,4,5,5,5,6,6,6,7,7,7,8,9,10,11,12,13,14,14,15,16,16,17,17,18,18,19,20,1,1,2,21,22,23,23]))
def oF (x:(Int×Int)×(List Int)×Int):Option (Int×(List Int)×Int):=
 (jn (α:=Bool×(List Int)×Int) (bf x.1.1 3 (aE ((decide ((x.1.1:Int)=3)),x.2)) (aE ((decide ((x.1.1:Int)=4)),x.2))) λx1=>(bcase x1.1 (obind (bz (8,x1.2)) λZ=>(kB aM ([0,0,0,1,1,2,3,4]) Z.1 λz3=>(af (z3,Z.2)))) (jn (α:=Bool×(List Int)×Int) (bf x.1.1 6 (aE ((decide ((x.1.1:Int)=6)),x1.2)) (aE ((decide ((x.1.1:Int)=7)),x1.2))) λJ=>(bcase J.1 (obind (bz (2,J.2)) λy5=>(af y5)) (jn (α:=Bool×(List Int)×Int) (bf x.1.1 8 (aE ((decide ((x.1.1:Int)=8)),J.2)) (bf x.1.1 9 (aE ((decide ((x.1.1:Int)=9)),J.2)) (bf x.1.1 10 (aE ((decide ((x.1.1:Int)=10)),J.2)) (aE ((decide ((x.1.1:Int)=11)),J.2))))) λI=>(bcase I.1 (af (2,I.2)) (jn (α:=Bool×(List Int)×Int) (bf x.1.1 16 (aE ((decide ((x.1.1:Int)=16)),I.2)) (bf x.1.1 17 (aE ((decide ((x.1.1:Int)=17)),I.2)) (bf x.1.1 18 (aE ((decide ((x.1.1:Int)=18)),I.2)) (bf x.1.1 19 (aE ((decide ((x.1.1:Int)=19)),I.2)) (bf x.1.1 22 (aE ((decide ((x.1.1:Int)=22)),I.2)) (aE ((decide ((x.1.1:Int)=23)),I.2))))))) λM=>(bcase M.1 (af (0,M.2)) (jn (α:=Bool×(List Int)×Int) (bf x.1.1 20 (aE ((decide ((x.1.1:Int)=20)),M.2)) (aE ((decide ((x.1.1:Int)=21)),M.2))) λU=>(bcase U.1 (obind (bz (3,U.2)) λY=>(af ((me (bc .i64 ((cE x.1.2)+Y.1)) 4),Y.2))) (af ((-1),U.2))))))))))))
def qh (x:(eK×Int×Int)×(List Int)×Int):Option (Int×(List Int)×Int):=
 (bf x.1.2.1 3 (bA aM x.1.1.2.1 x.1.2.2 λZ=>(af (Z,x.2))) (bf x.1.2.1 23 (bA aM x.1.1.p2 0 λY=>(af (Y,x.2))) (jn (α:=Bool×fG×o9×(List Int)×(List Int)×List Int) (bf x.1.2.1 4 (aE ((decide ((x.1.2.1:Int)=4)),x.2,x.1.1)) (aE ((decide ((x.1.2.1:Int)=22)),x.2,x.1.1))) λI=>(bcase I.1 (obind (bz (3,I.2.1)) λy4=>(af y4)) (bf x.1.2.1 5 (obind (bz (2,I.2.1)) λy5=>(af y5)) (bf x.1.2.1 18 (obind (kW I.2.2) λJ=>(bx 0 (aY J) (obind (bz ((aY J),I.2.1)) λM=>(bA aM J M.1 λU=>(af (U,M.2)))) (af ((-1),I.2.1)))) (bf x.1.2.1 19 (obind (kW I.2.2) λy9=>(af ((aY y9),I.2.1))) (af (0,I.2.1)))))))))
def gC (x:fG×List Int):Option ((List Int)×fG×List Int):=
 (iter (σ:=Int×fG×(List Int)×List Int) (λx1=>(bx x1.1 (aY x.2) (jn (α:=fG×(List Int)×List Int) (kB aM x1.p2 x1.1 λJ=>(jn (α:=Bool×fG×(List Int)×List Int) (iH (aY x1.p2) (bc .i64 (x1.1+3)) (obind (bz (2,x1.2.1)) λM=>(aE ((decide ((M.1:Int)=1)),M.2,x1.2.2))) (aE (aj,x1.2))) λI=>(bcase I.1 (bB (a_ (al I.q3+al ([J])) 8) (aE (I.2.1,I.p2,(I.q3++([J]))))) (aE I.2)))) λx2=>(cK ((cE x1.1),x2))) (aE (x1.q3,x1.2.1,x1.p2)))) (0,x.1,x.2,([]:List Int)))
def qi (x:(eK×gP×gz×(List fw)×cf×cf×List (Int×Int×Int))×fG×(List Int)×(List Int)×(List Int)×List Int):Option (gj×fG×(List Int)×(List Int)×(List Int)×List Int):=
 (obind (bz (4,x.2.1)) λU=>(obind (tD ()) λy2=>(obind (bz ((aY y2),U.2)) λy3=>(bA aM y2 y3.1 λz4=>(obind (bz (6,y3.2)) λy5=>(jn (α:=fG×(List Int)×(List Int)×(List Int)×(List Int)×eK×dz×vR×Int×Int×Int×Int×Int) (jn (α:=Bool×fG×(List Int)×(List Int)×(List Int)×(List Int)×eK×dz×vR×Int×Int×Int×Int×Int) (bf z4 1 (aE (ai,y5.2,x.p2,x.p3,x.p4,x.q5,x.1.1,x.1.2,(0,0,0,0,0),U.1,z4,0,0,(bc .i64 ((bc .i64 (U.1*6))+y5.1)))) (aE ((decide ((z4:Int)=2)),y5.2,x.p2,x.p3,x.p4,x.q5,x.1.1,x.1.2,(0,0,0,0,0),U.1,z4,0,0,(bc .i64 ((bc .i64 (U.1*6))+y5.1))))) λY=>(bcase Y.1 (aE (Y.2.1,Y.p2,Y.p3,Y.p4,Y.p5,Y.p6,Y.p7,Y.p8,Y.p9,Y.p10,Y.p11,Y.p12,(-1))) (aE Y.2))) λM=>(obind (oF ((M.p9,U.1),M.1)) λy8=>(obind (qh ((M.p5,M.p9,y8.1),y8.2)) λy9=>(jn (α:=fG×(List Int)×(List Int)×(List Int)×(List Int)×vR×Int×Int×Int×Int×Int×List Int) (jn (α:=Bool×fG×(List Int)×(List Int)×(List Int)×(List Int)×vR×Int×Int×Int×Int×Int) (bf M.p9 5 (aE (ai,y9.2,M.2.1,M.p2,M.p3,M.p4,M.p7,M.p8,M.p9,y8.1,y9.1,M.q12)) (bf M.p9 3 (bA ky M.p6.1 y8.1 λz12=>(aE ((fQ 0 z12.2.2.1),y9.2,M.2.1,M.p2,M.p3,M.p4,M.p7,M.p8,M.p9,y8.1,y9.1,M.q12))) (bf M.p9 4 (bA ky M.p6.1 y8.1 λz13=>(aE ((fQ 0 z13.2.2.1),y9.2,M.2.1,M.p2,M.p3,M.p4,M.p7,M.p8,M.p9,y8.1,y9.1,M.q12))) (aE (aj,y9.2,M.2.1,M.p2,M.p3,M.p4,M.p7,M.p8,M.p9,y8.1,y9.1,M.q12))))) λJ=>(bcase J.1 (bf U.1 0 (obind (gC (J.2.1,J.p2)) λy14=>(bB (aC (al J.p2) (al y14.2.2)&&ai) (aE (y14.2.1,y14.2.2,J.p3,J.p4,J.p5,J.p6,J.p7,J.p8,J.p9,J.p10,J.q11,y14.1)))) (bf U.1 1 (obind (gC (J.2.1,J.p3)) λy15=>(bB (aC (al J.p3) (al y15.2.2)&&ai) (aE (y15.2.1,J.p2,y15.2.2,J.p4,J.p5,J.p6,J.p7,J.p8,J.p9,J.p10,J.q11,y15.1)))) (bf U.1 2 (obind (gC (J.2.1,J.p4)) λy16=>(bB (aC (al J.p4) (al y16.2.2)&&ai) (aE (y16.2.1,J.p2,J.p3,y16.2.2,J.p5,J.p6,J.p7,J.p8,J.p9,J.p10,J.q11,y16.1)))) (bf U.1 3 (obind (gC (J.2.1,J.p5)) λy17=>(bB (aC (al J.p5) (al y17.2.2)&&ai) (aE (y17.2.1,J.p2,J.p3,J.p4,y17.2.2,J.p6,J.p7,J.p8,J.p9,J.p10,J.q11,y17.1)))) ah)))) (aE (J.2.1,J.p2,J.p3,J.p4,J.p5,J.p6,J.p7,J.p8,J.p9,J.p10,J.q11,([]:List Int))))) λx10=>(jn (α:=fG×(List Int)×(List Int)×(List Int)×(List Int)×vR×Int×Int×Int×Int×Int×(List Int)×List Int) (jn (α:=Bool×fG×(List Int)×(List Int)×(List Int)×(List Int)×vR×Int×Int×Int×Int×Int×List Int) (bf x10.p7 4 (aE (ai,x10)) (aE ((decide ((x10.p7:Int)=22)),x10))) λI=>(bcase I.1 (bf U.1 0 (obind (gC (I.2.1,I.p2)) λy20=>(bB (aC (al I.p2) (al y20.2.2)&&ai) (aE (y20.2.1,y20.2.2,I.p3,I.p4,I.p5,I.p6,I.p7,I.p8,I.p9,I.p10,I.p11,I.q12,y20.1)))) (bf U.1 1 (obind (gC (I.2.1,I.p3)) λy21=>(bB (aC (al I.p3) (al y21.2.2)&&ai) (aE (y21.2.1,I.p2,y21.2.2,I.p4,I.p5,I.p6,I.p7,I.p8,I.p9,I.p10,I.p11,I.q12,y21.1)))) (bf U.1 2 (obind (gC (I.2.1,I.p4)) λy22=>(bB (aC (al I.p4) (al y22.2.2)&&ai) (aE (y22.2.1,I.p2,I.p3,y22.2.2,I.p5,I.p6,I.p7,I.p8,I.p9,I.p10,I.p11,I.q12,y22.1)))) (bf U.1 3 (obind (gC (I.2.1,I.p5)) λy23=>(bB (aC (al I.p5) (al y23.2.2)&&ai) (aE (y23.2.1,I.p2,I.p3,I.p4,y23.2.2,I.p6,I.p7,I.p8,I.p9,I.p10,I.p11,I.q12,y23.1)))) ah)))) (aE (I.2.1,I.p2,I.p3,I.p4,I.p5,I.p6,I.p7,I.p8,I.p9,I.p10,I.p11,I.q12,([]:List Int))))) λZ=>(af (Z.q6,Z.1,Z.2.1,Z.p2,Z.p3,Z.p4))))))))))))
def sj (x:(eK×dz×Int×Bool)×(List Int)×Int):Option ((List gj)×(List Int)×Int):=
 (bB (c7 0 (aY x.1.2.1.p4)&&c7 (aY x.1.2.1.p4) (aY x.1.2.1.p4)&&a_ (aU (aY x.1.2.1.p4)) 24&&decide (((aY x.1.2.1.p4):Int)=4)) (jn (α:=fG×eK×dz×(List Int)×(List Int)×(List Int)×List Int) (bx 0 (aO 4) (jn (α:=fG×eK×dz×(List Int)×(List Int)×(List Int)×List Int) (jn (α:=Bool×fG×eK×dz×(List Int)×(List Int)×(List Int)×List Int) (bcase x.1.q3 (bA aM x.1.1.q3 0 λz4=>(bx 1 z4 (obind (bz (3,x.2)) λy5=>(aE ((decide ((y5.1:Int)=2)),y5.2,x.1.1,x.1.2.1,([]:List Int),([]:List Int),([]:List Int),([]:List Int)))) (aE (aj,x.2,x.1.1,x.1.2.1,([]:List Int),([]:List Int),([]:List Int),([]:List Int))))) (aE (aj,x.2,x.1.1,x.1.2.1,([]:List Int),([]:List Int),([]:List Int),([]:List Int)))) λx3=>(bcase x3.1 (bB (a_ (al x3.p4+al ([1])) 8) (aE (x3.2.1,x3.p2,x3.p3,(x3.p4++([1])),x3.q5))) (aE x3.2))) λx2=>(bx 1 (aO 4) (jn (α:=fG×eK×dz×(List Int)×(List Int)×(List Int)×List Int) (jn (α:=Bool×fG×eK×dz×(List Int)×(List Int)×(List Int)×List Int) (bcase x.1.q3 (bA aM x2.2.1.q3 1 λz8=>(bx 1 z8 (obind (bz (3,x2.1)) λy9=>(aE ((decide ((y9.1:Int)=2)),y9.2,x2.2))) (aE (aj,x2)))) (aE (aj,x2))) λx7=>(bcase x7.1 (bB (a_ (al x7.p5+al ([1])) 8) (aE (x7.2.1,x7.p2,x7.p3,x7.p4,(x7.p5++([1])),x7.q6))) (aE x7.2))) λx6=>(bx 2 (aO 4) (jn (α:=fG×eK×dz×(List Int)×(List Int)×(List Int)×List Int) (jn (α:=Bool×fG×eK×dz×(List Int)×(List Int)×(List Int)×List Int) (bcase x.1.q3 (bA aM x6.2.1.q3 2 λz12=>(bx 1 z12 (obind (bz (3,x6.1)) λy13=>(aE ((decide ((y13.1:Int)=2)),y13.2,x6.2))) (aE (aj,x6)))) (aE (aj,x6))) λY=>(bcase Y.1 (bB (a_ (al Y.p6+al ([1])) 8) (aE (Y.2.1,Y.p2,Y.p3,Y.p4,Y.p5,(Y.p6++([1])),Y.q7))) (aE Y.2))) λx10=>(bx 3 (aO 4) (jn (α:=fG×eK×dz×(List Int)×(List Int)×(List Int)×List Int) (jn (α:=Bool×fG×eK×dz×(List Int)×(List Int)×(List Int)×List Int) (bcase x.1.q3 (bA aM x10.2.1.q3 3 λz16=>(bx 1 z16 (obind (bz (3,x10.1)) λy17=>(aE ((decide ((y17.1:Int)=2)),y17.2,x10.2))) (aE (aj,x10)))) (aE (aj,x10))) λU=>(bcase U.1 (bB (a_ (al U.q7+al ([1])) 8) (aE (U.2.1,U.p2,U.p3,U.p4,U.p5,U.p6,(U.q7++([1]))))) (aE U.2))) λx14=>(bx 4 (aO 4) (jn (α:=fG×eK×dz×(List Int)×(List Int)×(List Int)×List Int) (jn (α:=Bool×fG×eK×dz×(List Int)×(List Int)×(List Int)×List Int) (bcase x.1.q3 (bA aM x14.2.1.q3 4 λz20=>(bx 1 z20 (obind (bz (3,x14.1)) λy21=>(aE ((decide ((y21.1:Int)=2)),y21.2,x14.2))) (aE (aj,x14)))) (aE (aj,x14))) λx19=>(bcase x19.1 ah (aE x19.2))) λx18=>ah) (aE x14))) (aE x10))) (aE x6))) (aE x2))) (aE (x.2,x.1.1,x.1.2.1,([]:List Int),([]:List Int),([]:List Int),([]:List Int)))) λx1=>(iter (σ:=fG×eK×dz×(List gj)×(List Int)×(List Int)×(List Int)×List Int) (λx22=>(jn (α:=Bool×fG×eK×dz×(List gj)×(List Int)×(List Int)×(List Int)×List Int) (bx (aY x22.p3) x.1.p2 (aE ((fQ x22.1.2 (aY x22.1.1)),x22)) (aE (aj,x22))) λJ=>(bcase J.1 (jn (α:=fG×eK×dz×(List gj)×(List Int)×(List Int)×(List Int)×List Int) (obind (qi ((J.p2,J.p3),J.2.1,J.q5)) λM=>(bB (aC (al J.q8) (al M.q5)&&(aC (al J.p7) (al M.p4)&&(aC (al J.p6) (al M.p3)&&(aC (al J.p5) (al M.p2)&&ai)))) (obind (ru (J.p3,J.p2,M.1)) λy26=>(bcase (!y26.2) (aE (M.2.1,J.p2,J.p3,J.p4,M.2.2)) (jn (α:=fG×eK×dz×(List gj)×gj×eK×(List Int)×(List Int)×(List Int)×List Int) (jn (α:=Bool×fG×eK×dz×(List gj)×gj×eK×(List Int)×(List Int)×(List Int)×List Int) (bf M.1.2.1 3 (aE (ai,M.2.1,J.p2,J.p3,J.p4,M.1,y26.1,M.2.2)) (aE ((decide ((M.1.2.1:Int)=23)),M.2.1,J.p2,J.p3,J.p4,M.1,y26.1,M.2.2))) λI=>(bcase I.1 (bf I.p5.1 0 (bA aM I.p2.q3 0 λz29=>(bB (a_ (al I.p7+al ([z29])) 8) (aE (I.2.1,I.p2,I.p3,I.p4,(0,I.p5.2),I.p6,(I.p7++([z29])),I.q8)))) (bf I.p5.1 1 (bA aM I.p2.q3 1 λz30=>(bB (a_ (al I.p8+al ([z30])) 8) (aE (I.2.1,I.p2,I.p3,I.p4,(1,I.p5.2),I.p6,I.p7,(I.p8++([z30])),I.q9)))) (bf I.p5.1 2 (bA aM I.p2.q3 2 λz31=>(bB (a_ (al I.p9+al ([z31])) 8) (aE (I.2.1,I.p2,I.p3,I.p4,(2,I.p5.2),I.p6,I.p7,I.p8,(I.p9++([z31])),I.q10)))) (bf I.p5.1 3 (bA aM I.p2.q3 3 λz32=>(bB (a_ (al I.q10+al ([z32])) 8) (aE (I.2.1,I.p2,I.p3,I.p4,(3,I.p5.2),I.p6,I.p7,I.p8,I.p9,(I.q10++([z32])))))) ah)))) (aE I.2))) λZ=>(bB (a_ (al Z.p3+al ([Z.p4])) 88) (aE (Z.1,Z.p5,Z.p2,(Z.p3++([Z.p4])),Z.q6)))))))) λx24=>(cK x24)) (aE (J.p4,J.2.1))))) (x1.1,x1.2.1,x1.p2,([]:List gj),x1.q3))))
def qj (x:(List Int)×Int):Option (dz×List gj):=
 (jn (α:=List Int) (bx 600 (aY x.1) (bB (c7 0 600&&c7 600 (al x.1)) (aE (dP (aU 600) x.1))) (aE x.1)) λx1=>(obind (nF ()) λy2=>(obind (mM y2) λy3=>(obind (bz (3,x1,0)) λy4=>(iter (σ:=Int×fG×dz×eK×List gj) (λJ=>(iH J.1 (bc .i64 (1+y4.1)) (bB (a_ (al J.q4+al ([(0,20,J.1,0,0,([]:List Int),([]:List Int)),(J.1,1,(-1),0,(-1),([]:List Int),([]:List Int))])) 88) (cK ((cE J.1),J.2.1,J.p2,J.p3,(J.q4++([(0,20,J.1,0,0,([]:List Int),([]:List Int)),(J.1,1,(-1),0,(-1),([]:List Int),([]:List Int))]))))) (obind (iter (σ:=Int×fG×dz×eK×(List gj)×List gj) (λI=>(bx I.1 (aY J.q4) (jn (α:=fG×dz×eK×(List gj)×List gj) (kB fX I.p4 I.1 λU=>(obind (ru (I.p2,I.p3,U)) λy9=>(bcase y9.2 (bB (a_ (al I.q5+al ([U])) 88) (aE (I.2.1,I.p2,y9.1,I.p4,(I.q5++([U]))))) (aE I.2)))) λx7=>(cK ((cE I.1),x7))) (obind (obind (sj ((I.p3,I.p2,(G8 (iD x.2 0) 60),aj),I.2.1)) λM=>(bB (a_ (al I.q5+al M.1) 88) (obind (ug (I.p2,(I.q5++M.1))) λZ=>(je Z.2 0 (obind (nF ()) λY=>(af (Y,([]:List gj)))) (af (I.p2,(I.q5++M.1))))))) λr=>af (bP r)))) (0,J.2.1,J.p2,J.p3,J.q4,([]:List gj))) λr=>af (bP r)))) (1,y4.2,y2,y3,[(0,1,(-1),0,(-1),([]:List Int),([]:List Int))]))))))
def kX (x:((List Int)×(List Int)×List Int)×Int):Option (dz×List gj):=
 (bx 0 (aY x.1.2.2) (obind (qj (x.1.2.2,x.2)) λJ=>(af J)) (bB (c7 0 (G8 (aY x.1.2.1) x.2)&&c7 (G8 (aY x.1.2.1) x.2) (al x.1.2.1)) (obind (sx (x.1.1,(dP (aU (G8 (aY x.1.2.1) x.2)) x.1.2.1))) λI=>(af I))))
end
end Go.Proofs.YthehadcddfilhaaGreatDoor.AI
