/-
  Texts of the proof, part 1 of 6: what is used to prove the statement. No condition.
-/
import Derived.WalkKit
import Derived.Lib.Hide
import Derived.Deep.QuietTactic
namespace Prod
variable {A0 A1 A2 A3 A4 A5 A6 A7 A8 A9 A10 A11 A12 A13 A14 A15 A16 A17 A18 A19 A20 A21 A22 A23 A24:Type}
abbrev p2 (x:A0×A1×A2×A3):A2:=x.2.2.1
abbrev p3 (x:A0×A1×A2×A3×A4):A3:=x.2.2.2.1
abbrev q3 (x:A0×A1×A2×A3):A3:=x.2.2.2
abbrev p4 (x:A0×A1×A2×A3×A4×A5):A4:=x.2.2.2.2.1
abbrev q4 (x:A0×A1×A2×A3×A4):A4:=x.2.2.2.2
abbrev p5 (x:A0×A1×A2×A3×A4×A5×A6):A5:=x.2.2.2.2.2.1
abbrev q5 (x:A0×A1×A2×A3×A4×A5):A5:=x.2.2.2.2.2
abbrev p6 (x:A0×A1×A2×A3×A4×A5×A6×A7):A6:=x.2.2.2.2.2.2.1
abbrev q6 (x:A0×A1×A2×A3×A4×A5×A6):A6:=x.2.2.2.2.2.2
abbrev p7 (x:A0×A1×A2×A3×A4×A5×A6×A7×A8):A7:=x.2.2.2.2.2.2.2.1
abbrev q7 (x:A0×A1×A2×A3×A4×A5×A6×A7):A7:=x.2.2.2.2.2.2.2
abbrev p8 (x:A0×A1×A2×A3×A4×A5×A6×A7×A8×A9):A8:=x.2.2.2.2.2.2.2.2.1
abbrev q8 (x:A0×A1×A2×A3×A4×A5×A6×A7×A8):A8:=x.2.2.2.2.2.2.2.2
abbrev p9 (x:A0×A1×A2×A3×A4×A5×A6×A7×A8×A9×A10):A9:=x.2.2.2.2.2.2.2.2.2.1
abbrev q9 (x:A0×A1×A2×A3×A4×A5×A6×A7×A8×A9):A9:=x.2.2.2.2.2.2.2.2.2
abbrev p10 (x:A0×A1×A2×A3×A4×A5×A6×A7×A8×A9×A10×A11):A10:=x.2.2.2.2.2.2.2.2.2.2.1
abbrev q10 (x:A0×A1×A2×A3×A4×A5×A6×A7×A8×A9×A10):A10:=x.2.2.2.2.2.2.2.2.2.2
abbrev p11 (x:A0×A1×A2×A3×A4×A5×A6×A7×A8×A9×A10×A11×A12):A11:=x.2.2.2.2.2.2.2.2.2.2.2.1
abbrev q11 (x:A0×A1×A2×A3×A4×A5×A6×A7×A8×A9×A10×A11):A11:=x.2.2.2.2.2.2.2.2.2.2.2
abbrev p12 (x:A0×A1×A2×A3×A4×A5×A6×A7×A8×A9×A10×A11×A12×A13):A12:=x.2.2.2.2.2.2.2.2.2.2.2.2.1
abbrev q12 (x:A0×A1×A2×A3×A4×A5×A6×A7×A8×A9×A10×A11×A12):A12:=x.2.2.2.2.2.2.2.2.2.2.2.2
abbrev p13 (x:A0×A1×A2×A3×A4×A5×A6×A7×A8×A9×A10×A11×A12×A13×A14):A13:=x.2.2.2.2.2.2.2.2.2.2.2.2.2.1
abbrev q13 (x:A0×A1×A2×A3×A4×A5×A6×A7×A8×A9×A10×A11×A12×A13):A13:=x.2.2.2.2.2.2.2.2.2.2.2.2.2
abbrev p14 (x:A0×A1×A2×A3×A4×A5×A6×A7×A8×A9×A10×A11×A12×A13×A14×A15):A14:=x.2.2.2.2.2.2.2.2.2.2.2.2.2.2.1
abbrev p15 (x:A0×A1×A2×A3×A4×A5×A6×A7×A8×A9×A10×A11×A12×A13×A14×A15×A16):A15:=x.2.2.2.2.2.2.2.2.2.2.2.2.2.2.2.1
abbrev p16 (x:A0×A1×A2×A3×A4×A5×A6×A7×A8×A9×A10×A11×A12×A13×A14×A15×A16×A17):A16:=x.2.2.2.2.2.2.2.2.2.2.2.2.2.2.2.2.1
abbrev q16 (x:A0×A1×A2×A3×A4×A5×A6×A7×A8×A9×A10×A11×A12×A13×A14×A15×A16):A16:=x.2.2.2.2.2.2.2.2.2.2.2.2.2.2.2.2
abbrev p17 (x:A0×A1×A2×A3×A4×A5×A6×A7×A8×A9×A10×A11×A12×A13×A14×A15×A16×A17×A18):A17:=x.2.2.2.2.2.2.2.2.2.2.2.2.2.2.2.2.2.1
abbrev q17 (x:A0×A1×A2×A3×A4×A5×A6×A7×A8×A9×A10×A11×A12×A13×A14×A15×A16×A17):A17:=x.2.2.2.2.2.2.2.2.2.2.2.2.2.2.2.2.2
abbrev p18 (x:A0×A1×A2×A3×A4×A5×A6×A7×A8×A9×A10×A11×A12×A13×A14×A15×A16×A17×A18×A19):A18:=x.2.2.2.2.2.2.2.2.2.2.2.2.2.2.2.2.2.2.1
abbrev q18 (x:A0×A1×A2×A3×A4×A5×A6×A7×A8×A9×A10×A11×A12×A13×A14×A15×A16×A17×A18):A18:=x.2.2.2.2.2.2.2.2.2.2.2.2.2.2.2.2.2.2
abbrev p19 (x:A0×A1×A2×A3×A4×A5×A6×A7×A8×A9×A10×A11×A12×A13×A14×A15×A16×A17×A18×A19×A20):A19:=x.2.2.2.2.2.2.2.2.2.2.2.2.2.2.2.2.2.2.2.1
abbrev p20 (x:A0×A1×A2×A3×A4×A5×A6×A7×A8×A9×A10×A11×A12×A13×A14×A15×A16×A17×A18×A19×A20×A21):A20:=x.2.2.2.2.2.2.2.2.2.2.2.2.2.2.2.2.2.2.2.2.1
abbrev q21 (x:A0×A1×A2×A3×A4×A5×A6×A7×A8×A9×A10×A11×A12×A13×A14×A15×A16×A17×A18×A19×A20×A21):A21:=x.2.2.2.2.2.2.2.2.2.2.2.2.2.2.2.2.2.2.2.2.2
end Prod
namespace Go.Proofs.YtgijlolllojpaaaGreatDoor.AI
open Go.RowKit
set_option maxRecDepth 100000
set_option maxHeartbeats 4000000
set_option linter.unusedVariables false
set_option linter.unusedSimpArgs false
open Act renaming put→OR
open _root_.Array renaming length_toList→iG,replicate→oW
open _root_.Bool renaming true→ai,false→aj
open _root_.Int renaming ofNat→aP,toNat→aT,tmod→AG
open IntKind renaming wrap→po
open _root_.List renaming length→al,replicate→aG,range→bx,length_singleton→c9,take→dI,getElem?_cons_zero→rz
open _root_.Nat renaming beq→aC,testBit→aN,ble→eU,blt→gz,min→jd
open Oper renaming wp→In
open _root_.Option renaming some→af,none→ah,bind_some→aI
open Region renaming wanted→iU,binds→AD,ready→Im
open _root_.Sum renaming inr→bO,inl→kO
open World renaming shape?→sw,cell?→ON
noncomputable section
abbrev η:=List Int
abbrev ζ:=List UInt8
abbrev θ:=List Bool
abbrev ι:=List Nat
abbrev ξ:=List Value
abbrev ω:=Int×Int×Int×Int×Int×Int
abbrev υ:=Int×Int×Int×Int×Int
abbrev π:=Int×Int×Int×Int
abbrev ν:=Int×Int×Int
abbrev Γ:=Int×Int
abbrev aA:=@if_neg
abbrev aD:=@if_pos
abbrev aQ:=@decide_eq_true
abbrev be:=@decide_eq_true_eq
abbrev bi:=@of_decide_eq_true
abbrev bw:=@decide_eq_false
abbrev bI:=@if_true
abbrev cD:=@decide_false
abbrev cS:=@decide_true
abbrev cX:=@absurd
abbrev c7:=@beq_self_eq_true
abbrev c8:=@beq_iff_eq
abbrev ey:=@if_false
abbrev gu:=@or_false
abbrev gX:=@congrArg
abbrev B8:=@true_and
abbrev U1:=@of_decide_eq_false
abbrev abj:=@decide_eq_decide
abbrev ak:=@Option.some.injEq
abbrev av:=@Bool.and_eq_true
abbrev aw:=@Nat.eq_of_beq_eq_true
abbrev ay:=@List.getD_eq_getElem?_getD
abbrev aB:=@List.getElem?_eq_getElem
abbrev aE:=@Prod.mk.injEq
abbrev aL:=@List.mem_singleton
abbrev a_:=@Nat.le_of_ble_eq_true
abbrev ba:=@List.getElem?_map
abbrev bc:=@List.mem_of_getElem?
abbrev bm:=@List.length_append
abbrev bn:=@List.getElem?_eq_some_iff
abbrev bp:=@List.mem_cons
abbrev bz:=@Nat.testBit_or
abbrev bC:=@List.length_take
abbrev bH:=@Nat.ble_eq_true_of_le
abbrev bM:=@List.getElem?_append_left
abbrev bR:=@Nat.zero_add
abbrev bS:=@List.length_map
abbrev bT:=@List.getElem?_eq_none
abbrev bV:=@Nat.le_refl
abbrev bY:=@List.mem_append
abbrev b7:=@List.getElem?_append_right
abbrev ci:=@Nat.lt_or_ge
abbrev cE:=@List.map_append
abbrev cF:=@List.not_mem_nil
abbrev cG:=@Bool.false_eq_true
abbrev cJ:=@Array.getElem?_eq_some_iff
abbrev cL:=@Nat.mul_le_mul_right
abbrev cM:=@List.mem_cons_of_mem
abbrev cP:=@List.getElem?_take
abbrev cQ:=@Array.getElem?_toList
abbrev cW:=@List.take_length
abbrev du:=@Nat.le_trans
abbrev dv:=@List.mem_map
abbrev dw:=@List.mem_cons_self
abbrev dH:=@Nat.lt_of_lt_of_le
abbrev dJ:=@List.ext_getElem
abbrev dV:=@List.foldl_append
abbrev dX:=@Int.natCast_nonneg
abbrev eE:=@Int.le_refl
abbrev eH:=@Bool.and_eq_true_iff
abbrev eJ:=@Bool.not_eq_true'
abbrev eV:=@List.length_replicate
abbrev fw:=@List.take_of_length_le
abbrev fx:=@List.getElem?_of_mem
abbrev fJ:=@List.append_nil
abbrev fV:=@List.length_range
abbrev fX:=@List.flatMap_cons
abbrev fY:=@List.append_assoc
abbrev gj:=@List.mem_of_mem_take
abbrev gB:=@List.map_cons
abbrev gD:=@List.all_eq_true
abbrev gR:=@Array.getD_eq_getD_getElem?
abbrev gW:=@List.length_eq_zero_iff
abbrev ia:=@List.getElem?_drop
abbrev ip:=@Nat.ne_of_beq_eq_false
abbrev iv:=@Array.getElem?_eq_getElem
abbrev iH:=@Nat.le_succ_of_le
abbrev iV:=@Option.isSome_iff_exists
abbrev iW:=@Bool.and_self
abbrev jb:=@Nat.succ_mul
abbrev je:=@List.cons.injEq
abbrev jf:=@Bool.or_eq_true
abbrev jW:=@Option.map_eq_some_iff
abbrev j6:=@Option.some.inj
abbrev j7:=@Nat.zero_le
abbrev kD:=@List.getElem?_toArray
abbrev kQ:=@Nat.or_assoc
abbrev kS:=@List.map_take
abbrev kT:=@Bool.true_and
abbrev lB:=@List.take_append_of_le_length
abbrev lD:=@List.mem_range
abbrev lE:=@List.mem_append_left
abbrev lK:=@List.getElem?_replicate
abbrev mV:=@List.length_drop
abbrev nU:=@List.getElem_range
abbrev nV:=@Bool.false_and
abbrev n_:=@List.mem_append_right
abbrev pm:=@List.take_succ_eq_append_getElem
abbrev pn:=@List.getElem?_set
abbrev qa:=@Nat.add_assoc
abbrev qb:=@List.eq_of_mem_replicate
abbrev qu:=@Array.getElem?_setIfInBounds_ne
abbrev qB:=@List.map_congr_left
abbrev qC:=@List.length_take_le
abbrev qD:=@List.getElem?_range
abbrev rx:=@Nat.lt_succ_self
abbrev ry:=@List.getElem_map
abbrev sx:=@Nat.beq_refl
abbrev sA:=@List.drop_of_length_le
abbrev tm:=@Nat.min_eq_left
abbrev tu:=@List.length_set
abbrev tL:=@List.contains_iff_mem
abbrev tX:=@List.size_toArray
abbrev vk:=@List.replicate_succ'
abbrev vE:=@Nat.sub_self
abbrev vF:=@List.mem_flatMap
abbrev vG:=@List.getElem_set
abbrev vH:=@List.getElem_mem
abbrev vI:=@List.drop_append
abbrev wh:=@Classical.byContradiction
abbrev wH:=@List.drop_succ_cons
abbrev xH:=@Nat.not_lt_zero
abbrev xI:=@List.range_succ
abbrev xJ:=@List.mem_filter
abbrev yH:=@List.filter_append
abbrev zl:=@Nat.zero_or
abbrev AE:=@Nat.lt_succ_of_lt
abbrev AF:=@List.map_map
abbrev B6:=@List.take_append_drop
abbrev B7:=@List.length_filter_le
abbrev CX:=@Int.not_lt
abbrev C1:=@Nat.lt_irrefl
abbrev EO:=@List.getElem?_mapIdx
abbrev EP:=@List.drop_append_of_le_length
abbrev Gh:=@List.sum_append
abbrev HH:=@Int.toNat_of_nonneg
abbrev Io:=@Nat.mul_comm
abbrev L5:=@Nat.eq_zero_or_pos
abbrev L8:=@Array.ext'
abbrev OP:=@Nat.lt_trichotomy
abbrev OQ:=@Nat.add_mul
inductive FV where
 |raw (v:Value)
 |sl (cells:List FV) (n:Nat)
 |ptr (cells:List FV) (off:Nat)
 |agg (cells:List FV)
inductive AV where
 |f (x:FV)
 |ptr (id off:Nat)
 |sl (id off n:Nat)
 |row (id sz n:Nat)
 |mp (id:Nat)
 |emp
 |anyb
 |agg (cells:List AV)
 |tup (vs:List AV)
 |clo (g:FuncId) (cap:List AV)
def FV.isCell:FV->Bool
 |.raw v=>v.oneCell'
 |.sl _ _=>ai
 |.ptr _ _=>ai
 |.agg _=>aj
def AV.isCell:AV->Bool
 |.f x=>x.isCell
 |.ptr _ _=>ai
 |.sl _ _ _=>ai
 |.row _ _ _=>ai
 |.mp _=>ai
 |.emp=>ai
 |.clo _ _=>ai
 |_=>aj
inductive nS (O:Nat->Prop) (w:World):FV->Value->Prop
 |raw (v:Value):nS O w (.raw v) v
 |nil (a:Option Addr) (c:Nat) (hc:c<=maxLen):nS O w (.sl [] 0) (.slice a 0 c)
 |sl (cells:List FV) (n c b off:Nat) (us:Nat->Value) (hn:n<=c) (hc:c<=maxLen) (hO:¬O b) (hb:b<w.heap.size)
   (hcl:∀x∈cells,x.isCell=ai)
   (hu:∀j,j<cells.length->w.cell? ⟨b,off+j,ah⟩=af (us j)) (hr:∀(j:Nat) x,cells[j]? =af x->nS O w x (us j)):
   nS O w (.sl cells n) (.slice (af ⟨b,off,ah⟩) n c)
 |ptr (cells:List FV) (o b off:Nat) (us:Nat->Value) (hO:¬O b) (hb:b<w.heap.size)
   (hcl:∀x∈cells,x.isCell=ai)
   (hu:∀j,j<cells.length->w.cell? ⟨b,off+j,ah⟩=af (us j)) (hr:∀(j:Nat) x,cells[j]? =af x->nS O w x (us j)):
   nS O w (.ptr cells o) (.pointer (af ⟨b,off+o,ah⟩))
 |agg (cells:List FV) (vs:ξ) (hl:vs.length=cells.length) (hcl:∀x∈cells,x.isCell=ai)
   (hr:∀(j:Nat) x v,cells[j]? =af x->vs[j]? =af v->nS O w x v):nS O w (.agg cells) (.agg vs.toArray)
abbrev PM:=Nat->Option Nat
inductive cV (φ:PM) (O:Nat->Prop) (w:World):AV->Value->Prop
 |f {x:FV} {v:Value} (h:nS O w x v):cV φ O w (.f x) v
 |ptr {id off b:Nat} (h:φ id=af b):cV φ O w (.ptr id off) (.pointer (af ⟨b,off,ah⟩))
 |sl {id off n c b:Nat} (h:φ id=af b) (hn:n<=c) (hc:c<=maxLen):cV φ O w (.sl id off n) (.slice (af ⟨b,off,ah⟩) n c)
 |row {id sz n c b:Nat} (h:φ id=af b) (hn:n<=c) (hc:c<=maxLen) (hs:∃ty,w.shape? b=af (ty,c*sz)):
   cV φ O w (.row id sz n) (.slice (af ⟨b,0,ah⟩) n c)
 |emp {a:Option Addr}:cV φ O w .emp (.slice a 0 0)
 |anyb {b:Bool}:cV φ O w .anyb (.bool b)
 |mp {id b:Nat} (h:φ id=af b):cV φ O w (.mp id) (.map (af b))
 |agg {cells:List AV} {vs:ξ} (hl:vs.length=cells.length) (hcl:∀x∈cells,x.isCell=ai)
   (hr:∀(j:Nat) x v,cells[j]? =af x->vs[j]? =af v->cV φ O w x v):cV φ O w (.agg cells) (.agg vs.toArray)
 |tup {cells:List AV} {vs:ξ} (hl:vs.length=cells.length)
   (hr:∀(j:Nat) x v,cells[j]? =af x->vs[j]? =af v->cV φ O w x v):cV φ O w (.tup cells) (.tuple vs.toArray)
 |clo {g:FuncId} {cells:List AV} {vs:ξ} (hl:vs.length=cells.length)
   (hr:∀(j:Nat) x v,cells[j]? =af x->vs[j]? =af v->cV φ O w x v):cV φ O w (.clo g cells) (.func (.func g) #[] vs.toArray)
structure LX (O:Nat->Prop) (w w':World):Prop where
 os:w'.os=w.os
 tape:w'.tape=w.tape
 output:w'.output=w.output
 size:w.heap.size<=w'.heap.size
 blk:∀k,k<w.heap.size->¬O k->w'.heap[k]? =w.heap[k]?
 shp:∀k,k<w.heap.size->w'.shape? k=w.shape? k
theorem LX.refl (O:Nat->Prop) (w:World):LX O w w:=⟨rfl,rfl,rfl,bV _,λ_ _ _=>rfl,λ_ _=>rfl⟩
theorem Ew {w w':World} {b:Nat} (h:w'.heap[b]? =w.heap[b]?) (o:Nat):w'.cell? ⟨b,o,ah⟩=w.cell? ⟨b,o,ah⟩:=by
 unfold ON;rw[h]
theorem nS.ext {O O':Nat->Prop} {w w':World} (he:LX O w w') (J:∀k,k<w.heap.size->O' k->O k) {x:FV} {v:Value} (h:nS O w x v):nS O' w' x v:=by
 induction h with
 |raw v=>exact .raw v
 |nil a c hc=>exact .nil a c hc
 |sl cells n c b off us hn hc hO hb hcl hu hr I=>
  exact .sl cells n c b off us hn hc (λh=>hO (J b hb h)) (dH hb he.size) hcl (λj hj=>by rw[Ew (he.blk b hb hO)];exact hu j hj) I
 |ptr cells o b off us hO hb hcl hu hr I=>
  exact .ptr cells o b off us (λh=>hO (J b hb h)) (dH hb he.size) hcl (λj hj=>by rw[Ew (he.blk b hb hO)];exact hu j hj) I
 |agg cells vs hl hcl hr I=>exact .agg cells vs hl hcl I
theorem cV.ext {φ φ':PM} {O O':Nat->Prop} {w w':World} (hs:∀i k,φ i=af k->φ' i=af k) (he:LX O w w') (J:∀k,k<w.heap.size->O' k->O k) {x:AV} {v:Value} (h:cV φ O w x v):cV φ' O' w' x v:=by
 induction h with
 |f h=>exact .f (h.ext he J)
 |ptr h=>exact .ptr (hs _ _ h)
 |sl h hn hc=>exact .sl (hs _ _ h) hn hc
 |row h hn hc hsh=>
  obtain⟨ty,hty⟩:=hsh;refine .row (hs _ _ h) hn hc ⟨ty,?_⟩;rw[he.shp _ ?_];exact hty;unfold sw at hty;rcases ci _ w.heap.size with hlt|hge
  .exact hlt
  .rw[Array.getElem?_eq_none hge]at hty;cases hty
 |emp=>exact .emp
 |anyb=>exact .anyb
 |mp h=>exact .mp (hs _ _ h)
 |agg hl hcl hr I=>exact .agg hl hcl I
 |tup hl hr I=>exact .tup hl I
 |clo hl hr I=>exact .clo hl I
inductive BC where
 |fz (l:List FV)
 |mx (l:List AV)
 |mp (es:List (Value×AV))
 |it (s:ByteArray) (pos:Nat)
def BC.get:BC->Nat->Option AV
 |.fz l,j=>l[j]?.map AV.f
 |.mx l,j=>l[j]?
 |_,_=>ah
def BC.len:BC->Nat
 |.fz l=>l.length
 |.mx l=>l.length
 |_=>0
def BC.isCells:BC->Bool
 |.fz _=>ai
 |.mx _=>ai
 |_=>aj
structure xE where
 ty:TypeId
 c:BC
abbrev HF:=Nat->Option xE
def own (φ:PM) (h:HF) (k:Nat):Prop:=∃id b,h id=af b/\φ id=af k
def tot (E:Nat->Prop) (φ:PM) (h:HF) (k:Nat):Prop:=E k\/own φ h k
def wg (φ:PM) (O:Nat->Prop) (w:World) (c:BC) (arr:Array Value):Prop:=
 c.len<=arr.size/\∀j x,c.get j=af x->x.isCell=ai/\∃v,arr[j]? =af v/\cV φ O w x v
def jD (φ:PM) (O:Nat->Prop) (w:World) (b:xE) (o:Obj):Prop:=
 match b.c with
 |.mp es=>∃ents clock,o= .map ents clock/\ents.toList.map (·.key)=es.map (·.1)/\∀(j:Nat) x,es[j]? =af x->∃m,ents[j]? =af m/\cV φ O w x.2 m.val
 |.it s p=>o= .stringIter s p
 |c=>∃arr,o= .cells arr b.ty (0,0)/\wg φ O w c arr
def Y0 (φ:PM) (O:Nat->Prop) (w:World) (k:Nat) (b:xE):Prop:=∃o,w.heap[k]? =af o/\jD φ O w b o
theorem Y0.cells {φ:PM} {O:Nat->Prop} {w:World} {k:Nat} {b:xE} (h:Y0 φ O w k b) (hc:b.c.isCells=ai):
 ∃arr,w.heap[k]? =af (.cells arr b.ty (0,0))/\wg φ O w b.c arr:=by
 obtain⟨o,h1,h2⟩:=h;unfold jD at h2;cases hb:b.c with
 |fz l=>rw[hb]at h2;obtain⟨arr,rfl,I⟩:=h2;exact⟨arr,h1,I⟩
 |mx l=>rw[hb]at h2;obtain⟨arr,rfl,I⟩:=h2;exact⟨arr,h1,I⟩
 |mp _=>rw[hb]at hc;cases hc
 |it _ _=>rw[hb]at hc;cases hc
theorem jD.mono {φ φ':PM} {O O':Nat->Prop} {w w':World} (hk:∀x v,cV φ O w x v->cV φ' O' w' x v) {b:xE} {o:Obj} (h:jD φ O w b o):jD φ' O' w' b o:=by
 unfold jD at h ⊢;cases hb:b.c with
 |fz l=>rw[hb]at h;obtain⟨arr,h1,h2,J⟩:=h;exact⟨arr,h1,h2,λj x I=>by obtain⟨a,v,c,d⟩:=J j x I;exact⟨a,v,c,hk _ _ d⟩⟩
 |mx l=>rw[hb]at h;obtain⟨arr,h1,h2,J⟩:=h;exact⟨arr,h1,h2,λj x I=>by obtain⟨a,v,c,d⟩:=J j x I;exact⟨a,v,c,hk _ _ d⟩⟩
 |mp es=>rw[hb]at h;obtain⟨e,c,h1,h2,J⟩:=h;exact⟨e,c,h1,h2,λj x I=>by obtain⟨m,a,b⟩:=J j x I;exact⟨m,a,hk _ _ b⟩⟩
 |it s p=>rw[hb]at h;exact h
theorem wg.mono {φ φ':PM} {O O':Nat->Prop} {w w':World} (hk:∀x v,cV φ O w x v->cV φ' O' w' x v) {c:BC} {arr:Array Value} (h:wg φ O w c arr):wg φ' O' w' c arr:=
 ⟨h.1,λj x I=>by obtain⟨a,v,c,d⟩:=h.2 j x I;exact⟨a,v,c,hk _ _ d⟩⟩
def vw (l:ζ):FV:=.raw (.string ⟨l.toArray⟩)
def Dt:List FV:=[vw [118,97,114],vw [118,111,108,97,116,105,108,101],vw [109,117,116,101,120],vw [114,119,108,111,99,107],vw [99,111,110,100],vw [102,117,116,117,114,101],vw [116,104,114,101,97,100],vw [105,102],vw [101,108,115,101],vw [119,104,105,108,101],vw [108,111,99,107],vw [114,101,97,100],vw [119,114,105,116,101],vw [116,114,97,110,115,97,99,116,105,111,110],vw [97,116,111,109,105,99],vw [119,97,105,116],vw [110,111,116,105,102,121],vw [110,111,116,105,102,121,97,108,108],vw [115,112,97,119,110],vw [106,111,105,110],vw [115,101,116],vw [103,101,116]]
def G (g:Nat):Option (List FV):=if g==0 then af Dt else ah
structure rH (φ:PM) (E:Nat->Prop) (h:HF) (w:World):Prop where
 inj:∀i j b b' k,h i=af b->h j=af b'->φ i=af k->φ j=af k->i=j
 at_:∀i b,h i=af b->∃k,φ i=af k/\¬E k/\Y0 φ (tot E φ h) w k b
 el:∀k,E k->k<w.heap.size
 gl:∀g cells,G g=af cells->nS (tot E φ h) w (.ptr cells 0) (.pointer (af ⟨g,0,ah⟩))
structure jm (φ φ':PM) (h h':HF) (w w':World):Prop where
 sub:∀i k,φ i=af k->φ' i=af k
 ext:LX (own φ h) w w'
 own_:∀k,k<w.heap.size->own φ' h' k->own φ h k
theorem jm.refl (φ:PM) (h:HF) (w:World):jm φ φ h h w w:=⟨λ_ _ h=>h,LX.refl _ _,λ_ _ h=>h⟩
theorem jm.trans {φ φ' φ'':PM} {h h' h'':HF} {w w' w'':World} (m:jm φ φ' h h' w w') (n:jm φ' φ'' h' h'' w' w''):jm φ φ'' h h'' w w'' where
 sub:=λi k e=>n.sub i k (m.sub i k e)
 ext:=⟨n.ext.os.trans m.ext.os,n.ext.tape.trans m.ext.tape,n.ext.output.trans m.ext.output,du m.ext.size n.ext.size,
  λk hk I=>(n.ext.blk k (dH hk m.ext.size) (λh=>I (m.own_ k hk h))).trans (m.ext.blk k hk I),
  λk hk=>(n.ext.shp k (dH hk m.ext.size)).trans (m.ext.shp k hk)⟩
 own_:=λk hk h=>m.own_ k hk (n.own_ k (dH hk m.ext.size) h)
theorem LX.mono {O O':Nat->Prop} {w w':World} (h:LX O w w') (I:∀k,O k->O' k):LX O' w w':=
 ⟨h.os,h.tape,h.output,h.size,λk hk hO=>h.blk k hk (λx=>hO (I k x)),h.shp⟩
theorem jm.keep {φ φ':PM} {h h':HF} {w w':World} (m:jm φ φ' h h' w w') {E:Nat->Prop} {x:AV} {v:Value} (r:cV φ (tot E φ h) w x v):cV φ' (tot E φ' h') w' x v:=
 r.ext m.sub (m.ext.mono λ_ h=>.inr h) λk hk I=>I.elim .inl λo=>.inr (m.own_ k hk o)
theorem jm.keepF {φ φ':PM} {h h':HF} {w w':World} (m:jm φ φ' h h' w w') {E:Nat->Prop} {x:FV} {v:Value} (r:nS (tot E φ h) w x v):nS (tot E φ' h') w' x v:=
 r.ext (m.ext.mono λ_ h=>.inr h) λk hk I=>I.elim .inl λo=>.inr (m.own_ k hk o)
abbrev EF:=Nat->Option AV
def OJ (φ:PM) (O:Nat->Prop) (w:World) (e:EF) (a:Act):Prop:=∀t x,e t=af x->cV φ O w x (a.tmps.getD t undef)
def Dh (e:EF) (dst:Option Nat) (x:AV):EF:=λt=>if dst=af t then af x else e t
def fd (h:HF) (wr:ι) (nw:HF):HF:=λi=>if i∈wr then nw i else h i
structure B5 where
 val:AV
 rd:ι
 wr:ι
 nw:HF
 N:ι
def gZ (P:Program) (o:Oper) (e:EF) (h:HF) (f:B5):Prop:=
 ∀(φ:PM) (E:Nat->Prop) (h':HF) (w:World) (a:Act),(∀i∈f.rd,h' i=h i)->(∀i∈f.wr,h' i=h i)->
  (∀t,.tmp t∈o.op.operands->∀y,e t=af y->cV φ (tot E φ h') w y (a.tmps.getD t undef))->rH φ E h' w->(∀n∈f.N,φ n=ah)->
  o.wp P a w (λa' w'=>∃v φ',a'=a.put o.dst v/\jm φ φ' h' (fd h' f.wr f.nw) w w'/\(∀i k,φ' i=af k->φ i=af k\/i∈f.N)/\
   rH φ' E (fd h' f.wr f.nw) w'/\cV φ' (tot E φ' (fd h' f.wr f.nw)) w' f.val v) (λ_ _ _=>False)
def sB:B5:=⟨.f (.raw undef),[],[],λ_=>ah,[]⟩
inductive LJ (P:Program) (ops:Array Oper) (o:Oper) (f:B5) (e:EF) (h:HF):Prop
 |run (hg:o.guard=ah) (ht:gZ P o e h f)
 |runG (j t:Nat) (want:Bool) (hg:o.guard=af (j,want)) (hj:(ops[j]?).bind (·.dst)=af t) (he:e t=af (.f (.raw (.bool want)))) (ht:gZ P o e h f)
 |skip (j t:Nat) (want:Bool) (hg:o.guard=af (j,want)) (hj:(ops[j]?).bind (·.dst)=af t) (v:Value) (he:e t=af (.f (.raw v))) (hv:v≠ .bool want) (hf:f=sB)
inductive AC (P:Program) (ops:Array Oper):List (Oper×B5)->EF->HF->EF->HF->Prop
 |nil (e:EF) (h:HF):AC P ops [] e h e h
 |cons {o:Oper} {f:B5} {r:List (Oper×B5)} {e e':EF} {h h':HF} (hs:LJ P ops o f e h)
   (hr:AC P ops r (Dh e o.dst f.val) (fd h f.wr f.nw) e' h'):AC P ops ((o,f)::r) e h e' h'
def L_ (S:Nat->Bool):Nat->List (Oper×B5)->EF->EF
 |_,[],e=>e
 |k,(o,f)::r,e=>L_ S (k+1) r (if S k then Dh e o.dst f.val else e)
def CY (S:Nat->Bool):Nat->List (Oper×B5)->HF->HF
 |_,[],h=>h
 |k,(_,f)::r,h=>CY S (k+1) r (if S k then fd h f.wr f.nw else h)
theorem EY {S S':Nat->Bool} {t:Nat}:∀(l:List (Oper×B5)) (k:Nat) (e e':EF),e t=e' t->
 (∀(j:Nat) o f,l[j]? =af (o,f)->o.dst=af t->S (k+j)=S' (k+j))->L_ S k l e t=L_ S' k l e' t
 |[],_,_,_,he,_=>he
 |(o,f)::r,k,e,e',he,I=>by
  simp only[L_];refine EY r (k+1) _ _ ?_ (λj o f hj hd=>by have:=I (j+1) o f (by simpa using hj) hd;rwa [show k+(j+1)=k+1+j from by omega]at this);by_cases hd:o.dst=af t
  .rw[show S k=S' k from by simpa using I 0 o f rfl hd];split
   .simp[Dh,hd]
   .exact he
  .split<;>split<;>simp[Dh,hd,he]
theorem EX {S S':Nat->Bool} {t:Nat}:∀(l:List (Oper×B5)) (k:Nat) (e e':HF),e t=e' t->
 (∀(j:Nat) o f,l[j]? =af (o,f)->t∈f.wr->S (k+j)=S' (k+j))->CY S k l e t=CY S' k l e' t
 |[],_,_,_,he,_=>he
 |(o,f)::r,k,e,e',he,I=>by
  simp only[CY];refine EX r (k+1) _ _ ?_ (λj o f hj hd=>by have:=I (j+1) o f (by simpa using hj) hd;rwa [show k+(j+1)=k+1+j from by omega]at this);by_cases hd:t∈f.wr
  .rw[show S k=S' k from by simpa using I 0 o f rfl hd];split
   .simp[fd,hd]
   .exact he
  .split<;>split<;>simp[fd,hd,he]
theorem C9 {S:Nat->Bool} {t:Nat}:∀(l:List (Oper×B5)) (k:Nat) (e:EF),(∀(j:Nat) o f,l[j]? =af (o,f)->o.dst=af t->S (k+j)=aj)->L_ S k l e t=e t
 |[],_,_,_=>rfl
 |(o,f)::r,k,e,I=>by
  simp only[L_];rw[C9 r (k+1) _ (λj o f hj hd=>by have:=I (j+1) o f (by simpa using hj) hd;rwa [show k+(j+1)=k+1+j from by omega]at this)];split
  .rename_i h;unfold Dh;rw[aA];intro hd;have:=I 0 o f rfl hd;simp_all
  .rfl
theorem C8 {S:Nat->Bool} {t:Nat}:∀(l:List (Oper×B5)) (k:Nat) (e:HF),(∀(j:Nat) o f,l[j]? =af (o,f)->t∈f.wr->S (k+j)=aj)->CY S k l e t=e t
 |[],_,_,_=>rfl
 |(o,f)::r,k,e,I=>by
  simp only[CY];rw[C8 r (k+1) _ (λj o f hj hd=>by have:=I (j+1) o f (by simpa using hj) hd;rwa [show k+(j+1)=k+1+j from by omega]at this)];split
  .rename_i h;unfold fd;rw[aA];intro hd;have:=I 0 o f rfl hd;simp_all
  .rfl
theorem Rm {S:Nat->Bool} {t:Nat}:∀(l:List (Oper×B5)) (k i:Nat) (e:EF) (o:Oper) (f:B5),l[i]? =af (o,f)->o.dst=af t->S (k+i)=ai->
 (∀(j:Nat) o' f',i<j->l[j]? =af (o',f')->o'.dst=af t->S (k+j)=aj)->L_ S k l e t=af f.val
 |[],_,_,_,_,_,h,_,_,_=>by simp at h
 |(o',f')::r,k,0,e,o,f,h,hd,I,hl=>by
  simp only[rz,ak,aE]at h;obtain⟨rfl,rfl⟩:=h;simp only[L_];rw[C9 r (k+1) _ (λj o f hj hd=>by have:=hl (j+1) o f (by omega) (by simpa using hj) hd;rwa [show k+(j+1)=k+1+j from by omega]at this)];simp at I;simp[I,Dh,hd]
 |(o',f')::r,k,i+1,e,o,f,h,hd,I,hl=>by
  simp only[L_];exact Rm r (k+1) i _ o f (by simpa using h) hd (by rwa [show k+1+i=k+(i+1) from by omega])
   (λj o f hij hj hd=>by have:=hl (j+1) o f (by omega) (by simpa using hj) hd;rwa [show k+(j+1)=k+1+j from by omega]at this)
theorem Rl {S:Nat->Bool} {t:Nat}:∀(l:List (Oper×B5)) (k i:Nat) (e:HF) (o:Oper) (f:B5),l[i]? =af (o,f)->t∈f.wr->S (k+i)=ai->
 (∀(j:Nat) o' f',i<j->l[j]? =af (o',f')->t∈f'.wr->S (k+j)=aj)->CY S k l e t=f.nw t
 |[],_,_,_,_,_,h,_,_,_=>by simp at h
 |(o',f')::r,k,0,e,o,f,h,hd,I,hl=>by
  simp only[rz,ak,aE]at h;obtain⟨rfl,rfl⟩:=h;simp only[CY];rw[C8 r (k+1) _ (λj o f hj hd=>by have:=hl (j+1) o f (by omega) (by simpa using hj) hd;rwa [show k+(j+1)=k+1+j from by omega]at this)];simp at I;simp[I,fd,hd]
 |(o',f')::r,k,i+1,e,o,f,h,hd,I,hl=>by
  simp only[CY];exact Rl r (k+1) i _ o f (by simpa using h) hd (by rwa [show k+1+i=k+(i+1) from by omega])
   (λj o f hij hj hd=>by have:=hl (j+1) o f (by omega) (by simpa using hj) hd;rwa [show k+(j+1)=k+1+j from by omega]at this)
theorem AC.step {P:Program} {ops:Array Oper}:∀{l:List (Oper×B5)} {e e':EF} {h h':HF} (_:AC P ops l e h e' h') (k i:Nat) (o:Oper) (f:B5),l[i]? =af (o,f)->
 LJ P ops o f (L_ (λj=>decide (j<k+i)) k l e) (CY (λj=>decide (j<k+i)) k l h):=by
 intro l e e' h h' hc;induction hc with
 |nil=>intro k i o f hi;simp at hi
 |@cons o1 I r e e' h h' hs hr J=>
  intro k i o f hi;cases i with
  |zero=>
   simp only[rz,ak,aE]at hi;obtain⟨rfl,rfl⟩:=hi;have e1:L_ (λj=>decide (j<k+0)) k ((o1,I)::r) e=e:=by
    funext t;rw[C9];intro j o f _ _;simp
   have e2:CY (λj=>decide (j<k+0)) k ((o1,I)::r) h=h:=by
    funext t;rw[C8];intro j o f _ _;simp
   rw[e1,e2];exact hs
  |succ i=>
   have:=J (k+1) i o f (by simpa using hi);simp only[L_,CY];rw[show k+(i+1)=k+1+i from by omega];simpa[show k<k+1+i from by omega] using this
theorem AC.final {P:Program} {ops:Array Oper}:∀{l:List (Oper×B5)} {e e':EF} {h h':HF} (_:AC P ops l e h e' h') (k:Nat) (S:Nat->Bool),(∀j,j<l.length->S (k+j)=ai)->
 L_ S k l e=e'/\CY S k l h=h':=by
 intro l e e' h h' hc;induction hc with
 |nil=>intro k S _;exact⟨rfl,rfl⟩
 |@cons o1 M r e e' h h' hs hr J=>
  intro k S I;have h0:S k=ai:=by simpa using I 0 (by simp)
  simp only[L_,CY,h0,bI];exact J (k+1) S (λj hj=>by have:=I (j+1) (by simpa using hj);rwa [show k+(j+1)=k+1+j from by omega]at this)
theorem Re {P:Program} {o:Oper} {a:Act} {w:World} {K K':Act->World->Prop} {Q:Exit->Act->World->Prop} (h:∀a w,K a w->K' a w)
 (hh:o.wp P a w K (λ_ _ _=>False)):o.wp P a w K' Q:=by
 unfold In at*
 generalize (execOp a.eval o).run P w=r at*
 cases r with
 |ok n w'=>
  cases n<;>simp only[Oper.upon]at hh ⊢<;>
   first
    |exact h _ _ hh
    |exact Calls.mono hh (λe w'' he=>by
      cases e with
      |returned v=>exact h _ _ he
      |panicked c=>exact he.elim
      |outgrown=>obtain⟨_,_,h⟩:=he;exact h.elim)
    |exact Rows.mono hh (λ_ _ he=>h _ _ he)
 |halt x w'=>cases x<;>simp only[Oper.upon]at hh ⊢<;>first|exact hh.elim|exact hh
inductive Bef (ops:Array Oper):Nat->Nat->Prop
 |one {j:Nat} {o:Oper} {e:Edge} (h:ops[j]? =af o) (he:e∈o.after) (hb:AD .any e=ai):Bef ops j e.on
 |more {j i:Nat} {o:Oper} {e:Edge} (h:ops[j]? =af o) (he:e∈o.after) (hb:AD .any e=ai) (hi:Bef ops e.on i):Bef ops j i
structure NIP (ops:Array Oper) (l:List (Oper×B5)):Prop where
 edge:∀(j:Nat) o,ops[j]? =af o->∀e∈o.after,AD .any e=ai->e.on<j
 pair:∀(i j:Nat) oi fi oj fj,i<j->l[i]? =af (oi,fi)->l[j]? =af (oj,fj)->Bef ops j i\/
  (oi.apart ops oj=ai/\(∀x∈fi.wr,x∉fj.rd/\x∉fj.wr)/\(∀x∈fj.wr,x∉fi.rd))
 names:∀(i j:Nat) oi fi oj fj,i<j->l[i]? =af (oi,fi)->l[j]? =af (oj,fj)->∀n∈fi.N,n∉fj.N
def Gf (ops:Array Oper) (listed:Array Bool):Prop:=∀(j:Nat) o,ops[j]? =af o->listed.getD j aj=ai->∀e∈o.after,AD .any e=ai->listed.getD e.on aj=ai
theorem Gf.bef {ops:Array Oper} {listed:Array Bool} (hc:Gf ops listed) {j i:Nat} (h:Bef ops j i):listed.getD j aj=ai->listed.getD i aj=ai:=by
 induction h with
 |one h he hb=>intro hj;exact hc _ _ h hj _ he hb
 |more h he hb hi I=>intro hj;exact I (hc _ _ h hj _ he hb)
theorem Y_ {ops:Array Oper} {listed:Array Bool} (hc:Gf ops listed) {j i:Nat} {o:Oper} (I:ops[j]? =af o) (hr:∀e∈o.after,AD .any e=ai->listed.getD e.on aj=ai) (h:Bef ops j i):listed.getD i aj=ai:=by
 cases h with
 |one h he hb=>rw[h]at I;cases I;exact hr _ he hb
 |more h he hb hi=>rw[h]at I;cases I;exact hc.bef hi (hr _ he hb)
theorem tF {listed:Array Bool} {j:Nat} (h:listed.getD j ai=aj):listed.getD j aj=aj/\j<listed.size:=by
 rcases ci j listed.size with h1|h1
 .simp[h1]at h ⊢;exact h
 .simp[Array.getElem?_eq_none h1]at h
def StP (φ0:PM) (E:Nat->Prop) (e0:EF) (h0:HF) (w0:World) (a0:Act) (l:List (Oper×B5)) (S:Nat->Bool) (a:Act) (w:World):Prop:=
 ∃φ,jm φ0 φ h0 (CY S 0 l h0) w0 w/\(∀i k,φ i=af k->φ0 i=af k\/∃(j:Nat) (o:Oper) (f:B5),S j=ai/\l[j]? =af (o,f)/\i∈f.N)/\
  rH φ E (CY S 0 l h0) w/\OJ φ (tot E φ (CY S 0 l h0)) w (L_ S 0 l e0) a/\a.defers=a0.defers/\a.tmps.size=a0.tmps.size
theorem Jc {a:Act} {dst:Option Tmp} {v:Value} {t:Nat} (hd:∀d,dst=af d->d<a.tmps.size):(a.put dst v).tmps.getD t undef=if dst=af t then v else a.tmps.getD t undef:=by
 cases dst with
 |none=>simp[OR]
 |some d=>
  by_cases h:d=t
  .subst h;simp[OR,hd d rfl]
  .simp[OR,h,qu h]
theorem RD {a:Act} {dst:Option Tmp} {v:Value}:(a.put dst v).tmps.size=a.tmps.size:=by cases dst<;>simp[OR]
theorem Jd {a:Act} {dst:Option Tmp} {v:Value}:(a.put dst v).defers=a.defers:=by cases dst<;>rfl
theorem ack {P:Program} {ops:Array Oper} {l:List (Oper×B5)} {e0 e':EF} {h0 h':HF} {φ0:PM} {E:Nat->Prop} {w0:World} {a0:Act}
 (hl:l.map (·.1)=ops.toList) (hc:AC P ops l e0 h0 e' h') (ni:NIP ops l) (hfr:∀(j:Nat) o f,l[j]? =af (o,f)->∀n∈f.N,φ0 n=ah)
 (hsz:∀(j:Nat) o,ops[j]? =af o->∀d,o.dst=af d->d<a0.tmps.size) {listed:Array Bool} (hcl:Gf ops listed) {i:Nat} (hi:i∈Im .any ops listed) {Q:Exit->Act->World->Prop} {K:Act->World->Prop}
 (hK:∀a w,StP φ0 E e0 h0 w0 a0 l (λj=>(listed.setIfInBounds i ai).getD j aj) a w->K a w) {a:Act} {w:World} (hst:StP φ0 E e0 h0 w0 a0 l (λj=>listed.getD j aj) a w):
 wpOp P ops Q i K a w:=by
 obtain⟨hun,o,ho,hdeps⟩:=mem_ready.1 hi;obtain⟨hnf,hlt⟩:=tF hun;have hln:∀(j:Nat) o',ops[j]? =af o'->∃f,l[j]? =af (o',f):=λj o' h=>by
  have h1:(l.map (·.1))[j]? =af o':=by rw[hl];simpa using h
  rw[ba]at h1;cases hj:l[j]? with
  |none=>rw[hj]at h1;cases h1
  |some p=>rw[hj]at h1;obtain⟨a,b⟩:=p;simp at h1;subst h1;exact⟨b,rfl⟩
 have hnl:∀(j:Nat) o' f,l[j]? =af (o',f)->ops[j]? =af o':=λj o' f h=>by
  have h1:(l.map (·.1))[j]? =af o':=by rw[ba,h];rfl
  rw[hl]at h1;simpa using h1
 obtain⟨f,hf⟩:=hln i o ho;have hord:∀(j:Nat) oj fj,j≠i->l[j]? =af (oj,fj)->(listed.getD j aj=decide (j<i))\/
  (o.apart ops oj=ai\/oj.apart ops o=ai)/\(∀x∈f.wr,x∉fj.rd/\x∉fj.wr)/\(∀x∈fj.wr,x∉f.rd/\x∉f.wr):=by
  intro j oj fj hji hj;rcases ci j i with h|h
  .rcases ni.pair j i oj fj o f h hj hf with hb|⟨h1,h2,h3⟩
   .left;rw[Y_ hcl ho hdeps hb];simp[h]
   .right;exact⟨.inr h1,λx I=>⟨h3 x I,λU=>(h2 x U).2 I⟩,λx I=>h2 x I⟩
  .have h:i<j:=by omega
   rcases ni.pair i j o f oj fj h hf hj with hb|⟨h1,h2,h3⟩
   .left;have:listed.getD j aj=aj:=by
     cases I:listed.getD j aj with
     |false=>rfl
     |true=>have:=hcl.bef hb I;rw[hnf]at this;cases this
    rw[this];simp;omega
   .right;exact⟨.inl h1,λx I=>h2 x I,λx I=>⟨h3 x I,λU=>(h2 x U).2 I⟩⟩
 have J:∀j,(listed.setIfInBounds i ai).getD j aj=if j=i then ai else listed.getD j aj:=λj=>by
  by_cases h:i=j
  .subst h;simp[hlt]
  .rw[getD_set_ne aj h,aA (λe=>h e.symm)]
 have hlater:∀(j:Nat) oj fj,i<j->l[j]? =af (oj,fj)->(listed.getD j aj=aj)\/((o.apart ops oj=ai\/oj.apart ops o=ai)/\(∀x∈f.wr,x∉fj.rd/\x∉fj.wr)):=by
  intro j oj fj hij hj;rcases hord j oj fj (by omega) hj with h|⟨h1,h2,_⟩
  .left;rw[h];simp;omega
  .right;exact⟨h1,h2⟩
 have hdd:∀{x y:Oper},(x.apart ops y=ai\/y.apart ops x=ai)->∀d,x.dst=af d->y.dst≠af d:=by
  intro x y h d hd he;rcases h with h|h
  .exact (Oper.apart_spec h).2.1 d hd he
  .exact (Oper.apart_spec h).2.1 d he hd
 have hlook:∀{x y:Oper},(x.apart ops y=ai\/y.apart ops x=ai)->∀d,y.dst=af d->d∉x.looksAt ops:=by
  intro x y h d hd;rcases h with h|h
  .exact (Oper.apart_spec h).2.2 d hd
  .exact (Oper.apart_spec h).1 d hd
 have heL:∀t,t∈o.looksAt ops->L_ (λj=>listed.getD j aj) 0 l e0 t=L_ (λj=>decide (j<0+i)) 0 l e0 t:=λt ht=>by
  refine EY l 0 e0 e0 rfl λj oj fj hj hd=>?_
  simp only[bR];by_cases hji:j=i
  .subst hji;rw[hnf];simp
  .rcases hord j oj fj hji hj with h|⟨h,_⟩
   .exact h
   .exact cX ht (hlook h t hd)
 have hhL:∀t,t∈f.rd\/t∈f.wr->CY (λj=>listed.getD j aj) 0 l h0 t=CY (λj=>decide (j<0+i)) 0 l h0 t:=λt ht=>by
  refine EX l 0 h0 h0 rfl λj oj fj hj hd=>?_
  simp only[bR];by_cases hji:j=i
  .subst hji;rw[hnf];simp
  .rcases hord j oj fj hji hj with h|⟨_,_,h⟩
   .exact h
   .rcases ht with ht|ht
    .exact cX ht (h t hd).1
    .exact cX ht (h t hd).2
 have hE':∀t,L_ (λj=>(listed.setIfInBounds i ai).getD j aj) 0 l e0 t=if o.dst=af t then af f.val else L_ (λj=>listed.getD j aj) 0 l e0 t:=λt=>by
  by_cases hd:o.dst=af t
  .rw[aD hd];refine Rm l 0 i e0 o f hf hd (by simp[J]) λj o' f' hij hj M=>?_
   simp only[bR,J,aA (show ¬j=i by omega)];rcases hlater j o' f' hij hj with h|⟨h,_⟩
   .exact h
   .exact cX M (hdd h t hd)
  .rw[aA hd];refine EY l 0 e0 e0 rfl λj oj fj hj M=>?_
   simp only[bR,J];rw[aA];intro hji;subst hji;rw[hf]at hj;cases hj;exact hd M
 have Y:CY (λj=>(listed.setIfInBounds i ai).getD j aj) 0 l h0=fd (CY (λj=>listed.getD j aj) 0 l h0) f.wr f.nw:=by
  funext t;unfold fd;by_cases hd:t∈f.wr
  .rw[aD hd];refine Rl l 0 i h0 o f hf hd (by simp[J]) λj o' f' hij hj M=>?_
   simp only[bR,J,aA (show ¬j=i by omega)];rcases hlater j o' f' hij hj with h|⟨_,h⟩
   .exact h
   .exact cX M (h t hd).2
  .rw[aA hd];refine EX l 0 h0 h0 rfl λj oj fj hj M=>?_
   simp only[bR,J];rw[aA];intro hji;subst hji;rw[hf]at hj;cases hj;exact hd M
 obtain⟨φ,hm,hdom,hrep,henv,hdef,hsize⟩:=hst;have hfrN:∀n∈f.N,φ n=ah:=λn hn=>by
  cases I:φ n with
  |none=>rfl
  |some k=>
   rcases hdom n k I with h|⟨j,oj,fj,hSj,hj,hnj⟩
   .rw[hfr i o f hf n hn]at h;cases h
   .have hji:j≠i:=by intro h;subst h;exact cX hSj (by simp only[hnf];simp)
    rcases ci j i with h|h
    .exact cX hn (ni.names j i oj fj o f h hj hf n hnj)
    .exact cX hnj (ni.names i j o f oj fj (by omega) hf hj n hn)
 have hdsz:∀d,o.dst=af d->d<a.tmps.size:=λd hd=>by rw[hsize];exact hsz i o ho d hd
 have main:∀(v:Value) (φ':PM) (w':World),jm φ φ' (CY (λj=>listed.getD j aj) 0 l h0) (fd (CY (λj=>listed.getD j aj) 0 l h0) f.wr f.nw) w w'->
  (∀i k,φ' i=af k->φ i=af k\/i∈f.N)->rH φ' E (fd (CY (λj=>listed.getD j aj) 0 l h0) f.wr f.nw) w'->
  cV φ' (tot E φ' (fd (CY (λj=>listed.getD j aj) 0 l h0) f.wr f.nw)) w' f.val v->K (a.put o.dst v) w':=by
  intro v φ' w' m1 d1 r1 v1;refine hK _ _ ⟨φ',?_,?_,?_,?_,?_,?_⟩
  .rw[Y];exact hm.trans m1
  .intro i' k h;rcases d1 i' k h with h|h
   .rcases hdom i' k h with h|⟨j,oj,fj,hSj,hj,hnj⟩
    .exact .inl h
    .refine .inr ⟨j,oj,fj,?_,hj,hnj⟩;show (listed.setIfInBounds i ai).getD j aj=ai;rw[J j];split
     .rfl
     .exact hSj
   .exact .inr ⟨i,o,f,(J i).trans (by simp),hf,h⟩
  .rw[Y];exact r1
  .rw[Y];intro t x I;rw[hE' t]at I;rw[Jc hdsz];by_cases hd:o.dst=af t
   .rw[aD hd]at I ⊢;cases I;exact v1
   .rw[aA hd]at I ⊢;exact m1.keep (henv t x I)
  .rw[Jd];exact hdef
  .rw[RD];exact hsize
 have hstep:=hc.step 0 i o f hf;have hrun:gZ P o (L_ (λj=>decide (j<0+i)) 0 l e0) (CY (λj=>decide (j<0+i)) 0 l h0) f->o.wp P a w K Q:=by
  intro ht;refine Re ?_ (ht φ E (CY (λj=>listed.getD j aj) 0 l h0) w a (λt h=>hhL t (.inl h)) (λt h=>hhL t (.inr h)) ?_ hrep hfrN)
  .rintro a' w' ⟨v,φ',rfl,m1,d1,r1,v1⟩;exact main v φ' w' m1 d1 r1 v1
  .intro t ht' y hy;refine henv t y ?_;rw[heL t (lE _ (List.mem_filterMap.2 ⟨.tmp t,by simpa using ht',rfl⟩))];exact hy
 have hyield:∀(j t:Nat) (want b:Bool),o.guard=af (j,want)->(ops[j]?).bind (·.dst)=af t->L_ (λj=>decide (j<0+i)) 0 l e0 t=af (.f (.raw (.bool b)))->iU o (yielded ops a.tmps)=(b==want):=by
  intro j t want b hg hj he;rw[<- heL t (n_ _ (by rw[hg];simp[hj]))]at he;have h1:=henv t _ he;have h2:a.tmps.getD t undef= .bool b:=by
   generalize Z:a.tmps.getD t undef=z at h1;cases h1 with
   |f h=>cases h;rfl
  have h3:a.tmps[t]? =af (.bool b):=by
   rw[gR]at h2;cases Z:a.tmps[t]? with
   |none=>rw[Z]at h2;simp[undef]at h2
   |some z=>rw[Z]at h2;simp at h2;rw[h2]
  unfold iU yielded;rw[hg];simp[hj,h3]
 unfold wpOp;simp only[ho];cases hstep with
 |run hg ht=>
  rw[aD (by unfold iU;rw[hg])];exact .inl (hrun ht)
 |runG j t want hg hj he ht=>
  rw[aD (by rw[hyield j t want want hg hj he];simp)];exact .inl (hrun ht)
 |skip j t want hg hj v he hv hf'=>
  have hnw:iU o (yielded ops a.tmps)=aj:=by
   rw[<- heL t (n_ _ (by rw[hg];simp[hj]))]at he;have h1:=henv t _ he;have h2:a.tmps.getD t undef=v:=by
    generalize a.tmps.getD t undef=z at h1;cases h1 with
    |f h=>cases h;rfl
   unfold iU yielded;rw[hg];simp only[hj,aI];rw[gR]at h2;cases Z:a.tmps[t]? with
   |none=>simp
   |some z=>
    rw[Z]at h2;simp at h2;subst h2;cases z<;>simp at hv ⊢;exact hv
  rw[aA (by rw[hnw];simp)];subst hf';have hu:fd (CY (λj=>listed.getD j aj) 0 l h0) sB.wr sB.nw=CY (λj=>listed.getD j aj) 0 l h0:=by
   funext t;simp[fd,sB]
  refine main undef φ w ?_ (λ_ _ h=>.inl h) ?_ ?_
  .rw[hu];exact jm.refl _ _ _
  .rw[hu];exact hrep
  .exact .f (.raw _)
theorem Z5 {l:θ}:∀{i:Nat},l[i]? =af aj->(l.set i ai).countP id=l.countP id+1:=by
 induction l with
 |nil=>intro i h;simp at h
 |cons b l I=>
  intro i h;cases i with
  |zero=>simp at h;subst h;simp
  |succ i=>
   simp only[List.set_cons_succ,List.countP_cons];rw[I (by simpa using h)];omega
theorem QQ {l:θ} (h:l.length<=l.countP id):∀(j:Nat),j<l.length->l[j]? =af ai:=by
 have h1:l.countP id=l.length:=Nat.le_antisymm List.countP_le_length h;rw[List.countP_eq_length]at h1;intro j hj;rw[aB hj];simpa using h1 _ (vH hj)
theorem Xi {ops:Array Oper} {l:List (Oper×B5)} (J:NIP ops l) {listed:Array Bool} (hs:listed.size=ops.size) (hr:Im .any ops listed=[]):
 ∀(n j:Nat),j<n->j<ops.size->listed.getD j aj=ai:=by
 intro n;induction n with
 |zero=>intro j h;omega
 |succ n M=>
  intro j hj hjs;cases I:listed.getD j aj with
  |true=>rfl
  |false=>
   exfalso;have hmem:j∈Im .any ops listed:=by
    refine mem_ready.2 ⟨?_,ops[j],iv hjs,λe he hb=>?_⟩
    .have:j<listed.size:=by omega
     simp[this]at I ⊢;exact I
    .have h1:=J.edge j _ (iv hjs) e he hb;exact M e.on (by omega) (by omega)
   rw[hr]at hmem;cases hmem
theorem OA {P:Program} {ops:Array Oper} {l:List (Oper×B5)} {e0 e':EF} {h0 h':HF} {φ0:PM} {E:Nat->Prop} {w0:World} {a0:Act}
 (hl:l.map (·.1)=ops.toList) (hc:AC P ops l e0 h0 e' h') (J:NIP ops l) (hfr:∀(j:Nat) o f,l[j]? =af (o,f)->∀n∈f.N,φ0 n=ah)
 (hsz:∀(j:Nat) o,ops[j]? =af o->∀d,o.dst=af d->d<a0.tmps.size) {Q:Exit->Act->World->Prop}
 (U:∀a w,StP φ0 E e0 h0 w0 a0 l (λ_=>ai) a w->Q .normal a w):
 ∀(fuel:Nat) (listed:Array Bool) (a:Act) (w:World),listed.size=ops.size->Gf ops listed->ops.size<=fuel+listed.toList.countP id->
  StP φ0 E e0 h0 w0 a0 l (λj=>listed.getD j aj) a w->wpAny P .any ops Q fuel listed a w:=by
 have hlen:l.length=ops.size:=by have:=gX al hl;simpa using this
 have fin:∀(listed:Array Bool) (a:Act) (w:World),(∀j,j<ops.size->listed.getD j aj=ai)->StP φ0 E e0 h0 w0 a0 l (λj=>listed.getD j aj) a w->Q .normal a w:=by
  intro listed a w hall hst;refine U a w ?_;have h1:=hc.final 0 (λj=>listed.getD j aj) (λj hj=>by simp only[bR];exact hall j (by omega));have h2:=hc.final 0 (λ_=>ai) (λ_ _=>rfl);unfold StP at hst ⊢;rw[h1.1,h1.2]at hst;rw[h2.1,h2.2];obtain⟨φ,m,d,r⟩:=hst;refine ⟨φ,m,λi k h=>?_,r⟩;rcases d i k h with h|⟨j,o,f,_,hj,hn⟩
  .exact .inl h
  .exact .inr ⟨j,o,f,rfl,hj,hn⟩
 intro fuel;induction fuel with
 |zero=>
  intro listed a w hs hcl hcnt hst;have hall:∀j,j<ops.size->listed.getD j aj=ai:=λj hj=>by
   have:=QQ (l:=listed.toList) (by simp only[iG];omega) j (by simp only[iG];omega);rw[cQ]at this;rw[gR,this];rfl
  refine ⟨?_,fin listed a w hall hst⟩;cases hr:Im .any ops listed with
  |nil=>rfl
  |cons i r=>
   have hi:i∈Im .any ops listed:=by rw[hr];simp
   obtain⟨hun,o,I,_⟩:=mem_ready.1 hi;have hnf:=(tF hun).1;rw[hall i (cJ.1 I).1]at hnf;cases hnf
 |succ fuel M=>
  intro listed a w hs hcl hcnt hst;refine ⟨λhr=>fin listed a w (λj hj=>Xi J hs hr (j+1) j (by omega) hj) hst,λi hi=>?_⟩;obtain⟨hun,o,I,hdeps⟩:=mem_ready.1 hi;obtain⟨hnf,hlt⟩:=tF hun;refine ack hl hc J hfr hsz hcl hi (λa' w' h=>M _ a' w' ?_ ?_ ?_ h) hst
  .simpa using hs
  .intro j oj hoj hj e he hb;by_cases hji:i=j
   .subst hji;rw[I]at hoj;cases hoj;exact getD_set_true (hdeps e he hb)
   .rw[getD_set_ne aj hji]at hj;exact getD_set_true (hcl j oj hoj hj e he hb)
  .have h1:listed.toList[i]? =af aj:=by
    rw[cQ,iv hlt];simp[hlt]at hnf;rw[hnf]
   rw[Array.toList_setIfInBounds,Z5 h1];omega
def aqw (φ0:PM) (E:Nat->Prop) (e':EF) (h0 h':HF) (N:ι) (w0:World) (a0:Act) (a:Act) (w:World):Prop:=
 ∃φ,jm φ0 φ h0 h' w0 w/\(∀i k,φ i=af k->φ0 i=af k\/i∈N)/\rH φ E h' w/\OJ φ (tot E φ h') w e' a/\a.defers=a0.defers/\a.tmps.size=a0.tmps.size
theorem jm.drew {φ:PM} {h:HF} (w:World):jm φ φ h h w {w with drawn:=w.drawn+1}:=
 ⟨λ_ _ h=>h,⟨rfl,rfl,rfl,bV _,λ_ _ _=>rfl,λ_ _=>rfl⟩,λ_ _ h=>h⟩
theorem rH.moved {φ:PM} {E:Nat->Prop} {h:HF} {w w':World} (r:rH φ E h w) (m:jm φ φ h h w w') (hk:∀k,own φ h k->w'.heap[k]? =w.heap[k]?):rH φ E h w':=
 ⟨r.inj,λi b hb=>by
   obtain⟨k,h1,h2,o,J,I⟩:=r.at_ i b hb;exact⟨k,h1,h2,o,by rw[hk k ⟨i,b,hb,h1⟩];exact J,I.mono λ_ _ h=>m.keep h⟩,λk hk=>dH (r.el k hk) m.ext.size,
   λg cells hg=>m.keepF (r.gl g cells hg)⟩
theorem RA {P:Program} {ops:Array Oper} {l:List (Oper×B5)} {e0 e':EF} {h0 h':HF} {φ0:PM} {E:Nat->Prop} {w0:World} {a0:Act} {id:Nat} {draw:Bool}
 (hm:P.follows .mixedOrders=ai) (hl:l.map (·.1)=ops.toList) (hc:AC P ops l e0 h0 e' h') (I:NIP ops l) (hfr:∀n∈l.flatMap (λp=>p.2.N),φ0 n=ah)
 (hsz:∀(j:Nat) o,ops[j]? =af o->∀d,o.dst=af d->d<a0.tmps.size) (hrep:rH φ0 E h0 w0) (henv:OJ φ0 (tot E φ0 h0) w0 e0 a0) {Q:Exit->Act->World->Prop}
 (Y:∀a w,aqw φ0 E e' h0 h' (l.flatMap (λp=>p.2.N)) w0 a0 a w->Q .normal a w):(Code.region id ops draw).wp P Q a0 w0:=by
 have hfr':∀(j:Nat) o f,l[j]? =af (o,f)->∀n∈f.N,φ0 n=ah:=λj o f hj n hn=>hfr n (vF.2 ⟨(o,f),bc hj,hn⟩)
 have fin:∀a w,StP φ0 E e0 h0 w0 a0 l (λ_=>ai) a w->Q .normal a w:=by
  rintro a w ⟨φ,m,d,r,en,Z,sz⟩;have h2:=hc.final 0 (λ_=>ai) (λ_ _=>rfl);rw[h2.2]at m r en;rw[h2.1]at en;refine Y a w ⟨φ,m,λi k h=>?_,r,en,Z,sz⟩;rcases d i k h with h|⟨j,o,f,_,hj,hn⟩
  .exact .inl h
  .exact .inr (vF.2 ⟨(o,f),bc hj,hn⟩)
 have st0:∀(w:World),jm φ0 φ0 h0 h0 w0 w->rH φ0 E h0 w->StP φ0 E e0 h0 w0 a0 l (λj=>(oW ops.size aj).getD j aj) a0 w:=by
  intro w m r;have e1:(λj=>(oW ops.size aj).getD j aj)=λ_=>aj:=by
   funext j;rw[gR,Array.getElem?_replicate];split<;>rfl
  rw[e1];have e2:L_ (λ_=>aj) 0 l e0=e0:=by funext t;rw[C9];intros;rfl
  have e3:CY (λ_=>aj) 0 l h0=h0:=by funext t;rw[C8];intros;rfl
  refine ⟨φ0,by rw[e3];exact m,λ_ _ h=>.inl h,by rw[e3];exact r,?_,rfl,rfl⟩;rw[e2,e3];exact λt x U=>m.keep (henv t x U)
 have cl0:Gf ops (oW ops.size aj):=by
  intro j o ho hj;rw[gR,Array.getElem?_replicate]at hj;split at hj<;>simp at hj
 cases draw with
 |true=>
  refine wp_region_any hm ?_;exact OA hl hc I hfr' hsz fin ops.size _ a0 _ (by simp) cl0 (by omega) (st0 _ (jm.drew w0) (hrep.moved (jm.drew w0) λ_ _=>rfl))
 |false=>
  have hany:=OA (E:=E) (w0:=w0) hl hc I hfr' hsz fin ops.size _ a0 w0 (by simp) cl0 (by omega) (st0 _ (jm.refl _ _ _) hrep);refine wp_region ?_;have key:∀(m k:Nat) (listed:Array Bool) (a:Act) (w:World),k+m=ops.size->listed.size=ops.size->(∀j,j<k->listed.getD j aj=ai)->(∀j,k<=j->j<ops.size->listed.getD j ai=aj)->
   wpAny P .any ops Q m listed a w->wpOps P ops Q (List.range' k m) a w:=by
   intro m;induction m with
   |zero=>intro k listed a w hk hs h1 h2 h;simpa[wpOps] using h.2
   |succ m M=>
    intro k listed a w hk hs h1 h2 h;rw[List.range'_succ,wpOps_cons];have hkr:k∈Im .any ops listed:=by
     refine mem_ready.2 ⟨h2 k (bV _) (by omega),ops[k]'(by omega),iv (by omega),λe he hb=>?_⟩;exact h1 _ (I.edge k _ (iv (by omega)) e he hb)
    refine wpOp_mono (λa' w' h'=>M (k+1) (listed.setIfInBounds k ai) a' w' (by omega) (by simpa using hs) ?_ ?_ h') (h.2 k hkr)
    .intro j hj;by_cases hjk:k=j
     .subst hjk;simp[show k<listed.size by omega]
     .rw[getD_set_ne aj hjk];exact h1 j (by omega)
    .intro j hj J;rw[getD_set_ne ai (by omega)];exact h2 j (by omega) J
  have:=key ops.size 0 (oW ops.size aj) a0 w0 (by omega) (by simp) (by intro j hj;omega) (by
   intro j _ hj;rw[gR,Array.getElem?_replicate,aD hj];rfl) hany
  rwa [List.range_eq_range']
inductive PT (α:Type) where
 |leaf
 |node (v:Option α) (l r:PT α)
namespace PT
variable {α:Type}
def get:PT α->Nat->Option α
 |leaf,_=>ah
 |node v l r,n=>match n with
  |0=>v
  |m+1=>if aC (m%2) 0 then get l (m/2) else get r (m/2)
def O4:Nat->PT α->Nat->Option α->PT α
 |0,t,_,_=>t
 |k+1,t,n,x=>match t with
  |leaf=>(match n with
   |0=>node x leaf leaf
   |m+1=>if aC (m%2) 0 then node ah (O4 k leaf (m/2) x) leaf else node ah leaf (O4 k leaf (m/2) x))
  |node v l r=>(match n with
   |0=>node x l r
   |m+1=>if aC (m%2) 0 then node v (O4 k l (m/2) x) r else node v l (O4 k r (m/2) x))
def set (t:PT α) (n:Nat) (x:Option α):PT α:=O4 (n+1) t n x
theorem zY:∀(k:Nat) (t:PT α) (n:Nat) (x:Option α),n<k->∀i,(O4 k t n x).get i=if i=n then x else t.get i
 |0,_,_,_,h,_=>cX h (xH _)
 |k+1,t,n,x,h,i=>by
  cases n with
  |zero=>
   cases t<;>cases i<;>simp[O4,get]
  |succ m=>
   have hm:m/2<k:=by have:=Nat.div_le_self m 2;omega
   cases t with
   |leaf=>
    simp only[O4];cases hb:aC (m%2) 0 with
    |true=>
     have J:m%2=0:=aw hb;simp only[bI];cases i with
     |zero=>simp[get]
     |succ j=>
      simp only[get];cases hj:aC (j%2) 0 with
      |true=>
       have I:j%2=0:=aw hj;simp only[bI];rw[zY k _ _ _ hm];by_cases he:j/2=m/2
       .rw[aD he,aD (by omega)]
       .rw[aA he,aA (by omega)];rfl
      |false=>
       have I:¬j%2=0:=ip hj;simp only[cG,ey];rw[aA (by omega)]
    |false=>
     have J:¬m%2=0:=ip hb;simp only[cG,ey];cases i with
     |zero=>simp[get]
     |succ j=>
      simp only[get];cases hj:aC (j%2) 0 with
      |true=>
       have I:j%2=0:=aw hj;simp only[bI];rw[aA (by omega)]
      |false=>
       have I:¬j%2=0:=ip hj;simp only[cG,ey];rw[zY k _ _ _ hm];by_cases he:j/2=m/2
       .rw[aD he,aD (by omega)]
       .rw[aA he,aA (by omega)];rfl
   |node v l r=>
    simp only[O4];cases hb:aC (m%2) 0 with
    |true=>
     have J:m%2=0:=aw hb;simp only[bI];cases i with
     |zero=>simp[get]
     |succ j=>
      simp only[get];cases hj:aC (j%2) 0 with
      |true=>
       have I:j%2=0:=aw hj;simp only[bI];rw[zY k _ _ _ hm];by_cases he:j/2=m/2
       .rw[aD he,aD (by omega)]
       .rw[aA he,aA (by omega)]
      |false=>
       have I:¬j%2=0:=ip hj;simp only[cG,ey];rw[aA (by omega)]
    |false=>
     have J:¬m%2=0:=ip hb;simp only[cG,ey];cases i with
     |zero=>simp[get]
     |succ j=>
      simp only[get];cases hj:aC (j%2) 0 with
      |true=>
       have I:j%2=0:=aw hj;simp only[bI];rw[aA (by omega)]
      |false=>
       have I:¬j%2=0:=ip hj;simp only[cG,ey];rw[zY k _ _ _ hm];by_cases he:j/2=m/2
       .rw[aD he,aD (by omega)]
       .rw[aA he,aA (by omega)]
theorem get_set (t:PT α) (n:Nat) (x:Option α) (i:Nat):(t.set n x).get i=if i=n then x else t.get i:=zY (n+1) t n x (by omega) i
def mask {β:Type}:PT α->PT β->PT α
 |leaf,_=>leaf
 |node _ _ _,leaf=>leaf
 |node v l r,node u J I=>node (match u with|some _=>v|none=>ah) (mask l J) (mask r I)
def mk:Option α->PT α->PT α->PT α
 |none,leaf,leaf=>leaf
 |v,l,r=>node v l r
def only (m:Nat):Nat->Nat->PT α->PT α
 |_,_,leaf=>leaf
 |a,b,node v l r=>mk (if aN m b then v else ah) (only m (2*a) (a+b) l) (only m (2*a) (2*a+b) r)
def exc (m:Nat):Nat->Nat->PT α->PT α
 |_,_,leaf=>leaf
 |a,b,node v l r=>mk (if aN m b then ah else v) (exc m (2*a) (a+b) l) (exc m (2*a) (2*a+b) r)
def merge (m:Nat):Nat->Nat->PT α->PT α->PT α
 |a,b,leaf,t=>only m a b t
 |a,b,node v l r,leaf=>exc m a b (node v l r)
 |a,b,node v l r,node I M J=>mk (if aN m b then I else v) (merge m (2*a) (a+b) l M) (merge m (2*a) (2*a+b) r J)
def all (p:Nat->α->Bool):Nat->Nat->PT α->Bool
 |_,_,leaf=>ai
 |a,b,node v l r=>(match v with|some x=>p b x|none=>ai)&&all p (2*a) (a+b) l&&all p (2*a) (2*a+b) r
theorem get_all (p:Nat->α->Bool):∀(t:PT α) (a b i:Nat) (x:α),all p a b t=ai->t.get i=af x->p (a*i+b) x=ai
 |leaf,_,_,_,_,_,h=>by simp[get]at h
 |node v l r,a,b,0,x,h,I=>by
  simp only[get]at I;subst I;simp only[all,av]at h;rw[Nat.mul_zero,bR];exact h.1.1
 |node v l r,a,b,j+1,x,h,I=>by
  simp only[all,av]at h;simp only[get]at I;cases hj:aC (j%2) 0 with
  |true=>
   have J:j%2=0:=aw hj;simp only[hj,bI]at I;have key:=get_all p l _ _ _ x h.1.2 I;have:2*a*(j/2)+(a+b)=a*(j+1)+b:=by
    have e:j=2*(j/2):=by omega
    calc 2*a*(j/2)+(a+b)=a*(2*(j/2))+a+b:=by rw[Io 2 a,Nat.mul_assoc];omega
     _=a*(j+1)+b:=by rw[<- e,Nat.mul_add];omega
   rw[this]at key;exact key
  |false=>
   have J:¬j%2=0:=ip hj;simp only[hj,cG,ey]at I;have key:=get_all p r _ _ _ x h.2 I;have:2*a*(j/2)+(2*a+b)=a*(j+1)+b:=by
    have e:j=2*(j/2)+1:=by omega
    have h2:a*(j+1)=a*(2*(j/2))+2*a:=by
     calc a*(j+1)=a*(2*(j/2)+2):=by rw[show j+1=2*(j/2)+2 from by omega]
      _=a*(2*(j/2))+2*a:=by rw[Nat.mul_add];omega
    have M:2*a*(j/2)=a*(2*(j/2)):=by rw[Io 2 a,Nat.mul_assoc]
    omega
   rw[this]at key;exact key
def dom:Nat->Nat->PT α->Nat->Nat
 |_,_,leaf,acc=>acc
 |a,b,node v l r,acc=>dom (2*a) (a+b) l (dom (2*a) (2*a+b) r (match v with|some _=>acc|||(1<<<b)|none=>acc))
def emp:PT α:=leaf
end PT
abbrev AB:=PT AV
abbrev oH:=PT xE
abbrev NW:=List (Nat×xE)
def AB.put (e:AB):Option Nat->AV->AB
 |none,_=>e
 |some d,x=>e.set d (af x)
def js:NW->HF
 |[],_=>ah
 |(s,x)::r,t=>if aC s t then af x else js r t
theorem acb (e:AB) (d:Option Nat) (x:AV):Dh e.get d x=(e.put d x).get:=by
 funext t;cases d with
 |none=>simp[Dh,AB.put]
 |some d=>
  simp only[Dh,AB.put,PT.get_set,ak];by_cases h:d=t
  .simp[h]
  .rw[aA h,aA (λe=>h e.symm)]
def IP (acc:ι) (s:Nat) (e:Edge):Nat:=if AD .any e then (s|||2^e.on)|||acc.getD e.on 0 else s
def Ly:List Oper->ι->ι
 |[],acc=>acc
 |o::r,acc=>Ly r (acc++[o.after.toList.foldl (IP acc) 0])
theorem Lz {ops:Array Oper} {o:Oper} {k:Nat} {acc:ι} (J:ops[k]? =af o) (M:∀(j:Nat) B,acc[j]? =af B->∀i,B.testBit i=ai->Bef ops j i):
 ∀(es:List Edge) (s:Nat),(∀e∈es,e∈o.after)->(∀i,s.testBit i=ai->Bef ops k i)->∀i,(es.foldl (IP acc) s).testBit i=ai->Bef ops k i
 |[],s,_,hs,i,hi=>hs i hi
 |e::r,s,he,hs,i,hi=>by
  refine Lz J M r (IP acc s e) (λe' h'=>he e' (cM _ h')) (λi hi=>?_) i hi;unfold IP at hi;split at hi
  .rename_i hb;rw[bz,bz,jf,jf]at hi;rcases hi with (hi|hi)|hi
   .exact hs i hi
   .rw[Nat.testBit_two_pow]at hi;have:e.on=i:=by simpa using hi
    subst this;exact .one J (he e (dw ..)) hb
   .refine .more J (he e (dw ..)) hb ?_;rw[ay]at hi;cases I:acc[e.on]? with
    |none=>rw[I]at hi;simp at hi
    |some C=>rw[I]at hi;exact M _ C I i hi
  .exact hs i hi
theorem Oz {ops:Array Oper}:∀(rest:List Oper) (acc:ι),(∀(j:Nat),∀o,rest[j]? =af o->ops[acc.length+j]? =af o)->
 (∀(j:Nat) B,acc[j]? =af B->∀i,B.testBit i=ai->Bef ops j i)->∀(j:Nat) B,(Ly rest acc)[j]? =af B->∀i,B.testBit i=ai->Bef ops j i
 |[],acc,_,I=>I
 |o::r,acc,J,I=>by
  refine Oz r _ (λj o' hj=>?_) ?_
  .rw[bm,c9,show acc.length+1+j=acc.length+(j+1) from by omega];exact J (j+1) o' (by simpa using hj)
  .intro j B hj i hi;rcases ci j acc.length with h|h
   .rw[bM h]at hj;exact I j B hj i hi
   .rw[b7 h]at hj;have M:j-acc.length=0:=by
     rcases L5 (j-acc.length) with h0|h0
     .exact h0
     .rw[bT (by simp;omega)]at hj;cases hj
    have hjl:j=acc.length:=by omega
    subst hjl;simp at hj;subst hj;have hoo:ops[acc.length]? =af o:=by simpa using J 0 o rfl
    rw[<- Array.foldl_toList]at hi;exact Lz hoo I _ 0 (λe he=>by simpa using he) (λi hi=>by simp at hi) i hi
inductive SOp where
 |mv (x:Operand)
 |pick (c a b:Operand)
 |alloc (ty:TypeId) (z:ξ)
 |box (ty:TypeId) (x:Operand)
 |build (z:ξ) (parts:List (Nat×Nat×Operand))
 |bsl (ty:TypeId) (sz len:Nat) (z:ξ) (parts:List (Nat×Nat×Operand))
 |load (sz:Nat) (ag:Bool) (x:Operand)
 |store (sz:Nat) (x v:Operand)
 |nilc (x:Operand)
 |bin (op:BinOp) (x y:Operand)
 |eqs (neg:Bool) (ds:List TypeDesc) (x y:Operand)
 |isnil (neg:Bool) (x:Operand)
 |eqb (neg:Bool) (x y:Operand)
 |not (x:Operand)
 |conv (k:IntKind) (x:Operand)
 |mksl (ty:TypeId) (sz bytes:Nat) (z:ξ) (l c:Operand)
 |slc (sz:Nat) (x:Operand) (lo hi mx:Option Operand)
 |fad (off:Nat) (x:Operand)
 |fld (off sz:Nat) (ag:Bool) (x:Operand)
 |iad (sz:Nat) (x i:Operand)
 |iada (n sz:Nat) (x i:Operand)
 |idx (n sz:Nat) (ag:Bool) (x i:Operand)
 |ext (x:Operand) (i:Nat)
 |len (x:Operand)
 |lens (x:Operand)
 |lenm (x:Operand)
 |max (x y:Operand)
 |min (x y:Operand)
 |sidx (x i:Operand)
 |app (ty:TypeId) (sz bytes:Nat) (s x:Operand)
 |copy (sz:Nat) (d x:Operand)
 |clr (sz:Nat) (z:ξ) (x:Operand)
 |mkf (f:FuncId) (caps:List Operand)
 |mkm
 |lku (str ok:Bool) (z:Value) (x k:Operand)
 |mup (str:Bool) (x k v:Operand)
 |rng (x:Operand)
 |nxt (x:Operand)
 |bad
inductive SI where
 |op (s:SOp)
 |call (f:FuncId) (args:List Operand)
 |callv (x:Operand) (args:List Operand)
def Zh (t:Nat):ι->Bool
 |[]=>aj
 |x::r=>aC x t||Zh t r
def Lu:ξ->Bool
 |[]=>ai
 |v::r=>v.oneCell'&&Lu r
def FZ:Value->AV
 |.agg vs=>if Lu vs.toList then .agg (vs.toList.map λv=>.f (.raw v)) else .f (.raw (.agg vs))
 |v=>.f (.raw v)
def mW (e:AB):Operand->Option AV
 |.tmp t=>e.get t
 |.const v=>af (FZ v)
 |.func g=>af (.clo g [])
 |.global g=>match G g with|some cells=>af (.f (.ptr cells 0))|none=>ah
def Yp (e:AB):List Operand->Option (List AV)
 |[]=>af []
 |x::xs=>match mW e x with|some y=>(match Yp e xs with|some I=>af (y::I)|none=>ah)|none=>ah
structure CU where
 val:AV
 rd:ι
 wr:ι
 nw:NW
 N:ι
def CU.eff (r:CU):B5:=⟨r.val,r.rd,r.wr,js r.nw,r.N⟩
def rv (x:AV):Option CU:=af ⟨x,[],[],[],[]⟩
def raw (v:Value):AV:=.f (.raw v)
def pkV (ok:Bool) (v:AV) (b:Bool):AV:=match ok with|true=>.tup [v,raw (.bool b)]|false=>v
def yD:List AV->Option (List FV)
 |[]=>af []
 |.f x::r=>match yD r with|some l=>af (x::l)|none=>ah
 |_::_=>ah
def pU (l:List AV):BC:=match yD l with|some fs=>.fz fs|none=>.mx l
def NF (l:List AV):AV:=match yD l with|some fs=>.f (.agg fs)|none=>.agg l
def splice {α:Type} (l:List α) (off:Nat) (vs:List α):List α:=l.take off++vs++l.drop (off+vs.length)
def BC.toMx:BC->List AV
 |.fz l=>l.map .f
 |.mx l=>l
 |_=>[]
def gU:List AV->Bool
 |[]=>ai
 |x::r=>x.isCell&&gU r
def BC.put (c:BC) (off:Nat) (vs:List AV):Option BC:=
 if c.isCells&&eU (off+vs.length) c.len&&gU vs then
  match c,yD vs with
  |.fz l,af I=>af (.fz (splice l off I))
  |c,_=>af (.mx (splice c.toMx off vs))
 else ah
def BC.sub? (c:BC) (off sz:Nat):Bool->Option AV
 |false=>match sz with|1=>c.get off|_=>ah
 |true=>match c with
  |.fz l=>if eU (off+sz) l.length then af (.f (.agg ((l.drop off).take sz))) else ah
  |.mx l=>if eU (off+sz) l.length then af (.agg ((l.drop off).take sz)) else ah
  |_=>ah
def AV.cs:AV->List AV
 |.agg l=>l
 |.f (.agg l)=>l.map .f
 |x=>[x]
def EB (h:oH) (sz:Nat) (ag:Bool):AV->Option CU
 |.ptr id off=>match h.get id with
  |some b=>(match b.c.sub? off sz ag with|some v=>af ⟨v,[id],[],[],[]⟩|none=>ah)
  |none=>ah
 |.f (.ptr cells off)=>(match (BC.fz cells).sub? off sz ag with|some v=>rv v|none=>ah)
 |_=>ah
def LA (h:oH) (sz:Nat) (v:AV):AV->Option CU
 |.ptr id off=>match h.get id with
  |some b=>if v.cs.length==sz then (match b.c.put off v.cs with|some c=>af ⟨raw undef,[id],[id],[(id,⟨b.ty,c⟩)],[]⟩|none=>ah) else ah
  |none=>ah
 |_=>ah
def Ac (cells:List AV) (e:AB):List (Nat×Nat×Operand)->Option (List AV)
 |[]=>af cells
 |(off,sz,x)::r=>match mW e x with
  |some v=>if v.cs.length==sz&&eU (off+sz) cells.length&&gU v.cs then Ac (splice cells off v.cs) e r else ah
  |none=>ah
def c_ (a b:Int):Bool:=decide (a<=b)
def gf (a b:Int):Bool:=decide (a<b)
def No (k:IntKind) (n:Int):Int:=
 match k with
 |.i64=>if c_ (-9223372036854775808) n&&c_ n 9223372036854775807 then n else po .i64 n
 |.u8=>if c_ 0 n&&c_ n 255 then n else po .u8 n
 |k=>po k n
def nok:Int->Bool
 |.ofNat k=>aC k k
 |.negSucc k=>aC k k
theorem ao3 (n:Int):nok n=ai:=by cases n<;>exact sx _
def bk (k:IntKind) (n:Int):Int:=bif nok n then No k n else 0
theorem Ip (k:IntKind) (n:Int):bk k n=No k n:=by unfold bk;rw[ao3];rfl
def sM (a b:ByteArray):Bool:=a.data.toList==b.data.toList
def vy (op:BinOp):Value->Value->Option Value
 |.int k a,.int k' b=>if k==k' then
   match op with
   |.add=>af (.int k (bk k (a+b)))
   |.sub=>af (.int k (bk k (a-b)))
   |.mul=>af (.int k (bk k (a*b)))
   |.rem=>if b==0 then ah else af (.int k (a.tmod b))
   |.quo=>if b==0 then ah else af (.int k (bk k (a.tdiv b)))
   |.eql=>af (.bool (a==b))
   |.neq=>af (.bool (a !=b))
   |.lss=>af (.bool (gf a b))
   |.leq=>af (.bool (c_ a b))
   |.gtr=>af (.bool (gf b a))
   |.geq=>af (.bool (c_ b a))
   |_=>ah
  else ah
 |.string a,.string b=>match op with
   |.eql=>af (.bool (sM a b))
   |.neq=>af (.bool !(sM a b))
   |_=>ah
 |_,_=>ah
def ym:TypeDesc->FV->FV->Option Bool
 |.int _,.raw (.int k a),.raw (.int k' b)=>if k==k' then af (a==b) else ah
 |.bool,.raw (.bool a),.raw (.bool b)=>af (a==b)
 |.string,.raw (.string a),.raw (.string b)=>af (sM a b)
 |_,_,_=>ah
def py:List TypeDesc->List FV->List FV->Option Bool
 |[],[],[]=>af ai
 |d::ds,x::xs,y::I=>match ym d x y with
  |some ai=>py ds xs I
  |some aj=>af aj
  |none=>ah
 |_,_,_=>ah
def AV.row? (h:oH) (sz:Nat):AV->Option (List AV×Nat×ι)
 |.f (.sl cells n)=>if eU (n*sz) cells.length then af ((cells.take (n*sz)).map .f,n,[]) else ah
 |.f (.raw (.slice ah 0 0))=>af ([],0,[])
 |.emp=>af ([],0,[])
 |.row id sz' n=>if sz'==sz then (match h.get id with|some b=>if b.c.isCells&&eU (n*sz) b.c.len then af (b.c.toMx.take (n*sz),n,[id]) else ah|none=>ah) else ah
 |.sl id off n=>match h.get id with|some b=>if b.c.isCells&&eU (off+n*sz) b.c.len then af ((b.c.toMx.drop off).take (n*sz),n,[id]) else ah|none=>ah
 |_=>ah
def AV.slen:AV->Option Nat
 |.f (.sl _ n)=>af n
 |.f (.raw (.slice _ n _))=>af n
 |.emp=>af 0
 |.row _ _ n=>af n
 |.sl _ _ n=>af n
 |_=>ah
def a8 (n bytes:Nat):Bool:=eU n 1099511627776&&eU (n*bytes) 1099511627776
def repl (z:ξ):Nat->List FV
 |0=>[]
 |n+1=>z.map .raw++repl z n
def AQ:Value->Bool
 |.slice ah 0 0=>ai
 |_=>aj
def JH:AV->Bool
 |.emp=>ai
 |.f (.raw v)=>AQ v
 |_=>aj
def ua (k:Value):List (Value×AV)->Option (Option AV)
 |[]=>af ah
 |(k',v)::r=>match vy .eql k k' with
  |some (.bool ai)=>af (af v)
  |some (.bool aj)=>ua k r
  |_=>ah
def zO (k:Value) (v:AV):List (Value×AV)->Option (List (Value×AV))
 |[]=>af [(k,v)]
 |(k',I)::r=>match vy .eql k k' with
  |some (.bool ai)=>af ((k,v)::r)
  |some (.bool aj)=>(match zO k v r with|some J=>af ((k',I)::J)|none=>ah)
  |_=>ah
def zQ:Bool->Value->Bool
 |false,.int _ _=>ai
 |true,.string _=>ai
 |_,_=>aj
def eZ (s:SOp) (e:AB) (h:oH) (nx:Nat):Option CU:=
 match s with
 |.mv x=>match mW e x with|some v=>rv v|none=>ah
 |.pick c a b=>match mW e c with
  |some (.f (.raw (.bool t)))=>(match mW e (if t then a else b) with|some v=>rv v|none=>ah)
  |_=>ah
 |.alloc ty z=>af ⟨.ptr nx 0,[],[nx],[(nx,⟨ty,.fz (z.map .raw)⟩)],[nx]⟩
 |.box ty x=>match mW e x with
  |some v=>if gU v.cs then af ⟨.ptr nx 0,[],[nx],[(nx,⟨ty,pU v.cs⟩)],[nx]⟩ else ah
  |none=>ah
 |.build z parts=>match Ac (z.map raw) e parts with|some cs=>rv (NF cs)|none=>ah
 |.bsl ty sz len z parts=>match Ac ((repl z len).map .f) e parts with
  |some cs=>af ⟨if len=0 then .emp else .row nx sz len,[],[nx],[(nx,⟨ty,pU cs⟩)],[nx]⟩
  |none=>ah
 |.load sz ag x=>match mW e x with|some p=>EB h sz ag p|none=>ah
 |.store sz x v=>match mW e x,mW e v with|some p,af y=>LA h sz y p|_,_=>ah
 |.nilc x=>match mW e x with
  |some (.ptr id off)=>rv (.ptr id off)
  |some (.f (.ptr cells off))=>rv (.f (.ptr cells off))
  |some (.clo g cap)=>rv (.clo g cap)
  |_=>ah
 |.bin op x y=>match mW e x,mW e y with
  |some (.f (.raw u)),af (.f (.raw v))=>(match vy op u v with|some r=>rv (raw r)|none=>ah)
  |_,_=>ah
 |.eqs neg ds x y=>match mW e x,mW e y with
  |some (.f (.agg a)),af (.f (.agg b))=>(match py ds a b with|some r=>rv (raw (.bool (r !=neg)))|none=>ah)
  |_,_=>ah
 |.eqb neg x y=>match mW e x,mW e y with
  |some (.f (.raw (.bool a))),af (.f (.raw (.bool b)))=>rv (raw (.bool ((a==b) !=neg)))
  |_,_=>ah
 |.isnil neg x=>match mW e x with
  |some (.row _ _ _)=>rv (raw (.bool neg))
  |some (.sl _ _ _)=>rv (raw (.bool neg))
  |some (.f (.sl _ (_+1)))=>rv (raw (.bool neg))
  |some (.f (.sl _ 0))=>rv .anyb
  |some .emp=>rv .anyb
  |some (.f (.raw v))=>if AQ v then rv (raw (.bool !neg)) else ah
  |_=>ah
 |.not x=>match mW e x with|some (.f (.raw (.bool b)))=>rv (raw (.bool !b))|_=>ah
 |.conv k x=>match mW e x with|some (.f (.raw (.int _ n)))=>rv (raw (.int k (bk k n)))|_=>ah
 |.mksl ty sz bytes z l c=>match mW e l,mW e c with
  |some (.f (.raw (.int _ a))),af (.f (.raw (.int _ b)))=>
   if c_ 0 a&&c_ a b&&a8 b.toNat bytes then af ⟨.row nx sz a.toNat,[],[nx],[(nx,⟨ty,.fz (repl z a.toNat)⟩)],[nx]⟩ else ah
  |_,_=>ah
 |.slc sz x lo hi mx=>match mW e x with
  |some v=>match lo,hi,mx with
   |none,af (.const (.int _ 0)),af (.const (.int _ 0))=>if v.slen.isSome then rv .emp else ah
   |none,af b,ah=>match v,mW e b with
    |.row id sz' n,af (.f (.raw (.int _ j)))=>if sz'==sz&&c_ 0 j&&c_ j n then (match h.get id with
     |some blk=>if blk.c.isCells&&eU (n*sz) blk.c.len then af ⟨.row nx sz j.toNat,[id],[nx,id],[(nx,⟨blk.ty,pU (blk.c.toMx.take (j.toNat*sz))⟩)],[nx]⟩ else ah
     |none=>ah) else ah
    |.f (.sl cells n),af (.f (.raw (.int _ j)))=>if c_ 0 j&&c_ j n&&eU (n*sz) cells.length then rv (.f (.sl (cells.take (j.toNat*sz)) j.toNat)) else ah
    |_,_=>ah
   |some b,ah,ah=>match v,mW e b with
    |.row id sz' n,af (.f (.raw (.int _ j)))=>if sz'==sz&&c_ 0 j&&gf j n then rv (.sl id (j.toNat*sz) (n-j.toNat)) else ah
    |.f (.sl cells n),af (.f (.raw (.int _ j)))=>if c_ 0 j&&c_ j n&&eU (n*sz) cells.length then rv (.f (.sl ((cells.drop (j.toNat*sz)).take ((n-j.toNat)*sz)) (n-j.toNat))) else ah
    |_,_=>ah
   |_,_,_=>ah
  |none=>ah
 |.fad off x=>match mW e x with
  |some (.ptr id o)=>rv (.ptr id (o+off))
  |some (.f (.ptr cells o))=>rv (.f (.ptr cells (o+off)))
  |_=>ah
 |.fld off sz ag x=>match mW e x with
  |some (.agg l)=>(match (BC.mx l).sub? off sz ag with|some v=>rv v|none=>ah)
  |some (.f (.agg l))=>(match (BC.fz l).sub? off sz ag with|some v=>rv v|none=>ah)
  |_=>ah
 |.iad sz x i=>match mW e x,mW e i with
  |some v,af (.f (.raw (.int _ j)))=>match v with
   |.row id sz' n=>if sz'==sz&&c_ 0 j&&gf j n then rv (.ptr id (j.toNat*sz)) else ah
   |.sl id off n=>if c_ 0 j&&gf j n then rv (.ptr id (off+j.toNat*sz)) else ah
   |.f (.sl cells n)=>if c_ 0 j&&gf j n then rv (.f (.ptr cells (j.toNat*sz))) else ah
   |_=>ah
  |_,_=>ah
 |.iada n sz x i=>match mW e x,mW e i with
  |some v,af (.f (.raw (.int _ j)))=>if c_ 0 j&&gf j n then (match v with
   |.ptr id off=>rv (.ptr id (off+j.toNat*sz))
   |.f (.ptr cells off)=>rv (.f (.ptr cells (off+j.toNat*sz)))
   |_=>ah) else ah
  |_,_=>ah
 |.idx n sz ag x i=>match mW e x,mW e i with
  |some v,af (.f (.raw (.int _ j)))=>if c_ 0 j&&gf j n then (match v with
   |.agg l=>(match (BC.mx l).sub? (j.toNat*sz) sz ag with|some v=>rv v|none=>ah)
   |.f (.agg l)=>(match (BC.fz l).sub? (j.toNat*sz) sz ag with|some v=>rv v|none=>ah)
   |_=>ah) else ah
  |_,_=>ah
 |.ext x i=>match mW e x with|some (.tup l)=>(match l[i]? with|some v=>rv v|none=>ah)|_=>ah
 |.len x=>match mW e x with
  |some v=>(match v.slen with|some n=>rv (raw (.int .i64 n))|none=>ah)
  |none=>ah
 |.lens x=>match mW e x with
  |some (.f (.raw (.string s)))=>rv (raw (.int .i64 s.data.toList.length))
  |_=>ah
 |.lenm x=>match mW e x with
  |some (.mp id)=>(match h.get id with|some ⟨_,.mp es⟩=>af ⟨raw (.int .i64 es.length),[id],[],[],[]⟩|_=>ah)
  |_=>ah
 |.max x y=>match mW e x,mW e y with
  |some (.f (.raw (.int k a))),af (.f (.raw (.int _ b)))=>rv (raw (.int k (if gf a b then b else a)))
  |_,_=>ah
 |.min x y=>match mW e x,mW e y with
  |some (.f (.raw (.int k a))),af (.f (.raw (.int _ b)))=>rv (raw (.int k (if gf b a then b else a)))
  |_,_=>ah
 |.sidx x i=>match mW e x,mW e i with
  |some (.f (.raw (.string s))),af (.f (.raw (.int _ j)))=>if c_ 0 j then (match s.data.toList[j.toNat]? with|some b=>rv (raw (.int .u8 b.toNat))|none=>ah) else ah
  |_,_=>ah
 |.app ty sz bytes s x=>match mW e s,mW e x with
  |some b,af y=>match y.row? h sz with
   |some (src,m,rd)=>match b with
    |.row id sz' n=>match h.get id with
     |some blk=>if sz'==sz&& !(Zh id rd)&&blk.c.isCells&&eU (n*sz) blk.c.len&&blk.ty==ty&&a8 (n+m) bytes then
       af ⟨.row nx sz (n+m),id::rd,[nx,id],[(nx,⟨ty,pU (blk.c.toMx.take (n*sz)++src)⟩)],[nx]⟩ else ah
     |none=>ah
    |b=>if JH b&&a8 m bytes then
      (if m==0 then af ⟨b,rd,[],[],[]⟩ else af ⟨.row nx sz m,rd,[nx],[(nx,⟨ty,pU src⟩)],[nx]⟩) else ah
   |none=>ah
  |_,_=>ah
 |.copy sz d x=>match mW e d,mW e x with
  |some (.row id sz' n),af y=>(match h.get id,y.row? h sz with
   |some blk,af (src,m,rd)=>if sz'==sz&& !(Zh id rd)&&eU (n*sz) blk.c.len then
     (match blk.c.put 0 (src.take (jd m n*sz)) with
     |some c=>af ⟨raw (.int .i64 (jd m n)),id::rd,[id],[(id,⟨blk.ty,c⟩)],[]⟩
     |none=>ah) else ah
   |_,_=>ah)
  |_,_=>ah
 |.clr _ z x=>match mW e x with
  |some (.sl id off n)=>(match h.get id with
   |some blk=>if gz 0 n then (match blk.c.put off ((repl z n).map .f) with
    |some c=>af ⟨.tup [],[id],[id],[(id,⟨blk.ty,c⟩)],[]⟩
    |none=>ah) else ah
   |none=>ah)
  |_=>ah
 |.mkf f caps=>match Yp e caps with|some l=>rv (.clo f l)|none=>ah
 |.mkm=>af ⟨.mp nx,[],[nx],[(nx,⟨0,.mp []⟩)],[nx]⟩
 |.lku str ok z x k=>match mW e x,mW e k with
  |some (.mp id),af (.f (.raw key))=>(match h.get id with
   |some ⟨_,.mp es⟩=>if zQ str key then (match ua key es with|some (af v)=>af ⟨pkV ok v ai,[id],[],[],[]⟩|some ah=>af ⟨pkV ok (raw z) aj,[id],[],[],[]⟩|none=>ah) else ah
   |_=>ah)
  |_,_=>ah
 |.mup str x k v=>match mW e x,mW e k,mW e v with
  |some (.mp id),af (.f (.raw key)),af y=>(match h.get id with
   |some ⟨ty,.mp es⟩=>if zQ str key then (match zO key y es with|some es'=>af ⟨raw undef,[id],[id],[(id,⟨ty,.mp es'⟩)],[]⟩|none=>ah) else ah
   |_=>ah)
  |_,_,_=>ah
 |.rng x=>match mW e x with
  |some (.f (.raw (.string s)))=>af ⟨.ptr nx 0,[],[nx],[(nx,⟨0,.it s 0⟩)],[nx]⟩
  |_=>ah
 |.nxt x=>match mW e x with
  |some (.ptr id 0)=>(match h.get id with
   |some ⟨ty,.it s p⟩=>(match s.data.toList[p]? with
    |some b=>if gz b.toNat 128 then af ⟨.tup [raw (.bool ai),raw (.int .i64 p),raw (.int .i32 b.toNat)],[id],[id],[(id,⟨ty,.it s (p+1)⟩)],[]⟩ else ah
    |none=>af ⟨.tup [raw (.bool aj)],[id],[id],[(id,⟨ty,.it s p⟩)],[]⟩)
   |_=>ah)
  |_=>ah
 |.bad=>ah
structure tj where
 dst:Option Nat
 op:SI
 guard:Option (Nat×Bool)
inductive SC where
 |skip
 |reg (ops:List tj) (prs:List (Nat×Nat))
 |seq (a b:SC)
 |cond (c:Nat) (a b:SC)
 |block (id:Nat) (b:SC)
 |loop (b:SC)
 |exit (id:Nat)
 |ret
 |defer (f:FuncId) (caps:List Operand) (t:Nat)
 |bad
structure aqu where
 val:AV
 h:oH
 nx:Nat
 wr:Nat
abbrev YZ:=FuncId->List AV->oH->Nat->Option aqu
mutual
def AV.ids:AV->Nat->Nat
 |.ptr id _,acc=>acc|||(1<<<id)
 |.sl id _ _,acc=>acc|||(1<<<id)
 |.row id _ _,acc=>acc|||(1<<<id)
 |.mp id,acc=>acc|||(1<<<id)
 |.agg l,acc=>AV.idsL l acc
 |.tup l,acc=>AV.idsL l acc
 |.clo _ l,acc=>AV.idsL l acc
 |.f _,acc=>acc
 |.emp,acc=>acc
 |.anyb,acc=>acc
def AV.idsL:List AV->Nat->Nat
 |[],acc=>acc
 |x::r,acc=>AV.idsL r (AV.ids x acc)
end
mutual
def AV.all (p:Nat->Bool):AV->Bool
 |.ptr id _=>p id
 |.sl id _ _=>p id
 |.row id _ _=>p id
 |.mp id=>p id
 |.agg l=>AV.allL p l
 |.tup l=>AV.allL p l
 |.clo _ l=>AV.allL p l
 |.f _=>ai
 |.emp=>ai
 |.anyb=>ai
def AV.allL (p:Nat->Bool):List AV->Bool
 |[]=>ai
 |x::r=>AV.all p x&&AV.allL p r
end
def BC.ids:BC->Nat->Nat
 |.mx l,acc=>AV.idsL l acc
 |.mp es,acc=>AV.idsL (es.map (·.2)) acc
 |_,acc=>acc
def BC.all (p:Nat->Bool):BC->Bool
 |.mx l=>AV.allL p l
 |.mp es=>AV.allL p (es.map (·.2))
 |_=>ai
def oH.all (p:Nat->Bool) (h:oH):Bool:=PT.all (λi b=>p i&&b.c.all p) 1 0 h
def XT:Nat->oH->Nat->Nat->Nat
 |0,_,_,Mg=>Mg
 |n+1,h,todo,Mg=>
  if aC todo 0 then Mg else
  match Nat.log2 todo with
  |id=>if aN Mg id then XT n h (todo ^^^ (1<<<id)) Mg else
   match h.get id with
   |some b=>XT n h (b.c.ids (todo ^^^ (1<<<id))) (Mg|||(1<<<id))
   |none=>XT n h (todo ^^^ (1<<<id)) Mg
section force
variable {α:Type}
def tH (n:Nat) (k:Nat->α):α:=match n with|0=>k 0|m+1=>k (m+1)
def frcI (n:Int) (k:Int->α):α:=match n with|.ofNat m=>tH m λm=>k (.ofNat m)|.negSucc m=>tH m λm=>k (.negSucc m)
def frcB (b:Bool) (k:Bool->α):α:=match b with|true=>k ai|false=>k aj
def frcV (v:Value) (k:Value->α):α:=match v with
 |.int kd n=>frcI n λn=>k (.int kd n)
 |.bool b=>frcB b λb=>k (.bool b)
 |v=>k v
def aoc (x:FV) (k:FV->α):α:=match x with
 |.raw v=>frcV v λv=>k (.raw v)
 |.ptr cells off=>tH off λoff=>k (.ptr cells off)
 |.sl cells n=>tH n λn=>k (.sl cells n)
 |.agg l=>k (.agg l)
def adp:List FV->(List FV->α)->α
 |[],k=>k []
 |x::r,k=>aoc x λx=>adp r λr=>k (x::r)
def aob (x:FV) (k:FV->α):α:=match x with
 |.agg l=>adp l λl=>k (.agg l)
 |x=>aoc x k
def ajg (x:AV) (k:AV->α):α:=match x with
 |.f x=>aob x λx=>k (.f x)
 |.ptr id off=>tH id λid=>tH off λoff=>k (.ptr id off)
 |.sl id off n=>tH id λid=>tH off λoff=>tH n λn=>k (.sl id off n)
 |.row id sz n=>tH id λid=>tH sz λsz=>tH n λn=>k (.row id sz n)
 |.mp id=>tH id λid=>k (.mp id)
 |x=>k x
def SH:List AV->(List AV->α)->α
 |[],k=>k []
 |x::r,k=>ajg x λx=>SH r λr=>k (x::r)
def aod (x:AV) (k:AV->α):α:=match x with
 |.agg l=>SH l λl=>k (.agg l)
 |.tup l=>SH l λl=>k (.tup l)
 |.clo f l=>SH l λl=>k (.clo f l)
 |x=>ajg x k
def frcC (c:BC) (k:BC->α):α:=match c with
 |.fz l=>adp l λl=>k (.fz l)
 |.mx l=>SH l λl=>k (.mx l)
 |.it s p=>tH p λp=>k (.it s p)
 |.mp es=>k (.mp es)
def SE {β:Type}:PT β->(PT β->α)->α
 |.leaf,k=>k .leaf
 |.node v l r,k=>(match v with
  |none=>λ(k:Option β->α)=>k ah
  |some x=>λk=>k (af x)) λv=>SE l λl=>SE r λr=>k (.node v l r)
def Vc {β:Type}:Nat->PT β->Nat->Option β->(PT β->α)->α
 |0,t,_,_,k=>k t
 |f+1,t,n,x,k=>match t with
  |.leaf=>(match n with
   |0=>k (.node x .leaf .leaf)
   |m+1=>if aC (m%2) 0 then tH (m/2) λq=>Vc f .leaf q x λu=>k (.node ah u .leaf) else tH (m/2) λq=>Vc f .leaf q x λu=>k (.node ah .leaf u))
  |.node v l r=>(match n with
   |0=>k (.node x l r)
   |m+1=>if aC (m%2) 0 then tH (m/2) λq=>Vc f l q x λu=>k (.node v u r) else tH (m/2) λq=>Vc f r q x λu=>k (.node v l u))
theorem P3 {β:Type}:∀(x:PT β) (k:PT β->α),SE x k=k x
 |.leaf,_=>rfl
 |.node v l r,k=>by cases v<;>simp only[SE,P3 l,P3 r]
end force
structure IS where
 e:AB
 h:oH
 nx:Nat
 wr:Nat
structure ak0 where
 val:AV
 rd:Nat
 wr:Nat
 h:oH
 nx:Nat
def bits:ι->Nat->Nat
 |[],acc=>acc
 |x::r,acc=>bits r (acc|||(1<<<x))
def akc {α:Type} (h:oH) (nw:NW):ι->(oH->α)->α
 |[],k=>k h
 |i::r,k=>match js nw i with
  |none=>Vc (i+1) h i ah λh=>akc h nw r k
  |some ⟨ty,c⟩=>frcC c λc=>Vc (i+1) h i (af ⟨ty,c⟩) λh=>akc h nw r k
def ajm (call:YZ) (f:FuncId) (args:List AV) (h:oH) (nx:Nat):Option ak0:=
 tH (XT 1000000 h (AV.idsL args 0) 0) λids=>SE (PT.only ids 1 0 h) λhc=>
 if AV.allL (gz · nx) args&&oH.all (gz · nx) hc then
  match call f args hc nx with
  |some ⟨val,h',nx',wr⟩=>aod val λval=>tH nx' λnx'=>tH wr λwr=>SE (PT.merge wr 1 0 h h') λhm=>af ⟨val,ids,wr,hm,nx'⟩
  |none=>ah
 else ah
def opA (call:YZ) (o:SI) (e:AB) (h:oH) (nx:Nat):Option ak0:=
 match o with
 |.call f args=>match Yp e args with|some l=>ajm call f l h nx|none=>ah
 |.callv x args=>match mW e x,Yp e args with|some (.clo f cap),af l=>ajm call f (l++cap) h nx|_,_=>ah
 |.op o=>match eZ o e h nx with
  |some ⟨val,rd,wr,nw,N⟩=>aod val λval=>tH (bits rd 0) λrd=>tH (bits wr 0) λI=>tH (nx+N.length) λnx'=>akc h nw wr λh=>af ⟨val,rd,I,h,nx'⟩
  |none=>ah
def ant (e:AB):Option (Nat×Bool)->Option Bool
 |none=>af ai
 |some (t,want)=>match e.get t with
  |some (.f (.raw (.bool b)))=>af (b==want)
  |some (.f (.raw (.tuple _)))=>af aj
  |_=>ah
def akk {α:Type} (e:AB) (dst:Option Nat) (v:AV) (k:AB->α):α:=match dst with
 |none=>k e
 |some d=>Vc (d+1) e d (af v) k
structure FPm where
 rd:Nat
 wr:Nat
def Vg (call:YZ):List tj->IS->Option (IS×List FPm)
 |[],s=>af (s,[])
 |o::r,⟨e,h,nx,wr⟩=>
  match ant e o.guard with
  |some ai=>(match opA call o.op e h nx with
   |some ⟨val,rd,w,h',nx'⟩=>akk e o.dst val λe'=>tH (wr|||w) λwr'=>(match Vg call r ⟨e',h',nx',wr'⟩ with
    |some (s',fs)=>af (s',⟨rd,w⟩::fs)
    |none=>ah)
   |none=>ah)
  |some aj=>akk e o.dst (raw undef) λe'=>(match Vg call r ⟨e',h,nx,wr⟩ with
   |some (s',fs)=>af (s',⟨0,0⟩::fs)
   |none=>ah)
  |none=>ah
def ZK:List FPm->Nat->Option FPm
 |[],_=>ah
 |f::_,0=>af f
 |_::r,n+1=>ZK r n
def Ei (a b:Nat):Bool:=aC (a&&&b) 0
def Gn (fs:List FPm):List (Nat×Nat)->Bool
 |[]=>ai
 |(i,j)::r=>(match ZK fs i,ZK fs j with
  |some a,af b=>Ei a.wr b.rd&&Ei a.wr b.wr&&Ei b.wr a.rd
  |_,_=>aj)&&Gn fs r
inductive Ex where
 |normal
 |exit (id:Nat)
 |ret
def ajd (body:IS->Option (Ex×IS)) (e0:AB):Nat->IS->Option (Ex×IS)
 |0,_=>ah
 |n+1,s=>match body s with
  |some (.normal,⟨e,h,nx,wr⟩)=>SE (PT.mask e e0) λe=>ajd body e0 n ⟨e,h,nx,wr⟩
  |r=>r
def run (call:YZ) (inert:FuncId->Bool) (fuel:Nat):SC->IS->Option (Ex×IS)
 |.skip,s=>af (.normal,s)
 |.reg ops prs,s=>match Vg call ops s with
  |some (s',fs)=>if Gn fs prs then af (.normal,s') else ah
  |none=>ah
 |.seq a b,s=>match run call inert fuel a s with
  |some (.normal,s')=>run call inert fuel b s'
  |r=>r
 |.cond c a b,s=>match s.e.get c with
  |some (.f (.raw (.bool ai)))=>run call inert fuel a s
  |some (.f (.raw (.bool aj)))=>run call inert fuel b s
  |_=>ah
 |.block id b,s=>match run call inert fuel b s with
  |some (.exit i,s')=>if aC i id then af (.normal,s') else af (.exit i,s')
  |r=>r
 |.loop b,s=>ajd (run call inert fuel b) s.e fuel s
 |.exit id,s=>af (.exit id,s)
 |.ret,s=>af (.ret,s)
 |.defer f caps t,⟨e,h,nx,wr⟩=>match Yp e caps with
  |some l=>if inert f then akk e (af t) (.clo f l) λe'=>af (.normal,⟨e',h,nx,wr⟩) else ah
  |none=>ah
 |.bad,_=>ah
inductive RV where
 |tmp (t:Nat)
 |cell (a:Nat) (sz:Nat) (ag:Bool)
structure SF where
 code:SC
 res:List RV
 nt:Nat
def ES:List AV->AV
 |[x]=>x
 |l=>.tup l
def ala:Value->Value->Bool
 |.bool a,.bool b=>a==b
 |.int k a,.int k' b=>k==k'&&a==b
 |.string a,.string b=>sM a b
 |.slice ah n c,.slice ah I c'=>aC n I&&aC c c'
 |.pointer ah,.pointer ah=>ai
 |.tuple a,.tuple b=>a.isEmpty&&b.isEmpty
 |_,_=>aj
def fG (P:Program) (t:TypeId):Option Nat:=(P.info? t).map (·.size)
def F4 (P:Program) (t:TypeId):Option Nat:=(P.info? t).map (·.bytes)
def tN (P:Program) (t:TypeId):Option ξ:=((P.info? t).bind (·.zero)).map (·.cells.toList)
def EC (P:Program) (t:TypeId):Option Bool:=(P.underlying t).map λ|.struct _=>ai|.array _ _=>ai|_=>aj
def BA (P:Program) (t:TypeId):Option TypeId:=match P.underlying t with|some (.slice e)=>af e|_=>ah
def Cd (P:Program) (t:TypeId) (i:Nat):Option (Nat×Nat):=match P.underlying t with
 |some (.struct fs)=>(fs[i]?).bind λf=>(fG P f.type).map (f.offset,·)
 |some (.array _ el)=>(fG P el).map λs=>(i*s,s)
 |some (.slice el)=>(fG P el).map λs=>(i*s,s)
 |_=>ah
def xR (P:Program) (t:TypeId):List (Nat×Operand)->Option (List (Nat×Nat×Operand))
 |[]=>af []
 |(i,x)::r=>match Cd P t i,xR P t r with|some (o,s),af l=>af ((o,s,x)::l)|_,_=>ah
def mS (z:ξ):Bool:=z.all λv=>v.oneCell'
def Jg:TypeDesc->Bool
 |.int _=>ai
 |.bool=>ai
 |.string=>ai
 |_=>aj
def sC (P:Program):Nat→List Field→Option (List TypeDesc)
 |_,[]=>af []
 |k,f::r=>match P.underlying f.type,sC P (k+1) r with
  |some d,af ds=>if f.name != "_" &&f.offset==k&&Jg d then af (d::ds) else ah
  |_,_=>ah
def acg (P:Program) (t:TypeId):Option (List TypeDesc):=match P.underlying t with
 |some (.struct fs)=>if P.stoodInHeld t then ah else sC P 0 fs.toList
 |_=>ah
def Ub (P:Program) (c:Call):Option SOp:=
 match c.callee with
 |.builtin .len=>(match c.args.toList,c.argTypes.toList with
  |[x],[t]=>(match P.underlying t with
   |some (.slice _)=>af (.len x)
   |some .string=>af (.lens x)
   |some (.map _ _)=>af (.lenm x)
   |_=>ah)
  |_,_=>ah)
 |.builtin .max=>(match c.args.toList with
  |[x,y]=>af (.max x y)
  |_=>ah)
 |.builtin .min=>(match c.args.toList with
  |[x,y]=>af (.min x y)
  |_=>ah)
 |.builtin .copy=>(match c.args.toList,c.argTypes.toList with
  |[d,x],[t,u]=>(match BA P t,BA P u with
   |some el,af _=>(fG P el).bind λsz=>if sz !=0 then af (.copy sz d x) else ah
   |_,_=>ah)
  |_,_=>ah)
 |.builtin .clear=>(match c.args.toList,c.argTypes.toList with
  |[x],[t]=>(BA P t).bind λel=>(tN P el).bind λz=>(fG P el).bind λsz=>if mS z&&z.length==sz&&sz !=0 then af (.clr sz z x) else ah
  |_,_=>ah)
 |.builtin .append=>(match c.args.toList,c.argTypes.toList with
  |[s,x],[t,u]=>(match BA P t,BA P u with
   |some el,af _=>(fG P el).bind λsz=>(F4 P el).bind λb=>(tN P el).bind λz=>if sz !=0&&z.length==sz then af (.app el sz b s x) else ah
   |_,_=>ah)
  |_,_=>ah)
 |_=>ah
def dA (P:Program):Op->Option SOp
 |.move x=>af (.mv x)
 |.assign x=>af (.mv x)
 |.pick c a b=>af (.pick c a b)
 |.alloc t=>(tN P t).bind λz=>if mS z then af (.alloc t z) else ah
 |.box t x=>af (.box t x)
 |.build t ps=>match P.underlying t with
  |some (.struct fs)=>(tN P t).bind λz=>if mS z&&(fs.toList.all λf=>(fG P f.type).isSome) then (xR P t ps.toList).map (.build z) else ah
  |some (.array _ el)=>(tN P t).bind λz=>if mS z&&(fG P el).isSome then (xR P t ps.toList).map (.build z) else ah
  |_=>ah
 |.buildSlice t n ps=>(BA P t).bind λel=>(tN P el).bind λz=>(fG P el).bind λsz=>if mS z&&z.length==sz&&eU (n*sz) 65536&&sz !=0 then (xR P t ps.toList).map (.bsl el sz n z) else ah
 |.load t x=>(fG P t).bind λsz=>(EC P t).map λag=>.load sz ag x
 |.store t x v=>(fG P t).map λsz=>.store sz x v
 |.nilCheck x=>af (.nilc x)
 |.binOp op t x y _=>match P.underlying t with
  |some (.int _)|some .string=>af (.bin op x y)
  |some .bool=>(match op with|.eql=>af (.eqb aj x y)|.neq=>af (.eqb ai x y)|_=>ah)
  |some (.slice _)=>(match op,y with
   |.eql,.const (.slice ah 0 0)=>af (.isnil aj x)
   |.neq,.const (.slice ah 0 0)=>af (.isnil ai x)
   |_,_=>ah)
  |some (.struct _)=>(acg P t).bind λds=>(match op with|.eql=>af (.eqs aj ds x y)|.neq=>af (.eqs ai ds x y)|_=>ah)
  |_=>ah
 |.unOp .not _ x=>af (.not x)
 |.unOp .neg t x=>match P.underlying t with|some (.int k)=>af (.bin .sub (.const (.int k 0)) x)|_=>ah
 |.convert s d x=>match P.underlying s,P.underlying d with|some (.int _),af (.int k)=>af (.conv k x)|_,_=>ah
 |.makeSlice t l c=>(BA P t).bind λel=>(tN P el).bind λz=>(fG P el).bind λsz=>(F4 P el).bind λb=>if mS z&&z.length==sz&&sz !=0 then af (.mksl el sz b z l c) else ah
 |.slice t x lo hi mx=>(BA P t).bind λel=>(fG P el).map λsz=>.slc sz x lo hi mx
 |.fieldAddr t x k=>match P.underlying t with
  |some (.struct fs)=>(fs[k]?).bind λf=>(fG P f.type).bind λsz=>if sz !=0 then af (.fad f.offset x) else ah
  |_=>ah
 |.field t x k=>match P.underlying t with
  |some (.struct fs)=>(fs[k]?).bind λf=>(fG P f.type).bind λsz=>(EC P f.type).map λag=>.fld f.offset sz ag x
  |_=>ah
 |.indexAddr t x i=>match P.underlying t with
  |some (.slice el)=>(fG P el).map λsz=>.iad sz x i
  |some (.array n el)=>(fG P el).map λsz=>.iada n sz x i
  |_=>ah
 |.index t x i=>match P.underlying t with
  |some (.array n el)=>(fG P el).bind λsz=>(EC P el).map λag=>.idx n sz ag x i
  |some .string=>af (.sidx x i)
  |_=>ah
 |.extract x i=>af (.ext x i)
 |.makeFunc (.func f) first caps=>if first.isEmpty then af (.mkf f caps.toList) else ah
 |.makeMap t ah=>match P.underlying t with|some (.map _ _)=>af .mkm|_=>ah
 |.lookup t x k ok=>match P.underlying t with
  |some (.map I el)=>(match P.underlying I,(P.info? el).bind (·.zero) with
   |some (.int _),af z=>if z.oneCell' then af (.lku aj ok z x k) else ah
   |some .string,af z=>if z.oneCell' then af (.lku ai ok z x k) else ah
   |_,_=>ah)
  |_=>ah
 |.mapUpdate t m k v=>match P.underlying t with
  |some (.map I _)=>(match P.underlying I with
   |some (.int _)=>af (.mup aj m k v)
   |some .string=>af (.mup ai m k v)
   |_=>ah)
  |_=>ah
 |.range t x=>match P.underlying t with|some .string=>af (.rng x)|_=>ah
 |.next x ai=>af (.nxt x)
 |.call c=>Ub P c
 |_=>ah
def QK:Op->Option SI
 |.call c=>(match c.callee with
  |.value (.func f)=>af (.call f c.args.toList)
  |.value (.tmp t)=>af (.callv (.tmp t) c.args.toList)
  |_=>ah)
 |_=>ah
def zh (P:Program) (op:Op):SI:=match QK op with
 |some i=>i
 |none=>(match dA P op with|some s=>.op s|none=>.op .bad)
def SOp.still:SOp->Bool
 |.mv _|.pick _ _ _|.build _ _|.nilc _|.bin _ _ _|.eqs _ _ _ _|.isnil _ _|.eqb _ _ _|.not _|.conv _ _|.fad _ _|.fld _ _ _ _|.iad _ _ _|.iada _ _ _ _|.idx _ _ _ _ _|.ext _ _|.max _ _|.min _ _|.sidx _ _|.mkf _ _|.bad=>ai
 |_=>aj
def SI.still:SI->Bool
 |.op s=>s.still
 |_=>aj
def sL (P:Program) (ops:Array Oper):List Oper->Option (List tj)
 |[]=>af []
 |o::r=>match sL P ops r with
  |some l=>(match o.guard with
   |none=>af (⟨o.dst,zh P o.op,ah⟩::l)
   |some (j,want)=>(match (ops[j]?).bind (·.dst) with
    |some t=>af (⟨o.dst,zh P o.op,af (t,want)⟩::l)
    |none=>ah))
  |none=>ah
def Nz (ops:Array Oper) (l:List tj):Option (List (Nat×Nat)):=
 let B:=Ly ops.toList []
 if (bx ops.size).all λj=>((ops[j]?).all λoj=>oj.after.toList.all λe=> !AD .any e||decide (e.on<j))&&
     (bx j).all λi=>aN (B.getD j 0) i||(match ops[i]?,ops[j]? with|some oi,af oj=>oi.apart ops oj|_,_=>aj)
 then af ((bx ops.size).flatMap λj=>(bx j).filterMap λi=>
  if aN (B.getD j 0) i||(match l[i]?,l[j]? with|some a,af b=>a.op.still||b.op.still|_,_=>aj) then ah else af (i,j))
 else ah
def Ej (ops:Array Oper) (I:Bool):Option (FuncId×List Operand×Nat):=match ops.toList,I with
 |[p,q],aj=>(match p.op,p.guard,p.dst,q.op,q.guard,q.dst with
  |.makeFunc (.func f) first caps,ah,af t,.defer c,ah,ah=>(match c.callee,c.args.toList with
   |.value (.tmp t'),[]=>if aC t t'&&first.isEmpty then af (f,caps.toList,t) else ah
   |_,_=>ah)
  |_,_,_,_,_,_=>ah)
 |_,_=>ah
def cC (P:Program) (nt:Nat):Code->SC
 |.skip=>.skip
 |.region _ ops I=>if ops.toList.all λo=>match o.dst with|some d=>decide (d<nt)|none=>ai then
   (match Ej ops I with
   |some (f,caps,t)=>.defer f caps t
   |none=>(match sL P ops ops.toList with
    |some l=>(match Nz ops l with|some prs=>.reg l prs|none=>.bad)
    |none=>.bad)) else .bad
 |.seq a b=>.seq (cC P nt a) (cC P nt b)
 |.cond (.tmp c) a b=>.cond c (cC P nt a) (cC P nt b)
 |.cond (.const (.bool ai)) a _=>cC P nt a
 |.cond (.const (.bool aj)) _ b=>cC P nt b
 |.block id b=>.block id (cC P nt b)
 |.loop b=>.loop (cC P nt b)
 |.exit id=>.exit id
 |.ret=>.ret
 |_=>.bad
def v9 (P:Program):List ResultVar->Option (List RV)
 |[]=>af []
 |.tmp t::r=>match v9 P r with|some l=>af (.tmp t::l)|none=>ah
 |.cell a t::r=>match v9 P r,fG P t,EC P t with|some l,af sz,af ag=>af (.cell a sz ag::l)|_,_,_=>ah
def At (P:Program) (f:FuncId):Option SF:=
 match P.funcs[f]? with
 |some fn=>if fn.name== "runtime.NumGoroutine" then ah else (match fn.body,v9 P fn.results.toList with
  |some c,af r=>af ⟨cC P fn.ntmps c,r,fn.ntmps⟩
  |_,_=>ah)
 |none=>ah
inductive Xp where
 |mk (op n:Int) (name:ζ) (l:List Xp)
inductive Sx where
 |mk (op line:Int) (name arg:ζ) (index:List Xp) (expr:Xp) (body els:List Sx)
def Xp.op:Xp->Int|.mk a _ _ _=>a
def Xp.n:Xp->Int|.mk _ a _ _=>a
def Xp.name:Xp->ζ|.mk _ _ a _=>a
def Xp.l:Xp->List Xp|.mk _ _ _ a=>a
def Sx.op:Sx->Int|.mk a _ _ _ _ _ _ _=>a
def Sx.line:Sx->Int|.mk _ a _ _ _ _ _ _=>a
def Sx.name:Sx->ζ|.mk _ _ a _ _ _ _ _=>a
def Sx.arg:Sx->ζ|.mk _ _ _ a _ _ _ _=>a
def Sx.index:Sx->List Xp|.mk _ _ _ _ a _ _ _=>a
def Sx.expr:Sx->Xp|.mk _ _ _ _ _ a _ _=>a
def Sx.body:Sx->List Sx|.mk _ _ _ _ _ _ a _=>a
def Sx.els:Sx->List Sx|.mk _ _ _ _ _ _ _ a=>a
inductive Ty where
 |int (k:IntKind)
 |bool
 |str
 |sl (t:Ty)
 |st (t:Ty)
 |pr (a b:Ty)
 |un
 |ex
 |sm
 deriving DecidableEq
@[reducible] def Ty.den:Ty->Type
  |.int _=>Int
  |.bool=>Bool
  |.str=>ζ
  |.sl t=>List t.den
  |.st t=>t.den
  |.pr a b=>a.den×b.den
  |.un=>Unit
  |.ex=>Xp
  |.sm=>Sx
def Ty.size:Ty->Nat
 |.st t=>t.size
 |.pr a b=>a.size+b.size
 |.un=>0
 |.ex=>4
 |.sm=>11
 |_=>1
def Ty.zero:(t:Ty)->t.den
 |.int _=>(0:Int)
 |.bool=>aj
 |.str=>[]
 |.sl _=>[]
 |.st t=>t.zero
 |.pr a b=>(a.zero,b.zero)
 |.un=>()
 |.ex=>.mk 0 0 [] []
 |.sm=>.mk 0 0 [] [] [] (.mk 0 0 [] []) [] []
def Ty.one:Ty->Bool
 |.int _=>ai
 |.bool=>ai
 |.str=>ai
 |.sl _=>ai
 |_=>aj
def N0:Ty:=.pr (.int .i64) (.pr (.int .i64) (.pr .str (.sl .ex)))
def Nu:Ty:=.pr (.int .i64) (.pr (.int .i64) (.pr .str (.pr .str (.pr (.sl .ex) (.pr .ex (.pr (.sl .sm) (.sl .sm)))))))
def OV (e:Xp):N0.den:=(e.op,e.n,e.name,e.l)
def em (x:N0.den):Xp:=.mk x.1 x.2.1 x.2.2.1 x.2.2.2
def OU (e:Sx):Nu.den:=(e.op,e.line,e.name,e.arg,e.index,e.expr,e.body,e.els)
def oq (x:Nu.den):Sx:=.mk x.1 x.2.1 x.2.2.1 x.2.2.2.1 x.2.2.2.2.1 x.2.2.2.2.2.1 x.2.2.2.2.2.2.1 x.2.2.2.2.2.2.2
mutual
def xi:Xp->List FV
 |.mk op n name l=>[.raw (.int .i64 op),.raw (.int .i64 n),.raw (.string ⟨name.toArray⟩),.sl (Ks l) l.length]
def Ks:List Xp->List FV
 |[]=>[]
 |x::r=>xi x++Ks r
end
mutual
def yU:Sx->List FV
 |.mk op line name arg index expr body els=>[.raw (.int .i64 op),.raw (.int .i64 line),.raw (.string ⟨name.toArray⟩),.raw (.string ⟨arg.toArray⟩),.sl (Ks index) index.length]++xi expr++[.sl (Kr body) body.length,.sl (Kr els) els.length]
def Kr:List Sx->List FV
 |[]=>[]
 |x::r=>yU x++Kr r
end
def bU:(T:Ty)->T.den->List FV
 |.int k,n=>[.raw (.int k n)]
 |.bool,b=>[.raw (.bool b)]
 |.str,s=>[.raw (.string ⟨s.toArray⟩)]
 |.sl t,xs=>[.sl (List.flatMap (bU t) xs) (al xs)]
 |.st t,v=>bU t v
 |.pr a b,v=>bU a v.1++bU b v.2
 |.un,_=>[]
 |.ex,v=>xi v
 |.sm,v=>yU v
def gV:(T:Ty)->T.den->FV
 |.int k,n=>.raw (.int k n)
 |.bool,b=>.raw (.bool b)
 |.str,s=>.raw (.string ⟨s.toArray⟩)
 |.sl t,xs=>.sl (List.flatMap (bU t) xs) (al xs)
 |.st t,v=>.agg (bU t v)
 |.pr a b,v=>.agg (bU a v.1++bU b v.2)
 |.un,_=>.agg []
 |.ex,v=>.agg (xi v)
 |.sm,v=>.agg (yU v)
def N3:(T:Ty)->T.den->T.den->Bool
 |.int _,a,b=>decide ((a:Int)=b)
 |.bool,a,b=>(a:Bool)==b
 |.str,a,b=>decide ((a:ζ)=b)
 |.st t,a,b=>N3 t a b
 |.pr x y,a,b=>N3 x a.1 b.1&&N3 y a.2 b.2
 |_,_,_=>ai
def xv {S:Ty} (T:Ty) (v:S.den):Option T.den:=if h:S=T then af (h▸v) else ah
def eP (j:Int) (n:Nat):Bool:=c_ 0 j&&gf j n
def aK {T:Ty} (xs:List T.den) (j:Int):T.den:=xs.getD j.toNat T.zero
def cz {α:Type} (xs:List α) (j:Int) (x:α):List α:=xs.set j.toNat x
def U0 {α:Type} (xs I:List α):List α:=I.take xs.length++xs.drop I.length
def iK (a b:Int):Int:=if gf a b then b else a
def HQ (a b:Int):Int:=if gf b a then b else a
def Bc (s:ζ) (j:Int):Int:=aP (s.getD j.toNat 0).toNat
def bcase {R:Type} (b:Bool) (t f:Option R):Option R:=match b with|true=>t|false=>f
def chk {R:Type} (b:Bool) (k:b=ai->Option R):Option R:=match b,k with|true,k=>k rfl|false,_=>ah
open Classical in
def F5 {R:Type} (a b:Option R):Option R:=if a=b then a else ah
open Classical in
def same {α R:Type} (a b:α) (r:Option R):Option R:=if a=b then r else ah
def obind {α R:Type} (o:Option α) (k:α->Option R):Option R:=match o with|some x=>k x|none=>ah
def lt {α R:Type} (x:α) (k:α->Option R):Option R:=k x
def jn {α R:Type} (o:Option (R⊕α)) (k:α->Option R):Option R:=match o with|some (.inr x)=>k x|some (.inl r)=>af r|none=>ah
def iterN {σ R:Type} (step:σ->Option (σ⊕R)):Nat->σ->Option R
 |0,_=>ah
 |n+1,x=>match step x with
  |some (.inl y)=>iterN step n y
  |some (.inr r)=>af r
  |none=>ah
open Classical in
def iter {σ R:Type} (step:σ->Option (σ⊕R)) (x:σ):Option R:=
 if h:∃n,(iterN step n x).isSome=ai then iterN step (Classical.choose h) x else ah
def gh {σ R:Type} (step:σ->Option (σ⊕R)) (x:σ):Option R:=iterN step 18446744073709551616 x
abbrev zj:Type 1:=∀σ R:Type,(σ->Option (σ⊕R))->σ->Option R
def k_ {R:Type} (a b:Option R):Prop:=∀y,a=af y->b=af y
theorem k_.rfl {R:Type} {a:Option R}:k_ a a:=λ_ h=>h
theorem k_.bcase {R:Type} {b:Bool} {t f t' f':Option R} (h1:k_ t t') (h2:k_ f f'):k_ (AI.bcase b t f) (AI.bcase b t' f'):=by cases b<;>assumption
theorem k_.chk {R:Type} {b:Bool} {k k':Option R} (h:k_ k k'):k_ (AI.chk b λ_=>k) (AI.chk b λ_=>k'):=by
 cases b with
 |true=>exact h
 |false=>exact λ_ h=>by cases h
theorem k_.obind {α R:Type} {o o':Option α} {k k':α->Option R} (h:k_ o o') (hk:∀x,k_ (k x) (k' x)):k_ (AI.obind o k) (AI.obind o' k'):=by
 intro y I;cases o with
 |none=>cases I
 |some x=>rw[h x (by exact Eq.refl _)];exact hk x y I
theorem k_.lt {α R:Type} {x:α} {k k':α->Option R} (h:∀y,k_ (k y) (k' y)):k_ (AI.lt x k) (AI.lt x k'):=h x
theorem k_.jn {α R:Type} {o o':Option (R⊕α)} {k k':α->Option R} (h:k_ o o') (hk:∀x,k_ (k x) (k' x)):k_ (AI.jn o k) (AI.jn o' k'):=by
 intro y I;cases o with
 |none=>cases I
 |some x=>
  rw[h x (by exact Eq.refl _)];cases x with
  |inl r=>exact I
  |inr a=>exact hk a y I
theorem k_.iterN {σ R:Type} {f g:σ->Option (σ⊕R)} (h:∀x,k_ (f x) (g x)):∀(n:Nat) (x:σ),k_ (AI.iterN f n x) (AI.iterN g n x)
 |0,_=>λ_ h=>by cases h
 |n+1,x=>by
  intro y I;cases hf:f x with
  |none=>rw[AI.iterN,hf]at I;cases I
  |some s=>
   rw[AI.iterN,hf]at I;rw[AI.iterN,h x s hf];cases s with
   |inl z=>exact k_.iterN h n z y I
   |inr r=>exact I
theorem JG {σ R:Type} {f:σ->Option (σ⊕R)}:∀{n:Nat} {x:σ} {r:R},iterN f n x=af r->iterN f (n+1) x=af r
 |0,x,r,h=>by cases h
 |n+1,x,r,h=>by
  cases hf:f x with
  |none=>rw[iterN,hf]at h;cases h
  |some s=>
   cases s with
   |inl y=>rw[iterN,hf]at h;rw[iterN,hf];exact JG h
   |inr q=>rw[iterN,hf]at h;rw[iterN,hf];exact h
theorem zS {σ R:Type} {f:σ->Option (σ⊕R)} {n m:Nat} {x:σ} {r:R} (h:iterN f n x=af r) (hle:n<=m):iterN f m x=af r:=by
 induction hle with
 |refl=>exact h
 |step _ I=>exact JG I
theorem zR {σ R:Type} {f:σ->Option (σ⊕R)} {n:Nat} {x:σ} {r:R} (h:iterN f n x=af r):iter f x=af r:=by
 have J:∃n,(iterN f n x).isSome=ai:=⟨n,by rw[h];exact Eq.refl _⟩
 unfold iter;rw[dif_pos J];have hc:=Classical.choose_spec J;obtain⟨M,I⟩:=iV.1 hc;rw[I];rcases Nat.le_total n (Classical.choose J) with hl|hl
 .rw[zS h hl]at I;exact I.symm
 .rw[zS I hl]at h;exact h
theorem k_.iter {σ R:Type} {f g:σ->Option (σ⊕R)} {x:σ} (h:∀x,k_ (f x) (g x)):k_ (gh f x) (AI.iter g x):=λy I=>zR (k_.iterN h _ x y I)
def orE {R:Type} (a b:Option R):Option R:=match a with|some y=>af y|none=>b
def fuel:Nat:=Classical.choose (⟨100000,rfl⟩:∃n:Nat,n=100000)
theorem jY:fuel=100000:=Classical.choose_spec (⟨100000,rfl⟩:∃n:Nat,n=100000)
def HI (a:Ty):Ty->Ty
 |.un=>a
 |.int k=>.pr a (.int k)
 |.bool=>.pr a .bool
 |.str=>.pr a .str
 |.sl t=>.pr a (.sl t)
 |.st t=>.pr a (.st t)
 |.pr x y=>.pr a (.pr x y)
 |.ex=>.pr a .ex
 |.sm=>.pr a .sm
def spr:Ty->Ty->Ty
 |.un,b=>b
 |.int k,b=>HI (.int k) b
 |.bool,b=>HI .bool b
 |.str,b=>HI .str b
 |.sl t,b=>HI (.sl t) b
 |.st t,b=>HI (.st t) b
 |.pr x y,b=>HI (.pr x y) b
 |.ex,b=>HI .ex b
 |.sm,b=>HI .sm b
def RU (a:Ty):(b:Ty)->a.den->b.den->(HI a b).den
 |.un,x,_=>x
 |.int _,x,y=>(x,y)
 |.bool,x,y=>(x,y)
 |.str,x,y=>(x,y)
 |.sl _,x,y=>(x,y)
 |.st _,x,y=>(x,y)
 |.pr _ _,x,y=>(x,y)
 |.ex,x,y=>(x,y)
 |.sm,x,y=>(x,y)
def fsN (a:Ty):(b:Ty)->(HI a b).den->a.den
 |.un,z=>z
 |.int _,z=>z.1
 |.bool,z=>z.1
 |.str,z=>z.1
 |.sl _,z=>z.1
 |.st _,z=>z.1
 |.pr _ _,z=>z.1
 |.ex,z=>z.1
 |.sm,z=>z.1
def snN (a:Ty):(b:Ty)->(HI a b).den->b.den
 |.un,_=>()
 |.int _,z=>z.2
 |.bool,z=>z.2
 |.str,z=>z.2
 |.sl _,z=>z.2
 |.st _,z=>z.2
 |.pr _ _,z=>z.2
 |.ex,z=>z.2
 |.sm,z=>z.2
def Vv:(a b:Ty)->a.den->b.den->(spr a b).den
 |.un,_,_,y=>y
 |.int k,b,x,y=>RU (.int k) b x y
 |.bool,b,x,y=>RU .bool b x y
 |.str,b,x,y=>RU .str b x y
 |.sl t,b,x,y=>RU (.sl t) b x y
 |.st t,b,x,y=>RU (.st t) b x y
 |.pr u v,b,x,y=>RU (.pr u v) b x y
 |.ex,b,x,y=>RU .ex b x y
 |.sm,b,x,y=>RU .sm b x y
def P1:(a b:Ty)->(spr a b).den->a.den
 |.un,_,_=>()
 |.int k,b,z=>fsN (.int k) b z
 |.bool,b,z=>fsN .bool b z
 |.str,b,z=>fsN .str b z
 |.sl t,b,z=>fsN (.sl t) b z
 |.st t,b,z=>fsN (.st t) b z
 |.pr u v,b,z=>fsN (.pr u v) b z
 |.ex,b,z=>fsN .ex b z
 |.sm,b,z=>fsN .sm b z
def Me:(a b:Ty)->(spr a b).den->b.den
 |.un,_,z=>z
 |.int k,b,z=>snN (.int k) b z
 |.bool,b,z=>snN .bool b z
 |.str,b,z=>snN .str b z
 |.sl t,b,z=>snN (.sl t) b z
 |.st t,b,z=>snN (.st t) b z
 |.pr u v,b,z=>snN (.pr u v) b z
 |.ex,b,z=>snN .ex b z
 |.sm,b,z=>snN .sm b z
theorem uf (a b:Ty) (x:a.den) (y:b.den):P1 a b (Vv a b x y)=x:=by cases a<;>cases b<;>rfl
theorem vJ (a b:Ty) (x:a.den) (y:b.den):Me a b (Vv a b x y)=y:=by cases a<;>cases b<;>rfl
inductive TV where
 |f (T:Ty) (v:T.den)
 |fel (T:Ty) (xs:List T.den) (j:Int) (h:eP j xs.length=ai) (off:Nat)
 |pel (id sz:Nat) (j:Int) (off:Nat)
 |ptr (id off:Nat)
 |row (id:Nat)
 |csl (id sz n:Nat)
 |emp
 |nil
 |mp (id:Nat)
 |agg (l:List TV)
 |tup (l:List TV)
 |clo (g:FuncId) (l:List TV)
 |undef
 |np
 |anyb
 |rtl (id:Nat) (j:Int)
inductive iE where
 |rows (ty:TypeId) (p:Bool) (T:Ty) (xs:List T.den)
 |cells (ty:TypeId) (l:List TV)
 |dead (p:Bool) (sz n:Nat)
 |mp (K V:Ty) (es:List (K.den×V.den))
abbrev iZ:=PT TV
abbrev bl:=PT iE
def cst:Value->Option TV
 |.int k n=>af (.f (.int k) n)
 |.bool b=>af (.f .bool b)
 |.string s=>af (.f .str s.data.toList)
 |.slice ah 0 0=>af .nil
 |.pointer ah=>af .np
 |_=>ah
def K9:ξ->Option (List TV)
 |[]=>af []
 |v::r=>match cst v,K9 r with|some x,af l=>af (x::l)|_,_=>ah
def al1:Value->Option TV
 |.agg vs=>if Lu vs.toList then (match K9 vs.toList with|some l=>af (.agg l)|none=>ah) else ah
 |v=>cst v
def cellsOf:Nat->(T:Ty)->T.den->Option (List TV)
 |0,_,_=>ah
 |n+1,.st t,v=>cellsOf n t v
 |n+1,.pr a b,v=>match cellsOf n a v.1,cellsOf n b v.2 with|some x,af y=>af (x++y)|_,_=>ah
 |_+1,.un,_=>af []
 |n+1,.ex,v=>cellsOf n N0 (OV v)
 |n+1,.sm,v=>cellsOf n Nu (OU v)
 |_+1,.int k,v=>af [.f (.int k) v]
 |_+1,.bool,v=>af [.f .bool v]
 |_+1,.str,v=>af [.f .str v]
 |_+1,.sl t,v=>af [.f (.sl t) v]
def TV.isC:TV->Bool
 |.f T _=>T.one
 |.fel _ _ _ _ _=>ai
 |.pel _ _ _ _=>ai
 |.ptr _ _=>ai
 |.row _=>ai
 |.csl _ _ _=>ai
 |.emp=>ai
 |.nil=>ai
 |.np=>ai
 |.mp _=>ai
 |.clo _ _=>ai
 |_=>aj
def kJ:List TV->Bool
 |[]=>ai
 |x::r=>x.isC&&kJ r
def TV.cs (v:TV):Option (List TV):=match v with
 |.agg l=>if kJ l then af l else ah
 |.f T x=>cellsOf 40 T x
 |x=>if x.isC then af [x] else ah
def kZ (i:Nat):Nat:=1<<<i
def iT (h:bl) (T:Ty):TV->Option (T.den×Nat)
 |.f _ v=>match xv T v with|some x=>af (x,0)|none=>ah
 |.emp=>(match T with|.sl _=>af ([],0)|_=>ah)
 |.nil=>(match T with|.sl _=>af ([],0)|_=>ah)
 |.row id=>match h.get id with
  |some (.rows _ _ S xs)=>(match xv (S:=.sl S) T xs with|some x=>af (x,kZ id)|none=>ah)
  |_=>ah
 |_=>ah
def fm (h:bl):Nat->(T:Ty)->List TV->Option (T.den×Nat×List TV)
 |0,_,_=>ah
 |n+1,.st t,l=>fm h n t l
 |n+1,.pr a b,l=>match fm h n a l with
  |some (x,m,r)=>(match fm h n b r with|some (y,m',I)=>af ((x,y),m|||m',I)|none=>ah)
  |none=>ah
 |_+1,.un,l=>af ((),0,l)
 |n+1,.ex,l=>match fm h n N0 l with|some (x,m,r)=>af (em x,m,r)|none=>ah
 |n+1,.sm,l=>match fm h n Nu l with|some (x,m,r)=>af (oq x,m,r)|none=>ah
 |_+1,.int k,l=>match l with|c::r=>(match iT h (.int k) c with|some (x,m)=>af (x,m,r)|none=>ah)|[]=>ah
 |_+1,.bool,l=>match l with|c::r=>(match iT h .bool c with|some (x,m)=>af (x,m,r)|none=>ah)|[]=>ah
 |_+1,.str,l=>match l with|c::r=>(match iT h .str c with|some (x,m)=>af (x,m,r)|none=>ah)|[]=>ah
 |_+1,.sl t,l=>match l with|c::r=>(match iT h (.sl t) c with|some (x,m)=>af (x,m,r)|none=>ah)|[]=>ah
def EA (h:bl) (T:Ty) (v:TV):Option (T.den×Nat):=match v with
 |.agg l=>if T.one then ah else (match fm h 40 T l with|some (x,m,[])=>af (x,m)|_=>ah)
 |x=>iT h T x
def oI:Nat->(T:Ty)->T.den->Nat->Nat->Bool->Option TV
 |0,_,_,_,_,_=>ah
 |n+1,.st t,v,off,sz,ag=>if aC off 0&&aC sz t.size&&ag then af (.f (.st t) v) else oI n t v off sz ag
 |n+1,.pr a b,v,off,sz,ag=>if gz off a.size then oI n a v.1 off sz ag else oI n b v.2 (off-a.size) sz ag
 |_+1,.un,_,_,_,_=>ah
 |n+1,.ex,v,off,sz,ag=>if aC off 0&&aC sz 4&&ag then af (.f .ex v) else oI n N0 (OV v) off sz ag
 |n+1,.sm,v,off,sz,ag=>if aC off 0&&aC sz 11&&ag then af (.f .sm v) else oI n Nu (OU v) off sz ag
 |_+1,.int k,v,off,sz,ag=>if aC off 0&&aC sz 1&& !ag then af (.f (.int k) v) else ah
 |_+1,.bool,v,off,sz,ag=>if aC off 0&&aC sz 1&& !ag then af (.f .bool v) else ah
 |_+1,.str,v,off,sz,ag=>if aC off 0&&aC sz 1&& !ag then af (.f .str v) else ah
 |_+1,.sl t,v,off,sz,ag=>if aC off 0&&aC sz 1&& !ag then af (.f (.sl t) v) else ah
def hX (h:bl) (x:TV):Nat->(T:Ty)->T.den->Nat->Nat->Option (T.den×Nat)
 |0,_,_,_,_=>ah
 |n+1,.st t,v,off,sz=>match (if aC off 0&&aC sz t.size then EA h (.st t) x else ah) with
  |some y=>af y
  |none=>hX h x n t v off sz
 |n+1,.pr a b,v,off,sz=>if gz off a.size then (match hX h x n a v.1 off sz with|some (y,m)=>af ((y,v.2),m)|none=>ah) else (match hX h x n b v.2 (off-a.size) sz with|some (y,m)=>af ((v.1,y),m)|none=>ah)
 |_+1,.un,_,_,_=>ah
 |n+1,.ex,v,off,sz=>match (if aC off 0&&aC sz 4 then EA h .ex x else ah) with
  |some y=>af y
  |none=>(match hX h x n N0 (OV v) off sz with|some (y,m)=>af (em y,m)|none=>ah)
 |n+1,.sm,v,off,sz=>match (if aC off 0&&aC sz 11 then EA h .sm x else ah) with
  |some y=>af y
  |none=>(match hX h x n Nu (OU v) off sz with|some (y,m)=>af (oq y,m)|none=>ah)
 |_+1,.int k,_,off,sz=>if aC off 0&&aC sz 1 then iT h (.int k) x else ah
 |_+1,.bool,_,off,sz=>if aC off 0&&aC sz 1 then iT h .bool x else ah
 |_+1,.str,_,off,sz=>if aC off 0&&aC sz 1 then iT h .str x else ah
 |_+1,.sl t,_,off,sz=>if aC off 0&&aC sz 1 then iT h (.sl t) x else ah
def zG (h:bl) (T:Ty):Nat->List TV->Option (List T.den×Nat)
 |0,[]=>af ([],0)
 |0,_::_=>ah
 |n+1,l=>match fm h 40 T l with
  |some (x,m,r)=>(match zG h T n r with|some (xs,m')=>af (x::xs,m|||m')|none=>ah)
  |none=>ah
def tM:Ty->ξ
 |.int k=>[.int k 0]
 |.bool=>[.bool aj]
 |.str=>[.string ⟨#[]⟩]
 |.sl _=>[.slice ah 0 0]
 |.st t=>tM t
 |.pr a b=>tM a++tM b
 |.un=>[]
 |.ex=>[.int .i64 0,.int .i64 0,.string ⟨#[]⟩,.slice ah 0 0]
 |.sm=>[.int .i64 0,.int .i64 0,.string ⟨#[]⟩,.string ⟨#[]⟩,.slice ah 0 0,.int .i64 0,.int .i64 0,.string ⟨#[]⟩,.slice ah 0 0,.slice ah 0 0,.slice ah 0 0]
def Uj:ξ->ξ->Bool
 |[],[]=>ai
 |x::xs,y::I=>ala x y&&Uj xs I
 |_,_=>aj
def Ty.flat:Ty->Bool
 |.int _=>ai
 |.bool=>ai
 |.str=>ai
 |.st t=>t.flat
 |.pr a b=>a.flat&&b.flat
 |.un=>ai
 |_=>aj
def rF:List TypeDesc->Option Ty
 |[]=>af .un
 |.int k::r=>match rF r with|some t=>af (.pr (.int k) t)|none=>ah
 |.bool::r=>match rF r with|some t=>af (.pr .bool t)|none=>ah
 |.string::r=>match rF r with|some t=>af (.pr .str t)|none=>ah
 |_=>ah
inductive PV where
 |d (T:Ty)
 |ptr (id off:Nat)
 |row (id:Nat)
 |csl (id sz n:Nat)
 |mp (id:Nat)
 |nil
 |emp
 |clo (q:FuncId) (id off:Nat)
 |agg (l:List PV)
inductive PB where
 |rows (ty:TypeId) (p:Bool) (T:Ty)
 |rowsP (ty:TypeId) (T:Ty)
 |cells (ty:TypeId) (l:List PV)
 |mp (K V:Ty)
 |gone
mutual
def PV.ty:PV->Ty
 |.d T=>T
 |.agg l=>PV.tyL l
 |.ptr _ _=>.un
 |.row _=>.un
 |.csl _ _ _=>.un
 |.clo _ _ _=>.un
 |.mp _=>.un
 |.nil=>.un
 |.emp=>.un
def PV.tyL:List PV->Ty
 |[]=>.un
 |p::r=>spr p.ty (PV.tyL r)
end
def PB.ty:PB->Ty
 |.rows _ _ T=>.sl T
 |.rowsP _ T=>.pr .bool (.sl T)
 |.cells _ l=>PV.tyL l
 |.mp K V=>.sl (.pr K V)
 |.gone=>.un
def PB.tyL:List PB->Ty
 |[]=>.un
 |p::r=>spr p.ty (PB.tyL r)
structure Tm where
 vs:List PV
 bs:List PB
def Tm.ty (t:Tm):Ty:=spr (PV.tyL t.vs) (PB.tyL t.bs)
mutual
def pY (g:Nat->Nat) (h:bl):(p:PV)->List TV->Option (p.ty.den×Nat×List TV)
 |.d T,l=>fm h 40 T l
 |.ptr i o,l=>match l with|.ptr i' o'::r=>if aC (g i) i'&&aC o o' then af ((),0,r) else ah|_=>ah
 |.row i,l=>match l with|.row i'::r=>if aC (g i) i' then af ((),0,r) else ah|_=>ah
 |.csl i s n,l=>match l with|.csl i' s' n'::r=>if aC (g i) i'&&aC s s'&&aC n n' then af ((),0,r) else ah|_=>ah
 |.clo q i o,l=>match l with|.clo q' [.ptr i' o']::r=>if aC q q'&&aC (g i) i'&&aC o o' then af ((),0,r) else ah|_=>ah
 |.mp i,l=>match l with|.mp i'::r=>if aC (g i) i' then af ((),0,r) else ah|_=>ah
 |.nil,l=>match l with|.nil::r=>af ((),0,r)|_=>ah
 |.emp,l=>match l with|.nil::r=>af ((),0,r)|.emp::r=>af ((),0,r)|_=>ah
 |.agg ps,l=>zZ g h ps l
def zZ (g:Nat->Nat) (h:bl):(ps:List PV)->List TV->Option ((PV.tyL ps).den×Nat×List TV)
 |[],l=>af ((),0,l)
 |p::r,l=>match pY g h p l with
  |some (x,m,l')=>(match zZ g h r l' with|some (y,m',l'')=>af (Vv p.ty (PV.tyL r) x y,m|||m',l'')|none=>ah)
  |none=>ah
end
def ye (g:Nat->Nat) (h:bl):(p:PV)->TV->Option (p.ty.den×Nat)
 |.d T,v=>EA h T v
 |.agg ps,v=>if v.isC then ah else (match v.cs with
  |some l=>(match zZ g h ps l with|some (x,m,[])=>af (x,m)|_=>ah)
  |none=>ah)
 |.ptr i o,v=>match pY g h (.ptr i o) [v] with|some (x,m,_)=>af (x,m)|none=>ah
 |.row i,v=>match pY g h (.row i) [v] with|some (x,m,_)=>af (x,m)|none=>ah
 |.csl i s n,v=>match pY g h (.csl i s n) [v] with|some (x,m,_)=>af (x,m)|none=>ah
 |.clo q i o,v=>match pY g h (.clo q i o) [v] with|some (x,m,_)=>af (x,m)|none=>ah
 |.mp i,v=>match pY g h (.mp i) [v] with|some (x,m,_)=>af (x,m)|none=>ah
 |.nil,v=>match pY g h .nil [v] with|some (x,m,_)=>af (x,m)|none=>ah
 |.emp,v=>match pY g h .emp [v] with|some (x,m,_)=>af (x,m)|none=>ah
def yQ (g:Nat->Nat) (h:bl):(ps:List PV)->List TV->Option ((PV.tyL ps).den×Nat)
 |[],[]=>af ((),0)
 |p::r,v::vs=>match ye g h p v with
  |some (x,m)=>(match yQ g h r vs with|some (y,m')=>af (Vv p.ty (PV.tyL r) x y,m|||m')|none=>ah)
  |none=>ah
 |[],_::_=>ah
 |_::_,[]=>ah
def FC (g:Nat->Nat) (h:bl) (i:Nat):(b:PB)->Option (b.ty.den×Nat)
 |.rows ty p T=>match h.get (g i) with
  |some (.rows ty' I S xs)=>if ty==ty'&&p==I then (match xv (S:=.sl S) (.sl T) xs with|some x=>af (x,0)|none=>ah) else ah
  |_=>ah
 |.rowsP ty T=>match h.get (g i) with
  |some (.rows ty' I S xs)=>if ty==ty' then (match xv (S:=.sl S) (.sl T) xs with|some x=>af ((I,x),0)|none=>ah) else ah
  |_=>ah
 |.cells ty ps=>match h.get (g i) with
  |some (.cells ty' l)=>if ty==ty' then (match zZ g h ps l with|some (x,m,[])=>af (x,m)|_=>ah) else ah
  |_=>ah
 |.mp K V=>match h.get (g i) with
  |some (.mp K' V' es)=>(match xv (S:=.sl (.pr K' V')) (.sl (.pr K V)) es with|some x=>af (x,0)|none=>ah)
  |_=>ah
 |.gone=>af ((),0)
def Bz (g:Nat->Nat) (h:bl):Nat->(bs:List PB)->Option ((PB.tyL bs).den×Nat)
 |_,[]=>af ((),0)
 |i,b::r=>match FC g h i b with
  |some (x,m)=>(match Bz g h (i+1) r with|some (y,m')=>af (Vv b.ty (PB.tyL r) x y,m|||m')|none=>ah)
  |none=>ah
mutual
def qx (g:Nat->Nat):(p:PV)->p.ty.den->Option (List TV)
 |.d T,x=>cellsOf 40 T x
 |.ptr i o,_=>af [.ptr (g i) o]
 |.row i,_=>af [.row (g i)]
 |.csl i s n,_=>af [.csl (g i) s n]
 |.mp i,_=>af [.mp (g i)]
 |.clo q i o,_=>af [.clo q [.ptr (g i) o]]
 |.nil,_=>af [.nil]
 |.emp,_=>af [.emp]
 |.agg ps,x=>rE g ps x
def rE (g:Nat->Nat):(ps:List PV)->(PV.tyL ps).den->Option (List TV)
 |[],_=>af []
 |p::r,x=>match qx g p (P1 p.ty (PV.tyL r) x) with
  |some a=>(match rE g r (Me p.ty (PV.tyL r) x) with|some b=>af (a++b)|none=>ah)
  |none=>ah
end
def t7 (g:Nat->Nat):(p:PV)->p.ty.den->Option TV
 |.d T,x=>af (.f T x)
 |.ptr i o,_=>af (.ptr (g i) o)
 |.row i,_=>af (.row (g i))
 |.csl i s n,_=>af (.csl (g i) s n)
 |.mp i,_=>af (.mp (g i))
 |.clo q i o,_=>af (.clo q [.ptr (g i) o])
 |.nil,_=>af .nil
 |.emp,_=>af .emp
 |.agg ps,x=>match rE g ps x with|some l=>af (.agg l)|none=>ah
def qE (g:Nat->Nat):(ps:List PV)->(PV.tyL ps).den->Option (List TV)
 |[],_=>af []
 |p::r,x=>match t7 g p (P1 p.ty (PV.tyL r) x) with
  |some a=>(match qE g r (Me p.ty (PV.tyL r) x) with|some b=>af (a::b)|none=>ah)
  |none=>ah
def Dj (g:Nat->Nat):(b:PB)->b.ty.den->Option (Option iE)
 |.rows ty p T,x=>af (af (.rows ty p T x))
 |.rowsP ty T,x=>af (af (.rows ty x.1 T x.2))
 |.cells ty ps,x=>match rE g ps x with|some l=>af (af (.cells ty l))|none=>ah
 |.mp K V,x=>af (af (.mp K V x))
 |.gone,_=>af ah
def vP:iE->iE
 |.rows _ p T xs=>.dead p T.size xs.length
 |.cells _ _=>.dead ai 0 0
 |.mp _ _ _=>.dead ai 0 0
 |.dead p sz n=>.dead p sz n
def kill (h:bl) (i:Nat):bl:=match h.get i with
 |some b=>h.set i (af (vP b))
 |none=>h
def oZ (g:Nat->Nat):(bs:List PB)->(PB.tyL bs).den->Option (List (Option iE))
 |[],_=>af []
 |b::r,x=>match Dj g b (P1 b.ty (PB.tyL r) x) with
  |some c=>(match oZ g r (Me b.ty (PB.tyL r) x) with|some l=>af (c::l)|none=>ah)
  |none=>ah
def Bj (g:Nat->Nat):Nat->List (Option iE)->bl->bl
 |_,[],h=>h
 |i,af c::r,h=>Bj g (i+1) r (h.set (g i) (af c))
 |i,ah::r,h=>Bj g (i+1) r (kill h (g i))
def Ny (g:Nat->Nat) (bs:List PB) (x:(PB.tyL bs).den) (h:bl):Option bl:=match oZ g bs x with
 |some l=>af (Bj g 0 l h)
 |none=>ah
def tP {K V:Ty} (k:K.den):List (K.den×V.den)->Option V.den
 |[]=>ah
 |(k',v)::r=>if N3 K k k' then af v else tP k r
def Jr {K V:Ty} (k:K.den) (v:V.den):List (K.den×V.den)->List (K.den×V.den)
 |[]=>[(k,v)]
 |(k',I)::r=>if N3 K k k' then (k,v)::r else (k',I)::Jr k v r
def Pk {K V:Ty} (k:K.den) (es:List (K.den×V.den)):Bool:=match tP k es with|some _=>ai|none=>aj
def Gt {K V:Ty} (k:K.den) (es:List (K.den×V.den)) (z:V.den):V.den:=match tP k es with|some v=>v|none=>z
def ao0 (T:Ty):Nat->Ty
 |0=>.un
 |1=>T
 |n+2=>.pr T (ao0 T (n+1))
def kwT:Ty:=.st (ao0 .str 22)
def kwV:kwT.den:=([118,97,114],[118,111,108,97,116,105,108,101],[109,117,116,101,120],[114,119,108,111,99,107],[99,111,110,100],[102,117,116,117,114,101],[116,104,114,101,97,100],[105,102],[101,108,115,101],[119,104,105,108,101],[108,111,99,107],[114,101,97,100],[119,114,105,116,101],[116,114,97,110,115,97,99,116,105,111,110],[97,116,111,109,105,99],[119,97,105,116],[110,111,116,105,102,121],[110,111,116,105,102,121,97,108,108],[115,112,97,119,110],[106,111,105,110],[115,101,116],[103,101,116])
@[simp] theorem c5 {R:Type} (t f:Option R):bcase ai t f=t:=Eq.trans rfl rfl
@[simp] theorem c6 {R:Type} (t f:Option R):bcase aj t f=f:=Eq.trans rfl rfl
@[simp] theorem chk_t {R:Type} (k:ai=ai->Option R):chk ai k=k rfl:=Eq.trans rfl rfl
theorem cg {R:Type} {b:Bool} (h:b=ai) (k:Option R):chk b (λ_=>k)=k:=by cases b with|true=>rfl|false=>cases h
@[simp] theorem cO {α R:Type} (x:α) (k:α->Option R):obind (af x) k=k x:=Eq.trans rfl rfl
@[simp] theorem ju {α R:Type} (x:α) (k:α->Option R):jn (af (.inr x)) k=k x:=Eq.trans rfl rfl
@[simp] theorem jn_l {α R:Type} (r:R) (k:α->Option R):jn (af (.inl r)) k=af r:=Eq.trans rfl rfl
theorem agp {σ R:Type} {f:σ->Option (σ⊕R)} {n:Nat} {x:σ} {r:R} (h:iterN f n x=af r) (hn:n<=18446744073709551616):gh f x=af r:=zS h hn
theorem w_ {σ R:Type} {f:σ->Option (σ⊕R)} (n:Nat) (hn:n<18446744073709551616) (st:Nat->σ) {r:R} (h0:∀i,i<n->f (st i)=af (.inl (st (i+1)))) (h1:f (st n)=af (.inr r)):gh f (st 0)=af r:=by
 have key:∀k i,i+k=n->iterN f (k+1) (st i)=af r:=by
  intro k;induction k with
  |zero=>intro i hi;have:i=n:=by omega
         subst this;simp only[iterN,h1]
  |succ k I=>intro i hi;rw[iterN,h0 i (by omega)];exact I (i+1) (by omega)
 exact agp (key n 0 (by omega)) (by omega)
@[simp] theorem ad8 {a b:Int}:c_ a b=ai↔a<=b:=by unfold c_;simp
@[simp] theorem ad7 {a b:Int}:gf a b=ai↔a<b:=by unfold gf;simp
theorem qV {a b:Int} (h:a<=b):c_ a b=ai:=ad8.2 h
theorem uO {a b:Int} (h:a<b):gf a b=ai:=ad7.2 h
theorem NL {a b:Int} (h:b<a):c_ a b=aj:=by unfold c_;simp;omega
theorem vQ {a b:Int} (h:b<=a):gf a b=aj:=by unfold gf;simp;omega
theorem ao7 {j:Int} {n:Nat} (h0:0<=j) (h1:j<n):eP j n=ai:=by unfold eP;rw[qV h0,uO h1];rfl
theorem cY {j n:Nat} (h1:j<n):eP (j:Int) n=ai:=ao7 (by omega) (by omega)
theorem tY {n b:Nat} (h0:n<=1099511627776) (h1:n*b<=1099511627776):a8 n b=ai:=by
 unfold a8;rw[bH h0,bH h1];rfl
theorem abm {n:Int} (h0: -9223372036854775808<=n) (h1:n<=9223372036854775807):bk .i64 n=n:=by
 rw[Ip];unfold No;simp only[];rw[qV h0,qV h1];rfl
theorem qd {i n:Nat} (h:i<n) (hn:n<=1099511627776):bk .i64 ((i:Int)+1)=((i+1:Nat):Int):=by
 rw[abm (by omega) (by omega)];omega
theorem zU (a b:Nat):iK (aP a) (aP b)=((max a b:Nat):Int):=by
 unfold iK;by_cases h:a<b
 .rw[uO (by simp;omega),aD rfl];simp;omega
 .rw[vQ (by simp;omega)];simp;omega
theorem s5 {T:Ty} (xs:List T.den) (i:Nat):aK xs (i:Int)=xs.getD i T.zero:=by unfold aK;simp
theorem l7 (xs:List η) (i:Nat):aK (T:=.sl (.int .i64)) xs (i:Int)=xs.getD i []:=s5 (T:=.sl (.int .i64)) xs i
theorem akv (xs:η) (i:Nat):aK (T:=.int .i64) xs (i:Int)=xs.getD i 0:=s5 (T:=.int .i64) xs i
theorem eD {α:Type} (xs:List α) (i:Nat) (x:α):cz xs (i:Int) x=xs.set i x:=by unfold cz;simp
structure cq where
 pre:Tm
 post:Tm
 m:pre.ty.den->Option post.ty.den
mutual
def ajo:PV->List TV->PT Nat->PT Nat×List TV
 |.d T,l,σ=>(σ,l.drop T.size)
 |.ptr i _,l,σ=>match l with|.ptr a _::r=>(σ.set i (af a),r)|l=>(σ,l.drop 1)
 |.row i,l,σ=>match l with|.row a::r=>(σ.set i (af a),r)|l=>(σ,l.drop 1)
 |.csl i _ _,l,σ=>match l with|.csl a _ _::r=>(σ.set i (af a),r)|l=>(σ,l.drop 1)
 |.mp i,l,σ=>match l with|.mp a::r=>(σ.set i (af a),r)|l=>(σ,l.drop 1)
 |.clo _ i _,l,σ=>match l with|.clo _ [.ptr a _]::r=>(σ.set i (af a),r)|l=>(σ,l.drop 1)
 |.nil,l,σ=>(σ,l.drop 1)
 |.emp,l,σ=>(σ,l.drop 1)
 |.agg ps,l,σ=>Xd ps l σ
def Xd:List PV->List TV->PT Nat->PT Nat×List TV
 |[],l,σ=>(σ,l)
 |p::r,l,σ=>match ajo p l σ with|(σ',l')=>Xd r l' σ'
end
def aov (p:PV) (v:TV) (σ:PT Nat):PT Nat:=match p with
 |.d _=>σ
 |p=>match v.cs with|some l=>(ajo p l σ).1|none=>σ
def aee:List PV->List TV->PT Nat->PT Nat
 |p::r,v::vs,σ=>aee r vs (aov p v σ)
 |_,_,σ=>σ
def Xe (h:bl):Nat->List PB->PT Nat->PT Nat
 |_,[],σ=>σ
 |i,b::r,σ=>Xe h (i+1) r (match b with
  |.cells _ ps=>(match σ.get i with
   |some a=>(match h.get a with|some (.cells _ l)=>(Xd ps l σ).1|_=>σ)
   |none=>σ)
  |_=>σ)
def ir (σ:PT Nat) (i:Nat):Nat:=match σ.get i with|some a=>a|none=>0
def ac1 (σ:PT Nat):Nat->Nat->Nat->Option Nat
 |0,_,acc=>af acc
 |n+1,i,acc=>match σ.get i with
  |some a=>if aN acc a then ah else ac1 σ n (i+1) (acc|||kZ a)
  |none=>ah
def idn:Nat->PT Nat
 |0=>.leaf
 |n+1=>(idn n).set n (af n)
def Ym (σ:PT Nat):Nat->Bool
 |0=>ai
 |n+1=>(match σ.get n with|some a=>aC a n|none=>aj)&&Ym σ n
structure ak2 (t:Tm) where
 x:t.ty.den
 m:Nat
 σ:PT Nat
 sm:Nat
def Fd (np:Nat) (t:Tm) (vs:List TV) (h:bl):Option (ak2 t):=
 SE (Xe h 0 t.bs (Xe h 0 t.bs (aee t.vs vs (idn np)))) λσ=>
 match ac1 σ t.bs.length 0 0 with
 |some sm=>(match yQ (ir σ) h t.vs vs with
  |some (x,m)=>(match Bz (ir σ) h 0 t.bs with
   |some (y,m')=>if Ei (m|||m') sm&&Ym σ np then af ⟨Vv _ _ x y,m|||m',σ,sm⟩ else ah
   |none=>ah)
  |none=>ah)
 |none=>ah
def PT.updI {α:Type} (f:Nat->α->α):Nat->Nat->PT α->PT α
 |_,_,.leaf=>.leaf
 |a,b,.node v l r=>.node (match v with|some x=>af (f b x)|none=>ah) (PT.updI f (2*a) (a+b) l) (PT.updI f (2*a) (2*a+b) r)
def eM (m:Nat) (h:bl):bl:=if aC m 0 then h else PT.updI (λi b=>if aN m i then vP b else b) 1 0 h
def VF:Operand->Bool
 |.const (.agg _)=>ai
 |_=>aj
def fZ (e:iZ):Operand->Option TV
 |.tmp t=>e.get t
 |.const v=>al1 v
 |.func g=>af (.clo g [])
 |.global g=>match G g with|some _=>af (.fel kwT [kwV] 0 (Eq.refl ai) 0)|none=>ah
def Gp (e:iZ):List Operand->Option (List TV)
 |[]=>af []
 |x::xs=>match fZ e x with|some y=>(match Gp e xs with|some I=>af (y::I)|none=>ah)|none=>ah
def Ki (cells:List TV) (e:iZ):List (Nat×Nat×Operand)->Option (List TV)
 |[]=>af cells
 |(off,sz,x)::r=>match fZ e x with
  |some v=>(match v.cs with
   |some cs=>if cs.length==sz&&eU (off+sz) cells.length then Ki (splice cells off cs) e r else ah
   |none=>ah)
  |none=>ah
def U_ (l:List TV) (off sz:Nat):Bool->Option TV
 |false=>if aC sz 1 then l[off]? else ah
 |true=>if eU (off+sz) l.length then af (.agg ((l.drop off).take sz)) else ah
def eL (h:bl) (id:Nat):Option (Bool×Nat×Nat):=match h.get id with
 |some (.rows _ p T xs)=>af (p,T.size,xs.length)
 |some (.dead p sz n)=>af (p,sz,n)
 |_=>ah
def lenOf (h:bl):TV->Option Nat
 |.f (.sl _) xs=>af (al xs)
 |.emp=>af 0
 |.nil=>af 0
 |.row id=>match eL h id with|some (_,_,n)=>af n|none=>ah
 |.csl _ _ n=>af n
 |_=>ah
mutual
def Ml (h:bl):TV->Bool
 |.row id=>(eL h id).isSome
 |.rtl id _=>(eL h id).isSome
 |.agg l=>lh h l
 |.tup l=>lh h l
 |.clo _ l=>lh h l
 |.f _ _=>ai
 |.fel _ _ _ _ _=>ai
 |.pel _ _ _ _=>ai
 |.ptr _ _=>ai
 |.csl _ _ _=>ai
 |.emp=>ai
 |.nil=>ai
 |.mp _=>ai
 |.undef=>ai
 |.np=>ai
 |.anyb=>ai
def lh (h:bl):List TV->Bool
 |[]=>ai
 |x::r=>Ml h x&&lh h r
end
mutual
def Mn (n:Nat):TV->Bool
 |.row id=>gz id n
 |.rtl id _=>gz id n
 |.pel id _ _ _=>gz id n
 |.ptr id _=>gz id n
 |.csl id _ _=>gz id n
 |.mp id=>gz id n
 |.agg l=>r9 n l
 |.tup l=>r9 n l
 |.clo _ l=>r9 n l
 |.f _ _=>ai
 |.fel _ _ _ _ _=>ai
 |.emp=>ai
 |.nil=>ai
 |.undef=>ai
 |.np=>ai
 |.anyb=>ai
def r9 (n:Nat):List TV->Bool
 |[]=>ai
 |x::r=>Mn n x&&r9 n r
end
def Dz (t:Tm) (x:t.ty.den):Option (List TV×bl):=
 match qE (λi=>i) t.vs (P1 _ _ x) with
 |some vs=>(match Ny (λi=>i) t.bs (Me _ _ x) PT.leaf with
  |some h=>if lh h vs&&r9 t.bs.length vs&&PT.all (λ_ b=>match b with|.cells _ l=>lh h l&&r9 t.bs.length l|_=>ai) 1 0 h then af (vs,h) else ah
  |none=>ah)
 |none=>ah
abbrev KO (R:Type):=TV->Nat->Nat->bl->Nat->Option R
def Ry:List TV->TV
 |[x]=>x
 |l=>.tup l
def Cl:List PB->Bool
 |[]=>ai
 |.gone::_=>aj
 |_::r=>Cl r
def IR:List PB->Bool
 |[]=>ai
 |.rows _ _ _::r=>IR r
 |_::_=>aj
def uz (h h2:bl) (g:Nat->Nat):Nat->Bool
 |0=>ai
 |n+1=>(match eL h (g n) with
  |some (p,s,k)=>(match eL h2 (g n) with|some (I,s',k')=>(p==I)&&aC s s'&&aC k k'|none=>aj)
  |none=>ai)&&uz h h2 g n
def YH {R:Type} (con:FuncId->Option cq) (f:FuncId) (l:List TV) (h:bl) (nx:Nat) (K:KO R):Option R:=
 match con f with
 |some c=>(match Fd 0 c.pre l h with
  |some ⟨x,m,σ,sm⟩=>(match Dz c.pre x with
   |some _=>obind (c.m x) λy=>(match Dz c.post y with
    |some _=>if eU c.pre.bs.length c.post.bs.length&&Cl c.pre.bs then
      let np:=c.pre.bs.length
      let I:=c.post.bs.length-np
      let g:=λi=>if gz i np then ir σ i else nx+(i-np)
      (match qE g c.post.vs (P1 _ _ y) with
      |some rs=>if !(aC m 0)&&aC c.post.bs.length 0&&(PV.tyL c.post.vs).flat then K (Ry rs) m 0 h nx else
       (match Ny g c.post.bs (Me _ _ y) (eM m h) with
       |some h2=>chk (uz h h2 g np) λ_=>K (Ry rs) (sm|||m) (sm|||m|||(((1<<<I)-1)<<<nx)) h2 (nx+I)
       |none=>ah)
      |none=>ah) else if aC c.post.bs.length 0&&IR c.pre.bs then
      let np:=c.pre.bs.length
      let g:=λi=>if gz i np then ir σ i else nx+(i-np)
      (match qE g c.post.vs (P1 _ _ y) with
      |some rs=>(match Ny g c.pre.bs (Me _ _ x) (eM m h) with
       |some h2=>K (Ry rs) (sm|||m) m h2 nx
       |none=>ah)
      |none=>ah) else ah
    |none=>ah)
   |none=>ah)
  |none=>ah)
 |none=>ah
def al9 {R:Type} (op:BinOp) (x y:TV) (q:TV->Option R):Option R:=
 match x,y with
 |.f (.int k) a,.f (.int k') b=>if k==k' then
   (match op with
   |.add=>q (.f (.int k) (bk k (a+b)))
   |.sub=>q (.f (.int k) (bk k (a-b)))
   |.mul=>q (.f (.int k) (bk k (a*b)))
   |.rem=>chk (!decide ((b:Int)=0)) λ_=>q (.f (.int k) (AG a b))
   |.quo=>chk (!decide ((b:Int)=0)) λ_=>q (.f (.int k) (bk k (Int.tdiv a b)))
   |.eql=>q (.f .bool (decide ((a:Int)=b)))
   |.neq=>q (.f .bool (!decide ((a:Int)=b)))
   |.lss=>q (.f .bool (gf a b))
   |.leq=>q (.f .bool (c_ a b))
   |.gtr=>q (.f .bool (gf b a))
   |.geq=>q (.f .bool (c_ b a))
   |_=>ah)
  else ah
 |.f .str a,.f .str b=>match op with
   |.eql=>q (.f .bool (decide ((a:ζ)=b)))
   |.neq=>q (.f .bool (!decide ((a:ζ)=b)))
   |_=>ah
 |_,_=>ah
def Zi:Bool->Ty->Bool
 |false,.int _=>ai
 |true,.str=>ai
 |_,_=>aj
abbrev itK:Ty:=.st (.pr .str (.int .i64))
def isIt:Ty->Bool
 |.st (.pr .str (.int .i64))=>ai
 |_=>aj
def Vt (K:Ty):Bool:= !isIt K
def Rb:List ((ζ×Int)×Unit)->ζ
 |[]=>[]
 |e::_=>e.1.1
def Pr:List ((ζ×Int)×Unit)->Nat
 |[]=>0
 |e::_=>aT e.1.2
def itE:(K V:Ty)->List (K.den×V.den)->Option (ζ×Nat)
 |.st (.pr .str (.int .i64)),.un,es=>af (Rb es,Pr es)
 |_,_,_=>ah
def mpE:(K V:Ty)->List (K.den×V.den)->Bool
 |.un,.un,[]=>ai
 |_,_,_=>aj
def zw (T:Ty):List TV->Option (List T.den)
 |[]=>af []
 |.f S v::r=>match xv (S:=S) T v with
  |some x=>(match zw T r with|some l=>af (x::l)|none=>ah)
  |none=>ah
 |_::_=>ah
def aeh:List TV->Option ((T:Ty)×List T.den)
 |.f T v::r=>match zw T (.f T v::r) with|some l=>af ⟨T,l⟩|none=>ah
 |_=>ah
def ao9 (n sz:Nat) (v:TV):Bool->Option ((T:Ty)×List T.den)
 |true=>ah
 |false=>if aC sz 1&& !v.isC then (match v.cs with|some l=>if aC l.length n then aeh l else ah|none=>ah) else ah
def arrB (n sz off:Nat):Option iE->Option ((T:Ty)×List T.den)
 |some (.cells _ l)=>if aC sz 1&&aC off 0&&aC l.length n then aeh l else ah
 |_=>ah
def ajh:Ty->Nat
 |.pr .un t=>ajh t+1
 |_=>0
def Ep:Option Ty->Option Nat
 |some (.pr .un t)=>af (ajh t)
 |_=>ah
def ajl {R:Type} (ty:TypeId) (sz bytes:Nat) (b y:TV) (h:bl) (nx:Nat) (K:KO R):Option R:=match y with
 |.csl id2 sz2 m=>(match h.get id2 with
  |some (.cells _ l2)=>if aC sz2 sz&&aC l2.length (m*sz)&& !(aC m 0) then (match b with
   |.csl id sz1 n=>(match h.get id with
    |some (.cells ty1 l)=>if aC sz1 sz&&ty1==ty&&aC l.length (n*sz)&& !(aC id id2) then
      chk (a8 (n+m) bytes) λ_=>K (.csl nx sz (n+m)) (kZ id|||kZ id2) (kZ id|||kZ nx) ((h.set id (af (.dead ai 0 0))).set nx (af (.cells ty (l++l2)))) (nx+1) else ah
    |_=>ah)
   |.nil=>chk (a8 m bytes) λ_=>K (.csl nx sz m) (kZ id2) (0|||kZ nx) ((eM 0 h).set nx (af (.cells ty l2))) (nx+1)
   |_=>ah) else ah
  |_=>ah)
 |_=>ah
def pkT (ok:Bool) (v b:TV):TV:=match ok with|true=>.tup [v,b]|false=>v
def d_ {R:Type} (con:FuncId->Option cq) (b9:TypeId->Option Ty) (o:SI) (e:iZ) (h:bl) (nx:Nat) (K:KO R):Option R:=
 match o with
 |.call f args=>match Gp e args with|some l=>YH con f l h nx K|none=>ah
 |.callv x args=>match fZ e x,Gp e args with
  |some (.clo f cap),af l=>YH con f (l++cap) h nx K
  |_,_=>ah
 |.op s=>match s with
  |.mksl ty sz bytes z l c=>match Ep (b9 ty) with
   |some n=>(match K9 z,fZ e l,fZ e c with
    |some J,af (.f (.int _) a),af (.f (.int _) b)=>chk (c_ 0 a&&c_ a b&&a8 (aT b) bytes&&decide ((a:Int)=aP n)) λ_=>K (.csl nx sz n) 0 (0|||kZ nx) ((eM 0 h).set nx (af (.cells ty (aG n J).flatten))) (nx+1)
    |_,_,_=>ah)
   |none=>match b9 ty,fZ e l,fZ e c with
   |some T,af (.f (.int _) a),af (.f (.int _) b)=>if aC sz T.size&&Uj z (tM T) then
     chk (c_ 0 a&&c_ a b&&a8 (aT b) bytes) λ_=>K (.row nx) 0 (kZ nx) (h.set nx (af (.rows ty aj T (aG (aT a) T.zero)))) (nx+1) else ah
   |_,_,_=>ah
  |.bsl ty sz len z parts=>match Ep (b9 ty) with
   |some _=>(match K9 z with
    |some J=>(match Ki ((aG len J).flatten) e parts with
     |some cs=>if aC len 0 then ah else K (.csl nx sz len) 0 (0|||kZ nx) ((eM 0 h).set nx (af (.cells ty cs))) (nx+1)
     |none=>ah)
    |none=>ah)
   |none=>match b9 ty,K9 z with
   |some T,af J=>if aC sz T.size then (match Ki ((aG len J).flatten) e parts with
    |some cs=>(match zG h T len cs with
     |some (xs,m)=>K (.row nx) m (m|||kZ nx) ((eM m h).set nx (af (.rows ty (aC len 0) T xs))) (nx+1)
     |none=>ah)
    |none=>ah) else ah
   |_,_=>ah
  |.app ty sz bytes s x=>match Ep (b9 ty) with
   |some _=>(match fZ e s,fZ e x with
    |some b,af y=>ajl ty sz bytes b y h nx K
    |_,_=>ah)
   |none=>match b9 ty,fZ e s,fZ e x with
   |some T,af b,af y=>if aC sz T.size then (match EA h (.sl T) y with
    |some (I,m)=>(match b with
     |.row id=>(match h.get id with
      |some (.rows ty' p S xs)=>(match xv (S:=.sl S) (.sl T) xs with
       |some xs=>if ty'==ty&& !(aN m id) then
         chk (a8 (al xs+al I) bytes) λ_=>K (.row nx) (kZ id|||m) (kZ id|||kZ nx) ((h.set id (af (.dead p sz (al xs)))).set nx (af (.rows ty p T (xs++I)))) (nx+1)
        else ah
       |none=>ah)
      |_=>ah)
     |.emp=>chk (a8 (al I) bytes) λ_=>K (.row nx) m (kZ nx) (h.set nx (af (.rows ty ai T I))) (nx+1)
     |.nil=>chk (a8 (al I) bytes) λ_=>K (.row nx) m (kZ nx) (h.set nx (af (.rows ty ai T I))) (nx+1)
     |_=>ah)
    |none=>ah) else ah
   |_,_,_=>ah
  |.copy sz d x=>match fZ e d,fZ e x with
   |some (.row id),af y=>(match h.get id with
    |some (.rows ty p T xs)=>if aC sz T.size then (match EA h (.sl T) y with
     |some (I,m)=>if !(aN m id)&& !p then
       K (.f (.int .i64) (aP (jd (al I) (al xs)))) (kZ id|||m) (kZ id) (h.set id (af (.rows ty p T (U0 xs I)))) nx else ah
     |none=>ah) else ah
    |_=>ah)
   |_,_=>ah
  |.clr sz z x=>match fZ e x with
   |some (.rtl id j)=>(match h.get id with
    |some (.rows ty p T xs)=>if (aC sz T.size&&Uj z (tM T))&&mS z then
      chk (c_ 0 j&&gf j (al xs)) λ_=>K (.tup []) (kZ id) (0|||kZ id) ((eM 0 h).set id (af (.rows ty p T (dI (aT j) xs++aG (al xs-aT j) T.zero)))) nx
     else ah
    |_=>ah)
   |_=>ah
  |.mv x=>match fZ e x with|some v=>K v 0 0 h nx|none=>ah
  |.pick c a b=>match fZ e c with
   |some (.f .bool t)=>bcase t (match fZ e a with|some v=>K v 0 0 h nx|none=>ah) (match fZ e b with|some v=>K v 0 0 h nx|none=>ah)
   |_=>ah
  |.alloc ty z=>match K9 z with
   |some l=>K (.ptr nx 0) 0 (kZ nx) (h.set nx (af (.cells ty l))) (nx+1)
   |none=>ah
  |.box ty x=>match fZ e x with
   |some v=>(match v.cs with|some l=>K (.ptr nx 0) 0 (kZ nx) (h.set nx (af (.cells ty l))) (nx+1)|none=>ah)
   |none=>ah
  |.build z parts=>match K9 z with
   |some l=>(match Ki l e parts with|some cs=>K (.agg cs) 0 0 h nx|none=>ah)
   |none=>ah
  |.load sz ag x=>match fZ e x with
   |some (.ptr id off)=>(match h.get id with
    |some (.cells _ l)=>(match U_ l off sz ag with|some v=>K v (kZ id) 0 h nx|none=>ah)
    |_=>ah)
   |some (.pel id sz' j off)=>(match h.get id with
    |some (.rows _ _ T xs)=>if aC sz' T.size then chk (eP j xs.length) λ_=>(match oI 40 T (aK xs j) off sz ag with|some v=>K v (kZ id) 0 h nx|none=>ah) else ah
    |some (.cells _ l)=>(match ag with
     |true=>ah
     |false=>if aC sz 1&&aC sz' 1&&aC off 0 then (match aeh l with
      |some ⟨T,xs⟩=>chk (eP j l.length) λ_=>K (.f T (aK xs j)) (kZ id) 0 h nx
      |none=>ah) else ah)
    |_=>ah)
   |some (.fel T xs j _ off)=>(match oI 40 T (aK xs j) off sz ag with|some v=>K v 0 0 h nx|none=>ah)
   |_=>ah
  |.store sz x v=>match fZ e x,fZ e v with
   |some (.ptr id off),af y=>(match h.get id with
    |some (.cells ty l)=>(match y.cs with
     |some cs=>if cs.length==sz&&eU (off+sz) l.length then K .undef (kZ id) (kZ id) (h.set id (af (.cells ty (splice l off cs)))) nx else ah
     |none=>ah)
    |_=>ah)
   |some (.pel id sz' j off),af y=>(match h.get id with
    |some (.rows ty p T xs)=>if aC sz' T.size then chk (eP j xs.length) λ_=>(match hX h y 40 T (aK xs j) off sz with
     |some (z,m)=>if aN m id then ah else K .undef (m|||kZ id) (m|||kZ id) ((eM m h).set id (af (.rows ty p T (cz xs j z)))) nx
     |none=>ah) else ah
    |some (.cells ty l)=>if aC sz 1&&(aC sz' 1&&aC off 0) then chk (eP j l.length) λ_=>(match y.cs with
     |some cs=>if aC cs.length 1 then K .undef (kZ id) (kZ id) (h.set id (af (.cells ty (splice l j.toNat cs)))) nx else ah
     |none=>ah) else ah
    |_=>ah)
   |_,_=>ah
  |.nilc x=>match fZ e x with
   |some (.ptr id off)=>K (.ptr id off) 0 0 h nx
   |some (.pel id sz j off)=>K (.pel id sz j off) 0 0 h nx
   |some (.fel T xs j hj off)=>K (.fel T xs j hj off) 0 0 h nx
   |some (.clo g cap)=>K (.clo g cap) 0 0 h nx
   |_=>ah
  |.bin op x y=>match fZ e x,fZ e y with
   |some u,af v=>al9 op u v λr=>K r 0 0 h nx
   |_,_=>ah
  |.eqs neg ds x y=>match rF ds,fZ e x,fZ e y with
   |some T,af u,af v=>if u.isC||v.isC||VF x||VF y then ah else (match u.cs,v.cs with
    |some lu,af lv=>(match fm PT.leaf 40 T lu,fm PT.leaf 40 T lv with
     |some (a,_,[]),af (b,_,[])=>K (.f .bool (N3 T a b !=neg)) 0 0 h nx
     |_,_=>ah)
    |_,_=>ah)
   |_,_,_=>ah
  |.isnil neg x=>match fZ e x with
   |some .nil=>K (.f .bool (!neg)) 0 0 h nx
   |some .emp=>K .anyb 0 0 h nx
   |some (.f (.sl _) xs)=>bcase (aC (al xs) 0) (K .anyb 0 0 h nx) (K (.f .bool neg) 0 0 h nx)
   |some (.row id)=>(match h.get id with
    |some (.rows _ aj _ _)=>K (.f .bool neg) 0 0 h nx
    |_=>ah)
   |_=>ah
  |.eqb neg x y=>match fZ e x,fZ e y with
   |some (.f .bool a),af (.f .bool b)=>K (.f .bool ((a==b) !=neg)) 0 0 h nx
   |_,_=>ah
  |.not x=>match fZ e x with|some (.f .bool b)=>K (.f .bool (!b)) 0 0 h nx|_=>ah
  |.conv k x=>match fZ e x with|some (.f (.int _) n)=>K (.f (.int k) (bk k n)) 0 0 h nx|_=>ah
  |.slc sz x lo hi mx=>match fZ e x with
   |some v=>(match lo,hi,mx with
    |none,af (.const (.int _ 0)),af (.const (.int _ 0))=>if (lenOf h v).isSome then K .emp 0 0 h nx else ah
    |none,af b,ah=>(match v,fZ e b with
     |.f (.sl T) xs,af (.f (.int _) j)=>if aC sz T.size then chk (c_ 0 j&&c_ j (al xs)) λ_=>K (.f (.sl T) (dI (aT j) xs)) 0 0 h nx else ah
     |.row id,af (.f (.int _) j)=>(match h.get id with
      |some (.rows ty p T xs)=>if aC sz T.size then
        chk (c_ 0 j&&gf j (al xs)) λ_=>K (.row nx) (kZ id) (kZ id|||kZ nx) ((h.set id (af (.dead p sz (al xs)))).set nx (af (.rows ty aj T (dI (aT j) xs)))) (nx+1)
       else ah
      |_=>ah)
     |_,_=>ah)
    |some b,ah,ah=>(match v,fZ e b with
     |.f (.sl T) xs,af (.f (.int _) j)=>if aC sz T.size then chk (c_ 0 j&&c_ j (al xs)) λ_=>K (.f (.sl T) (List.drop (aT j) xs)) 0 0 h nx else ah
     |.row id,af (.f (.int _) j)=>(match h.get id with
      |some (.rows _ _ T xs)=>if aC sz T.size then chk (c_ 0 j&&gf j (al xs)) λ_=>K (.rtl id j) 0 0 h nx else ah
      |_=>ah)
     |_,_=>ah)
    |_,_,_=>ah)
   |none=>ah
  |.fad off x=>match fZ e x with
   |some (.ptr id o)=>K (.ptr id (o+off)) 0 0 h nx
   |some (.pel id sz j o)=>K (.pel id sz j (o+off)) 0 0 h nx
   |some (.fel T xs j hj o)=>K (.fel T xs j hj (o+off)) 0 0 h nx
   |_=>ah
  |.fld off sz ag x=>match fZ e x with
   |some (.agg l)=>(match U_ l off sz ag with|some v=>K v 0 0 h nx|none=>ah)
   |some (.f T v)=>if T.one then ah else (match oI 40 T v off sz ag with|some v=>K v 0 0 h nx|none=>ah)
   |_=>ah
  |.iad sz x i=>match fZ e x,fZ e i with
   |some (.row id),af (.f (.int _) j)=>(match h.get id with
    |some (.rows _ _ T xs)=>if aC sz T.size then chk (eP j xs.length) λ_=>K (.pel id sz j 0) 0 0 h nx else ah
    |_=>ah)
   |some (.f (.sl T) xs),af (.f (.int _) j)=>if aC sz T.size then chk (eP j (al xs)) λhj=>K (.fel T xs j hj 0) 0 0 h nx else ah
   |some (.csl id sz' n),af (.f (.int _) j)=>if aC sz' sz then chk (c_ 0 j&&gf j n) λ_=>K (.ptr id (aT j*sz)) 0 0 h nx else ah
   |_,_=>ah
  |.iada n sz x i=>match fZ e x,fZ e i with
   |some (.ptr id off),af (.f (.int _) j)=>(match arrB n sz off (h.get id) with
    |some _=>chk (c_ 0 j&&gf j n) λ_=>K (.pel id sz j off) 0 0 h nx
    |none=>chk (c_ 0 j&&gf j n) λ_=>K (.ptr id (off+aT j*sz)) 0 0 h nx)
   |_,_=>ah
  |.idx n sz ag x i=>match fZ e x,fZ e i with
   |some v,af (.f (.int _) j)=>(match ao9 n sz v ag with
    |some ⟨T,xs⟩=>chk (c_ 0 j&&gf j n) λ_=>K (.f T (aK xs j)) 0 0 h nx
    |none=>(match v with
     |.agg l=>chk (c_ 0 j&&gf j n) λ_=>(match U_ l (aT j*sz) sz ag with|some v=>K v 0 0 h nx|none=>ah)
     |.f T v=>if T.one then ah else chk (c_ 0 j&&gf j n) λ_=>(match oI 40 T v (aT j*sz) sz ag with|some v=>K v 0 0 h nx|none=>ah)
     |_=>ah))
   |_,_=>ah
  |.ext x i=>match fZ e x with|some (.tup l)=>(match l[i]? with|some v=>K v 0 0 h nx|none=>ah)|_=>ah
  |.len x=>match fZ e x with
   |some v=>(match lenOf h v with|some n=>K (.f (.int .i64) (aP n)) 0 0 h nx|none=>ah)
   |none=>ah
  |.lens x=>match fZ e x with
   |some (.f .str s)=>K (.f (.int .i64) (aP (al s))) 0 0 h nx
   |_=>ah
  |.max x y=>match fZ e x,fZ e y with
   |some (.f (.int k) a),af (.f (.int k') b)=>if k==k' then K (.f (.int k) (iK a b)) 0 0 h nx else ah
   |_,_=>ah
  |.min x y=>match fZ e x,fZ e y with
   |some (.f (.int k) a),af (.f (.int k') b)=>if k==k' then K (.f (.int k) (HQ a b)) 0 0 h nx else ah
   |_,_=>ah
  |.sidx x i=>match fZ e x,fZ e i with
   |some (.f .str s),af (.f (.int _) j)=>chk (eP j (al s)) λ_=>K (.f (.int .u8) (Bc s j)) 0 0 h nx
   |_,_=>ah
  |.rng x=>match fZ e x with
   |some (.f .str s)=>K (.ptr nx 0) 0 (0|||kZ nx) ((eM 0 h).set nx (af (.mp itK .un [((s,0),())]))) (nx+1)
   |_=>ah
  |.nxt x=>match fZ e x with
   |some (.ptr id 0)=>(match h.get id with
    |some (.mp K' V es)=>(match itE K' V es with
     |some (s,p)=>bcase (gz p (al s)) (chk (gf (Bc s (aP p)) 128) λ_=>K (.tup [.f .bool ai,.f (.int .i64) (aP p),.f (.int .i32) (Bc s (aP p))]) (kZ id) (0|||kZ id) ((eM 0 h).set id (af (.mp itK .un [((s,aP (p+1)),())]))) nx)
       (K (.tup [.f .bool aj]) (kZ id) (0|||kZ id) ((eM 0 h).set id (af (.mp itK .un [((s,aP p),())]))) nx)
     |none=>ah)
    |_=>ah)
   |_=>ah
  |.mkm=>K (.mp nx) 0 (0|||kZ nx) ((eM 0 h).set nx (af (.mp .un .un []))) (nx+1)
  |.lku str ok z x k=>match fZ e x,fZ e k with
   |some (.mp id),af (.f KT M)=>(match h.get id with
    |some (.mp K' V es)=>if Zi str KT&&Vt K' then (match mpE K' V es with
     |true=>(match cst z with|some v=>K (pkT ok v (.f .bool aj)) (kZ id) 0 h nx|none=>ah)
     |false=>(match xv (S:=KT) K' M,cst z with
      |some kv',af (.f Z Y)=>(match xv (S:=Z) V Y with
       |some zv'=>K (pkT ok (.f V (Gt kv' es zv')) (.f .bool (Pk kv' es))) (kZ id) 0 h nx
       |none=>ah)
      |_,_=>ah)) else ah
    |_=>ah)
   |_,_=>ah
  |.mup str x k v=>match fZ e x,fZ e k,fZ e v with
   |some (.mp id),af (.f KT M),af (.f VT U)=>(match h.get id with
    |some (.mp K' V es)=>if (Zi str KT&&VT.one)&&Vt K' then (match mpE K' V es with
     |true=>K .undef (kZ id) (0|||kZ id) ((eM 0 h).set id (af (.mp KT VT [(M,U)]))) nx
     |false=>(match xv (S:=KT) K' M,xv (S:=VT) V U with
      |some kv',af vv'=>K .undef (kZ id) (0|||kZ id) ((eM 0 h).set id (af (.mp K' V (Jr kv' vv' es)))) nx
      |_,_=>ah)) else ah
    |_=>ah)
   |_,_,_=>ah
  |.lenm x=>match fZ e x with
   |some (.mp id)=>(match h.get id with
    |some (.mp K' _ es)=>if Vt K' then K (.f (.int .i64) (aP es.length)) (kZ id) 0 h nx else ah
    |_=>ah)
   |_=>ah
  |.mkf f caps=>match Gp e caps with|some l=>K (.clo f l) 0 0 h nx|none=>ah
  |_=>ah
def abp {R:Type} (e:iZ) (g:Option (Nat×Bool)) (K:Bool->iZ->Option R):Option R:=match g with
 |none=>K ai e
 |some (t,want)=>match e.get t with
  |some (.f .bool b)=>(match want with
   |true=>bcase b (K ai (e.set t (af (.f .bool ai)))) (K aj (e.set t (af (.f .bool aj))))
   |false=>bcase b (K aj (e.set t (af (.f .bool ai)))) (K ai (e.set t (af (.f .bool aj)))))
  |some .undef=>K aj e
  |_=>ah
def E4 (e:iZ) (d:Option Nat) (v:TV):iZ:=match d with
 |none=>e
 |some d=>e.set d (af v)
structure TS where
 e:iZ
 h:bl
 nx:Nat
def Mi {R:Type} (con:FuncId->Option cq) (b9:TypeId->Option Ty):List tj->TS->List FPm->(TS->List FPm->Option R)->Option R
 |[],s,fs,K=>K s fs.reverse
 |o::r,s,fs,K=>abp s.e o.guard λrun e=>match run with
  |true=>d_ con b9 o.op e s.h s.nx λv rd wr h nx=>if Ml h v then Mi con b9 r ⟨E4 e o.dst v,h,nx⟩ (⟨rd,wr⟩::fs) K else ah
  |false=>Mi con b9 r ⟨E4 e o.dst .undef,s.h,s.nx⟩ (⟨0,0⟩::fs) K
inductive Adj where
 |nil (k:Nat) (ty:TypeId) (T:Ty)
 |cel (k:Nat) (off:Nat) (ty:TypeId) (T:Ty)
 |mpt (k:Nat) (K V:Ty)
 |pk (k:Nat) (off:Nat) (T:Ty)
 |ren (k:Nat) (off:Nat)
mutual
def Md (id sz n:Nat):TV->TV
 |.csl i s m=>if aC i id&&aC s sz&&aC m n then .row id else .csl i s m
 |.agg l=>.agg (C7 id sz n l)
 |.tup l=>.tup (C7 id sz n l)
 |.clo g l=>.clo g (C7 id sz n l)
 |.f T v=>.f T v
 |.fel T xs j h off=>.fel T xs j h off
 |.pel a b c d=>.pel a b c d
 |.ptr a b=>.ptr a b
 |.row a=>.row a
 |.rtl a j=>.rtl a j
 |.emp=>.emp
 |.nil=>.nil
 |.mp a=>.mp a
 |.undef=>.undef
 |.np=>.np
 |.anyb=>.anyb
def C7 (id sz n:Nat):List TV->List TV
 |[]=>[]
 |x::r=>Md id sz n x::C7 id sz n r
end
def Y5 (id sz n:Nat):iE->iE
 |.cells ty l=>.cells ty (C7 id sz n l)
 |.rows ty p T xs=>.rows ty p T xs
 |.dead p s m=>.dead p s m
 |.mp K V es=>.mp K V es
def aot (s:TS) (k off:Nat):Option (Nat×Nat×Nat):=match s.e.get k with
 |some (.csl id sz n)=>af (id,sz,n)
 |some (.agg l)=>(match l[off]? with|some (.csl id sz n)=>af (id,sz,n)|_=>ah)
 |some (.ptr a o)=>(match s.h.get a with
  |some (.cells _ l)=>(match l[o+off]? with|some (.csl id sz n)=>af (id,sz,n)|_=>ah)
  |_=>ah)
 |_=>ah
def pkS (s:TS) (T:Ty) (id sz n:Nat):Option TS:=match s.h.get id with
 |some (.cells ty l)=>if aC sz T.size then (match zG s.h T n l with
  |some (xs,m)=>if aN m id then ah else af ⟨PT.updI (λ_ v=>Md id sz n v) 1 0 s.e,(PT.updI (λ_ b=>Y5 id sz n b) 1 0 (eM m s.h)).set id (af (.rows ty aj T xs)),s.nx⟩
  |none=>ah) else ah
 |_=>ah
def agq:TV->Bool
 |.nil=>ai
 |.emp=>ai
 |_=>aj
def anz:Option TV->Option (Nat×Nat)
 |some (.ptr id o)=>af (id,o)
 |some (.csl id _ _)=>af (id,0)
 |_=>ah
def QR (s:TS):Adj->Option TS
 |.nil k ty T=>match s.e.get k with
  |some v=>if agq v then af ⟨s.e.set k (af (.row s.nx)),s.h.set s.nx (af (.rows ty ai T [])),s.nx+1⟩ else af s
  |none=>ah
 |.cel k off ty T=>match anz (s.e.get k) with
  |some (id,o)=>(match s.h.get id with
   |some (.cells cty l)=>(match l[o+off]? with
    |some v=>if agq v then af ⟨s.e,(s.h.set s.nx (af (.rows ty ai T []))).set id (af (.cells cty (splice l (o+off) [.row s.nx]))),s.nx+1⟩ else af s
    |none=>ah)
   |_=>ah)
  |_=>ah
 |.mpt k K V=>match s.e.get k with
  |some (.mp id)=>(match s.h.get id with
   |some (.mp K' V' es)=>(match mpE K' V' es&&Vt K with
    |true=>af ⟨s.e,s.h.set id (af (.mp K V [])),s.nx⟩
    |false=>af s)
   |_=>ah)
  |_=>ah
 |.pk k off T=>match aot s k off with
  |some (id,sz,n)=>pkS s T id sz n
  |none=>ah
 |.ren k off=>match s.e.get k with
  |some (.ptr b o)=>(match s.h.get b with
   |some (.cells cty l)=>(match l[o+off]? with
    |some (.row id)=>(match s.h.get id with
     |some (.rows ty p T xs)=>af ⟨s.e,((s.h.set id (af (.dead p T.size xs.length))).set s.nx (af (.rows ty p T xs))).set b (af (.cells cty (splice l (o+off) [.row s.nx]))),s.nx+1⟩
     |_=>ah)
    |_=>ah)
   |_=>ah)
  |some (.row id)=>(match s.h.get id with
   |some (.rows ty p T xs)=>af ⟨s.e.set k (af (.row s.nx)),(s.h.set id (af (.dead p T.size xs.length))).set s.nx (af (.rows ty p T xs)),s.nx+1⟩
   |_=>ah)
  |_=>ah
def aa6 (s:TS):List Adj->Option TS
 |[]=>af s
 |a::r=>match QR s a with|some s'=>aa6 s' r|none=>ah
structure Ann where
 keep:ι
 ks:ι
 t:Tm
 pre:List Adj
abbrev Ann.D (A:Ann):Type:=A.t.ty.den
mutual
def uP:TV->Bool
 |.f _ _=>ai
 |.fel _ _ _ _ _=>ai
 |.emp=>ai
 |.nil=>ai
 |.undef=>ai
 |.np=>ai
 |.anyb=>ai
 |.agg l=>qW l
 |.tup l=>qW l
 |.pel _ _ _ _=>aj
 |.ptr _ _=>aj
 |.csl _ _ _=>aj
 |.row _=>aj
 |.rtl _ _=>aj
 |.mp _=>aj
 |.clo _ _=>aj
def qW:List TV->Bool
 |[]=>ai
 |x::r=>uP x&&qW r
end
def Dx (am:Nat) (e:iZ):ι->iZ
 |[]=>PT.leaf
 |k::r=>match e.get k with|some v=>if uP v&& !(aN am k) then (Dx am e r).set k (af v) else Dx am e r|none=>Dx am e r
def oD (e:iZ):ι->Option (List TV)
 |[]=>af []
 |k::r=>match e.get k with|some v=>(match oD e r with|some l=>af (v::l)|none=>ah)|none=>ah
def Y7 (e:iZ):ι->List TV->iZ
 |k::r,v::l=>(Y7 e r l).set k (af v)
 |_,_=>e
def IA (am:Nat) (e0 e:iZ):ι->Bool
 |[]=>ai
 |k::r=>(match e0.get k with
  |some v=> !(uP v)||aN am k||(match e.get k with|some _=>ai|none=>aj)
  |none=>ai)&&IA am e0 e r
def MP (np:Nat) (A:Ann) (am:Nat) (I s:TS):Option A.D:=if eU np A.t.bs.length&&IA am I.e s.e A.keep then (match aa6 s A.pre with
 |some s=>(match oD s.e A.ks with
  |some vs=>(match Fd np A.t vs s.h with
   |some ⟨x,_,_,_⟩=>af x
   |none=>ah)
  |none=>ah)
 |none=>ah) else ah
def HJ (A:Ann) (am:Nat) (s:TS) (x:A.D):Option TS:=match Dz A.t x with
 |some (vs,h)=>if aC vs.length A.ks.length then af ⟨Y7 (Dx am s.e A.keep) A.ks vs,h,A.t.bs.length⟩ else ah
 |none=>ah
inductive TC where
 |skip
 |reg (ops:List tj) (prs:List (Nat×Nat))
 |seq (a b:TC)
 |jseq (A:Ann) (a b:TC)
 |cond (c:Nat) (a b:TC)
 |block (id:Nat) (b:TC)
 |jblock (A:Ann) (id:Nat) (b:TC)
 |loop (A:Ann) (b:TC)
 |exit (id:Nat)
 |ret
 |defer (f:FuncId) (caps:List Operand) (t:Nat)
 |adj (l:List Adj) (c:TC)
 |split (k off lo n:Nat) (c:TC)
 |unl (n:Nat) (b:TC)
 |bad
def QN:List tj->Nat->Nat
 |[],acc=>acc
 |o::r,acc=>QN r (match o.dst with|some d=>acc|||kZ d|none=>acc)
def Mo:ι->Nat->Nat
 |[],acc=>acc
 |k::r,acc=>Mo r (acc|||kZ k)
def oV:List Adj->Nat->Nat
 |[],acc=>acc
 |.nil k _ _::r,acc=>oV r (acc|||kZ k)
 |.cel _ _ _ _::r,acc=>oV r acc
 |.mpt _ _ _::r,acc=>oV r acc
 |.pk _ _ _::r,acc=>oV r acc
 |.ren k _::r,acc=>oV r (acc|||kZ k)
def TC.asg:TC->Nat->Nat
 |.reg ops _,acc=>QN ops acc
 |.seq a b,acc=>b.asg (a.asg acc)
 |.jseq A a b,acc=>b.asg (a.asg (Mo A.ks acc))
 |.cond _ a b,acc=>b.asg (a.asg acc)
 |.block _ b,acc=>b.asg acc
 |.jblock A _ b,acc=>b.asg (Mo A.ks acc)
 |.loop A b,acc=>b.asg (Mo A.ks acc)
 |.defer _ _ t,acc=>acc|||kZ t
 |.adj l c,acc=>c.asg (oV l acc)
 |.split _ _ _ _ c,acc=>c.asg acc
 |.unl _ b,acc=>b.asg acc
 |.skip,acc=>acc
 |.exit _,acc=>acc
 |.ret,acc=>acc
 |.bad,acc=>acc
inductive afc where
 |j (A:Ann)
 |a (l:List Adj)
 |s (k off lo n:Nat)
 |u (n:Nat)
def IZ (H:PT afc) (n:Nat) (c:TC):TC:=match H.get n with|some (.a l)=>.adj l c|some (.s k off lo m)=>.split k off lo m c|_=>c
def Ek (H:PT afc):SC->Nat->TC×Nat
 |.skip,n=>(IZ H n .skip,n+1)
 |.reg o p,n=>(IZ H n (.reg o p),n+1)
 |.seq a b,n=>match Ek H a (n+1) with
  |(a',k)=>(match Ek H b k with|(b',k')=>((match H.get n with|some (.j A)=>.jseq A a' b'|_=>.seq a' b'),k'))
 |.cond c a b,n=>match Ek H a (n+1) with
  |(a',k)=>(match Ek H b k with|(b',k')=>(IZ H n (.cond c a' b'),k'))
 |.block id b,n=>match Ek H b (n+1) with|(b',k)=>((match H.get n with|some (.j A)=>.jblock A id b'|_=>.block id b'),k)
 |.loop b,n=>match Ek H b (n+1) with|(b',k)=>((match H.get n with|some (.j A)=>.loop A b'|some (.u m)=>.unl m b'|_=>.bad),k)
 |.exit id,n=>(IZ H n (.exit id),n+1)
 |.ret,n=>(IZ H n .ret,n+1)
 |.defer f c t,n=>(.defer f c t,n+1)
 |.bad,n=>(.bad,n+1)
def ad3 (s:TS) (k off:Nat):Option (IntKind×Int):=match s.e.get k with
 |some (.f (.int kd) v)=>af (kd,v)
 |some (.ptr a o)=>(match s.h.get a with
  |some (.cells _ l)=>(match l[o+off]? with|some (.f (.int kd) v)=>af (kd,v)|_=>ah)
  |_=>ah)
 |_=>ah
def Vd (s:TS) (k off:Nat) (kd:IntKind) (v:Int):Option TS:=match s.e.get k with
 |some (.f (.int _) _)=>af ⟨s.e.set k (af (.f (.int kd) v)),s.h,s.nx⟩
 |some (.ptr a o)=>(match s.h.get a with
  |some (.cells ty l)=>af ⟨s.e,s.h.set a (af (.cells ty (splice l (o+off) [.f (.int kd) v]))),s.nx⟩
  |_=>ah)
 |_=>ah
def spl {R:Type} (v:Int) (f:Nat->Option R):Nat->Nat->Option R
 |_,0=>ah
 |i,m+1=>bcase (decide ((v:Int)=aP i)) (f i) (spl v f (i+1) m)
def afv {R:Type} (f:TS->(Ex->TS->Option R)->Option R):Nat->TS->(Ex->TS->Option R)->Option R
 |0,_,_=>ah
 |m+1,s,K=>f s λex s'=>match ex with
  |.normal=>afv f m s' K
  |ex=>K ex s'
def pD {R:Type} (np:Nat) (con:FuncId->Option cq) (b9:TypeId->Option Ty) (inert:FuncId->Bool):TC->TS->(Ex->TS->Option R)->Option R
 |.skip,s,K=>K .normal s
 |.reg ops prs,s,K=>Mi con b9 ops s [] λs' fs=>if Gn fs prs then K .normal s' else ah
 |.seq a b,s,K=>pD np con b9 inert a s λex s'=>match ex with|.normal=>pD np con b9 inert b s' K|ex=>K ex s'
 |.jseq A a b,s,K=>jn (pD np con b9 inert a s λex s'=>match ex with
   |.normal=>obind (MP np A (a.asg 0) s s') λx=>af (.inr x)
   |ex=>obind (K ex s') λr=>af (.inl r)) λx=>(match HJ A (a.asg 0) s x with|some s'=>pD np con b9 inert b s' K|none=>ah)
 |.cond c a b,s,K=>match s.e.get c with
  |some (.f .bool t)=>bcase t (pD np con b9 inert a s K) (pD np con b9 inert b s K)
  |some .anyb=>F5 (pD np con b9 inert a s K) (pD np con b9 inert b s K)
  |_=>ah
 |.block id b,s,K=>pD np con b9 inert b s λex s'=>match ex with
  |.exit i=>if aC i id then K .normal s' else K (.exit i) s'
  |ex=>K ex s'
 |.jblock A id b,s,K=>jn (pD np con b9 inert b s λex s'=>match ex with
   |.normal=>obind (MP np A (b.asg 0) s s') λx=>af (.inr x)
   |.exit i=>if aC i id then obind (MP np A (b.asg 0) s s') λx=>af (.inr x) else obind (K (.exit i) s') λr=>af (.inl r)
   |.ret=>obind (K .ret s') λr=>af (.inl r)) λx=>(match HJ A (b.asg 0) s x with|some s'=>K .normal s'|none=>ah)
 |.loop A b,s,K=>obind (MP np A (b.asg 0) s s) λx=>iter (λx=>match HJ A (b.asg 0) s x with
   |some s'=>pD np con b9 inert b s' λex s'=>(match ex with
    |.normal=>obind (MP np A (b.asg 0) s s') λy=>af (.inl y)
    |ex=>obind (K ex s') λr=>af (.inr r))
   |none=>ah) x
 |.exit id,s,K=>K (.exit id) s
 |.ret,s,K=>K .ret s
 |.defer f caps t,s,K=>match Gp s.e caps with
  |some l=>if inert f then K .normal ⟨s.e.set t (af (.clo f l)),s.h,s.nx⟩ else ah
  |none=>ah
 |.adj l c,s,K=>match aa6 s l with|some s'=>pD np con b9 inert c s' K|none=>ah
 |.split k off lo n c,s,K=>match ad3 s k off with
  |some (kd,v)=>spl v (λi=>match Vd s k off kd (aP i) with|some s'=>pD np con b9 inert c s' K|none=>ah) lo n
  |none=>ah
 |.unl n b,s,K=>afv (λs K=>pD np con b9 inert b s K) n s K
 |.bad,_,_=>ah
def LD:Nat->List TV->iZ
 |_,[]=>PT.leaf
 |k,x::r=>(LD (k+1) r).set k (af x)
def rvT (s:TS):RV->Option TV
 |.tmp t=>s.e.get t
 |.cell a sz ag=>match s.e.get a with
  |some (.ptr id off)=>(match s.h.get id with|some (.cells _ l)=>U_ l off sz ag|_=>ah)
  |_=>ah
def Vf (s:TS):List RV->Option (List TV)
 |[]=>af []
 |x::r=>match rvT s x with|some v=>(match Vf s r with|some l=>af (v::l)|none=>ah)|none=>ah
structure FT where
 pre:Tm
 post:Tm
 hints:PT afc
def abx (con:FuncId->Option cq) (b9:TypeId->Option Ty) (inert:FuncId->Bool) (F:Option SF) (D:FT) (x:D.pre.ty.den):Option D.post.ty.den:=
 match F with
 |some I=>(match Dz D.pre x with
  |some (args,h)=>if eU args.length I.nt&&eU D.pre.bs.length D.post.bs.length then
    pD D.pre.bs.length con b9 inert (Ek D.hints I.code 0).1 ⟨LD 0 args,h,D.pre.bs.length⟩ λex s=>(match ex with
    |.exit _=>ah
    |_=>(match Vf s I.res with
     |some l=>(match Fd D.pre.bs.length D.post l s.h with
      |some ⟨y,_,_,_⟩=>(match Dz D.post y with|some _=>af y|none=>ah)
      |none=>ah)
     |none=>ah)) else ah
  |none=>ah)
 |none=>ah
abbrev aM:Ty:=(.int .i64)
abbrev kK:Ty:=(.st (.pr .str (.pr aM (.pr aM (.pr .bool aM)))))
abbrev su:Ty:=(.st (.pr .str .bool))
abbrev ma:Ty:=(.st (.pr .str aM))
abbrev pj:Ty:=(.st (.pr aM (.pr aM aM)))
abbrev mb:Ty:=(.st (.pr (.sl kK) (.pr (.sl su) (.pr (.sl ma) (.pr (.sl .str) (.pr (.sl .str) (.sl pj)))))))
abbrev kg:Ty:=(.sl (.sl aM))
abbrev fe:Ty:=(.st (.pr aM (.pr (.sl aM) (.pr kg aM))))
abbrev rA:Ty:=(.st (.pr aM (.pr aM (.pr aM (.pr aM (.pr aM aM))))))
abbrev eh:Ty:=(.st (.pr aM (.sl aM)))
abbrev qz:Ty:=(.sl .bool)
abbrev im:Ty:=(.st (.pr aM (.pr aM .bool)))
abbrev Ij:Ty:=(.st (.pr (.sl eh) (.pr aM (.pr qz (.sl im)))))
abbrev gr:Ty:=(.st (.pr aM (.pr aM (.pr aM (.pr aM (.pr aM (.pr (.sl aM) (.sl aM))))))))
abbrev HG:Ty:=(.st (.pr aM (.pr aM (.pr .str (.pr aM (.pr aM .str))))))
abbrev tK:Ty:=(.st (.pr .str (.pr aM (.pr (.sl .str) (.sl .sm)))))
abbrev OH:Ty:=(.st (.pr (.sl HG) (.sl tK)))
abbrev xB:Ty:=(.st (.pr aM (.sl rA)))
abbrev vi:Ty:=(.st (.pr mb (.sl xB)))
abbrev wF:Ty:=(.st (.pr Ij (.pr (.sl aM) (.pr (.sl aM) (.sl fe)))))
abbrev i_:Ty:=(.st (.pr Ij (.pr (.sl aM) (.pr (.sl aM) (.sl aM)))))
abbrev EH:Ty:=(.sl (.int .u8))
abbrev zA:Ty:=(.st (.pr EH aM))
abbrev gQ:Ty:=(.st (.pr aM aM))
abbrev mU:Ty:=(.st (.pr mb (.sl gr)))
abbrev Ur:=(ζ×Int×Int×Bool×Int)
abbrev gY:=(List Ur)
abbrev gI:=(List (ζ×Bool))
abbrev fE:=(ζ×Int)
abbrev cj:=(List ζ)
abbrev dt:=(gY×gI×(List fE)×cj×cj×List ν)
abbrev sr:=(gY×gI×(List fE)×cj×cj×(List ν)×cj×Int×Int)
abbrev gP:=(List (Int×η))
abbrev dF:=(Int×Int×Bool)
abbrev pB:=(gP×Int×θ×List dF)
abbrev uw:=(Int×η×(List η)×Int)
abbrev jZ:=(ω)
abbrev gd:=(Int×Int×Int×Int×Int×η×η)
abbrev aen:=(Int×Int×ζ×Int×Int×ζ)
abbrev sQ:=(List aen)
abbrev sP:=(ζ×Int×cj×List Sx)
abbrev zB:=(Int×Int×Bool×Bool×Bool×Bool)
abbrev Az:=(dt×List (Int×List jZ))
abbrev wC:=(υ)
abbrev eQ:=(pB×η×η×η)
abbrev fH:=(η×Int)
abbrev xz:=(pB×η×η×List uw)
abbrev If:=(Int×Int×ζ×ζ×Int×Int×ζ)
abbrev rB:=(sQ×(List sP)×Int)
abbrev Us:=(Bool×List ζ)
abbrev Ya23:=(Int×Int×uw×uw×Int×η×(List η)×Int)
abbrev Ya24:=(uw×Int×Int×uw×Int×η×(List η)×Int)
abbrev Ya25:=(uw×uw×Int×Int×Int×η×(List η)×Int)
abbrev aep:=((List Sx)×zB×fH×Bool×List ζ)
abbrev Ya27:=(Int×Int×uw×Int×η×(List η)×Int)
abbrev Ya28:=(uw×Int×Int×Int×η×(List η)×Int)
abbrev Ya29:=(Int×Int×Int×η×(List η)×Int)
abbrev aa8:=(Int×zB×fH×Bool×List ζ)
abbrev aeo:=(Sx×zB×fH×Bool×List ζ)
abbrev ai2:=(Γ×rB×(Bool×List Sx)×cj×List ζ)
abbrev Nd:=(Sx×sr×List jZ)
abbrev ED:=(xz×gd×Bool)
abbrev aem:=((Sx×Int×Int×Int)×sr×List jZ)
abbrev ai1:=(Γ×zB×fH×Bool×List ζ)
abbrev ai0:=(fE×zB×fH×Bool×List ζ)
abbrev aa7:=(zB×fH×Us×List Sx)
abbrev ahz:=(Xp×zB×fH×Bool×List ζ)
abbrev Ya42:=(uw×uw×uw×Int×Int)
abbrev ael:=((List Sx)×sr×List jZ)
abbrev aZ {α:Type} (l:List α):Int:=aP (al l)
abbrev cH (n:Int):Int:=bk .i64 (n+1)
abbrev aF {R α:Type} (x:α):Option (R⊕α):=af (bO x)
abbrev cK {R α:Type} (x:R):Option (R⊕α):=af (kO x)
abbrev bD {R:Type} (T:Ty) (l:List T.den) (j:Int) (k:T.den->Option R):Option R:=chk (eP j (al l)) λ_=>lt (aK (T:=T) l j) k
abbrev kl {R:Type} (T:Ty) (l:List T.den) (j:Int) (k:T.den->Option R):Option R:=chk (eP j (al l)) λ_=>chk (eP j (al l)) λ_=>lt (aK (T:=T) l j) k
abbrev vp {R α:Type} (j:Int) (l:List α) (k:Option R):Option R:=chk (eP j (al l)) λ_=>k
abbrev bE {R:Type} (b:Bool) (k:Option R):Option R:=chk b λ_=>k
abbrev bd {R:Type} (a b:Int) (t f:Option R):Option R:=bcase (decide (a=b)) t f
abbrev iO {R:Type} (a b:Int) (t f:Option R):Option R:=bcase (!decide (a=b)) t f
abbrev bA {R:Type} (a b:Int) (t f:Option R):Option R:=bcase (gf a b) t f
abbrev iY {R:Type} (a b:Int) (t f:Option R):Option R:=bcase (c_ a b) t f
def ck {R:Type} (b:Bool) (k:Option R):Option R:=chk b λ_=>chk b λ_=>k
def eA (s:Sx):Sx:=oq (Sx.op s,Sx.line s,Sx.name s,Sx.arg s,Sx.index s,em (Xp.op (Sx.expr s),Xp.n (Sx.expr s),Xp.name (Sx.expr s),Xp.l (Sx.expr s)),Sx.body s,Sx.els s)
def kF (x:Unit):Option cj:=
 (af ([[118,97,114],[118,111,108,97,116,105,108,101],[109,117,116,101,120],[114,119,108,111,99,107],[99,111,110,100],[102,117,116,117,114,101],[116,104,114,101,97,100],[105,102],[101,108,115,101],[119,104,105,108,101],[108,111,99,107],[114,101,97,100],[119,114,105,116,101],[116,114,97,110,115,97,99,116,105,111,110],[97,116,111,109,105,99],[119,97,105,116],[110,111,116,105,102,121],[110,111,116,105,102,121,97,108,108],[115,112,97,119,110],[106,111,105,110],[115,101,116],[103,101,116]]))
def jO (x:ζ):Option (Bool):=
 (obind (kF ()) λJ=>(iter (σ:=Int) (λI=>(bA I (aZ J) (bD (.str) J I λM=>(bcase (decide ((M:ζ)=x)) (aF ai) (cK (cH I)))) (aF aj))) 0))
def lJ (x:Int):Option (Bool):=
 (jn (α:=Bool) (iY 97 x (iY x 122 (aF ai) (iY 65 x (aF (c_ x 90)) (aF aj))) (iY 65 x (aF (c_ x 90)) (aF aj))) λI=>(af I))
def rW (x:Int):Option (Bool):=
 (jn (α:=Bool) (iY 48 x (aF (c_ x 57)) (aF aj)) λI=>(af I))
def pQ (x:Int):Option (Bool):=
 (jn (α:=Bool) (obind (lJ x) λJ=>(bcase J (aF ai) (obind (rW x) λI=>(bcase I (aF ai) (aF (decide ((x:Int)=95))))))) λM=>(af M))
def fA (x:ζ):Option (Bool):=
 (jn (α:=Bool) (bA (aZ x) 1 (aF ai) (bA 12 (aZ x) (aF ai) (vp 0 x (obind (lJ (Bc x 0)) λU=>(bcase (!U) (aF ai) (obind (jO x) λM=>(aF M))))))) λY=>(bcase Y (af aj) (iter (σ:=Int) (λI=>(bA I (aZ x) (vp I x (obind (pQ (Bc x I)) λJ=>(bcase (!J) (aF aj) (cK (cH I))))) (aF ai))) 0)))
def gk (x:Bool):Option (Int):=
 (bcase x (af 1) (af 0))
def uM (x:Γ):Option (Int×Bool):=
 (bd x.1 4 (af ((bk .i64 (0-x.2)),ai)) (bd x.1 5 (obind (gk (decide ((x.2:Int)=0))) λI=>(af (I,ai))) (af (0,aj))))
def sV (x:ν):Option (Int×Bool):=
 (bd x.1 6 (af ((bk .i64 (x.2.1+x.2.2)),ai)) (bd x.1 7 (af ((bk .i64 (x.2.1-x.2.2)),ai)) (bd x.1 8 (af ((bk .i64 (x.2.1*x.2.2)),ai)) (bd x.1 9 (bd x.2.2 0 (af (0,ai)) (bE (!decide ((x.2.2:Int)=0)) (af ((bk .i64 (Int.tdiv x.2.1 x.2.2)),ai)))) (bd x.1 10 (bd x.2.2 0 (af (0,ai)) (bE (!decide ((x.2.2:Int)=0)) (af ((AG x.2.1 x.2.2),ai)))) (bd x.1 11 (obind (gk (decide ((x.2.1:Int)=x.2.2))) λy1=>(af (y1,ai))) (bd x.1 12 (obind (gk (!decide ((x.2.1:Int)=x.2.2))) λy2=>(af (y2,ai))) (bd x.1 13 (obind (gk (gf x.2.1 x.2.2)) λy3=>(af (y3,ai))) (bd x.1 14 (obind (gk (c_ x.2.1 x.2.2)) λy4=>(af (y4,ai))) (bd x.1 15 (obind (gk (gf x.2.2 x.2.1)) λy5=>(af (y5,ai))) (bd x.1 16 (obind (gk (c_ x.2.2 x.2.1)) λZ=>(af (Z,ai))) (bd x.1 17 (jn (α:=Int×Bool) (iO x.2.1 0 (obind (gk (!decide ((x.2.2:Int)=0))) λY=>(aF (Y,ai))) (obind (gk aj) λU=>(aF (U,ai)))) λx7=>(af x7)) (bd x.1 18 (jn (α:=Int×Bool) (iO x.2.1 0 (obind (gk ai) λJ=>(aF (J,ai))) (obind (gk (!decide ((x.2.2:Int)=0))) λI=>(aF (I,ai)))) λM=>(af M)) (af (0,aj)))))))))))))))
def rU (x:Γ):Option (Int):=
 (bA x.2 1 (af 0) (bE (!decide ((x.2:Int)=0)) (jn (α:=Int) (bA (AG x.1 x.2) 0 (aF (bk .i64 ((AG x.1 x.2)+x.2))) (aF (AG x.1 x.2))) λI=>(af I))))
def mF (x:Int):Option (Int):=
 (jn (α:=Bool) (bd x 1 (aF ai) (aF (decide ((x:Int)=2)))) λM=>(bcase M (af 0) (jn (α:=Bool) (iY 3 x (aF (c_ x 5)) (aF aj)) λJ=>(bcase J (af 1) (jn (α:=Bool) (iY 6 x (aF (c_ x 18)) (aF aj)) λI=>(bcase I (af 2) (af (-1))))))))
def mm (rr02_ShapedExpr:Xp->Option (Bool)) (x:Xp):Option (Bool):=
 (jn (α:=Bool×Xp) (bd (Xp.op x) 2 (aF (ai,em ((Xp.op x),(Xp.n x),(Xp.name x),(Xp.l x)))) (aF ((decide (((Xp.op x):Int)=3)),em ((Xp.op x),(Xp.n x),(Xp.name x),(Xp.l x))))) λI=>(jn (α:=Bool×Xp) (obind (mF (Xp.op I.2)) λy3=>(iO y3 (aP (al (Xp.l I.2))) (aF (ai,em ((Xp.op I.2),(Xp.n I.2),(Xp.name I.2),(Xp.l I.2)))) (bcase ((I.1==(!decide (((Xp.name I.2):ζ)=([])))) !=ai) (aF (ai,em ((Xp.op I.2),(Xp.n I.2),(Xp.name I.2),(Xp.l I.2)))) (bcase I.1 (obind (fA (Xp.name I.2)) λZ=>(bcase (!Z) (aF (ai,em ((Xp.op I.2),(Xp.n I.2),(Xp.name I.2),(Xp.l I.2)))) (bA (Xp.n I.2) 0 (aF (ai,em ((Xp.op I.2),(Xp.n I.2),(Xp.name I.2),(Xp.l I.2)))) (iO (Xp.op I.2) 1 (aF ((!decide (((Xp.n I.2):Int)=0)),em ((Xp.op I.2),(Xp.n I.2),(Xp.name I.2),(Xp.l I.2)))) (aF (aj,em ((Xp.op I.2),(Xp.n I.2),(Xp.name I.2),(Xp.l I.2)))))))) (bA (Xp.n I.2) 0 (aF (ai,em ((Xp.op I.2),(Xp.n I.2),(Xp.name I.2),(Xp.l I.2)))) (iO (Xp.op I.2) 1 (aF ((!decide (((Xp.n I.2):Int)=0)),em ((Xp.op I.2),(Xp.n I.2),(Xp.name I.2),(Xp.l I.2)))) (aF (aj,em ((Xp.op I.2),(Xp.n I.2),(Xp.name I.2),(Xp.l I.2)))))))))) λM=>(bcase M.1 (af aj) (iter (σ:=Int×Xp) (λJ=>(bA J.1 (aP (al (Xp.l J.2))) (bD (.ex) (Xp.l J.2) J.1 λU=>(obind (rr02_ShapedExpr U) λY=>(bcase (!Y) (aF aj) (cK ((cH J.1),em ((Xp.op J.2),(Xp.n J.2),(Xp.name J.2),(Xp.l J.2))))))) (aF ai))) (0,em ((Xp.op M.2),(Xp.n M.2),(Xp.name M.2),(Xp.l M.2)))))))
def ik:Nat->Xp->Option (Bool)
 |0,_=>ah
 |n+1,x=>mm (ik n) x
theorem s6 (n:Nat) (x:Xp):ik (n+1) x=mm (ik n) x:=rfl
def jp (x:Xp):Option (Bool):=ik fuel x
def pP (x:Xp):Option (Bool):=
 (jn (α:=Bool) (bd (Xp.op x) 0 (bd (Xp.n x) 0 (bcase (decide (((Xp.name x):ζ)=([]))) (aF (decide (((aP (al (Xp.l x))):Int)=0))) (aF aj)) (aF aj)) (aF aj)) λI=>(af I))
def ko (rr02_ShapedStmt:Sx->Option (Bool)) (rr02_ShapedStmts:(List Sx)->Option (Bool)) (x:Sx):Option (Bool):=
 (jn (α:=Bool×Sx) (bA (Sx.op x) 1 (aF (ai,eA x)) (aF ((gf 15 (Sx.op x)),eA x))) λx1=>(bcase x1.1 (af aj) (jn (α:=Bool×Sx) (bd (Sx.op x1.2) 2 (aF (ai,eA x1.2)) (bd (Sx.op x1.2) 3 (aF (ai,eA x1.2)) (bd (Sx.op x1.2) 7 (aF (ai,eA x1.2)) (aF ((decide (((Sx.op x1.2):Int)=8)),eA x1.2))))) λY=>(jn (α:=Bool×Sx) (bcase Y.1 (bcase (!decide (((Sx.name Y.2):ζ)=([]))) (aF (ai,eA Y.2)) (bcase (!Y.1) (obind (fA (Sx.name Y.2)) λy4=>(aF ((!y4),eA Y.2))) (aF (aj,eA Y.2)))) (bcase (!Y.1) (obind (fA (Sx.name Y.2)) λy5=>(aF ((!y5),eA Y.2))) (aF (aj,eA Y.2)))) λU=>(bcase U.1 (af aj) (jn (α:=Bool×Sx) (bd (Sx.op U.2) 15 (obind (fA (Sx.arg U.2)) λy7=>(bcase (!y7) (aF (ai,eA U.2)) (iO (Sx.op U.2) 15 (aF ((!decide (((Sx.arg U.2):ζ)=([]))),eA U.2)) (aF (aj,eA U.2))))) (iO (Sx.op U.2) 15 (aF ((!decide (((Sx.arg U.2):ζ)=([]))),eA U.2)) (aF (aj,eA U.2)))) λM=>(bcase M.1 (af aj) (jn (α:=Bool×Sx) (bA 1 (aP (al (Sx.index M.2))) (aF (ai,eA M.2)) (iO (Sx.op M.2) 1 (bA 0 (aP (al (Sx.index M.2))) (aF (ai,eA M.2)) (bd (aP (al (Sx.index M.2))) 1 (bD (.ex) (Sx.index M.2) 0 λz9=>(obind (jp z9) λy10=>(aF ((!y10),eA M.2)))) (aF (aj,eA M.2)))) (bd (aP (al (Sx.index M.2))) 1 (bD (.ex) (Sx.index M.2) 0 λz11=>(obind (jp z11) λy12=>(aF ((!y12),eA M.2)))) (aF (aj,eA M.2))))) λx8=>(bcase x8.1 (af aj) (jn (α:=Bool×Sx) (bd (Sx.op x8.2) 1 (aF (ai,eA x8.2)) (bd (Sx.op x8.2) 2 (aF (ai,eA x8.2)) (bd (Sx.op x8.2) 3 (aF (ai,eA x8.2)) (aF ((decide (((Sx.op x8.2):Int)=14)),eA x8.2))))) λI=>(jn (α:=Bool×Sx) (bcase I.1 (obind (jp (em ((Xp.op (Sx.expr I.2)),(Xp.n (Sx.expr I.2)),(Xp.name (Sx.expr I.2)),(Xp.l (Sx.expr I.2))))) λy15=>(bcase (!y15) (aF (ai,eA I.2)) (bcase (!I.1) (obind (pP (em ((Xp.op (Sx.expr I.2)),(Xp.n (Sx.expr I.2)),(Xp.name (Sx.expr I.2)),(Xp.l (Sx.expr I.2))))) λy16=>(aF ((!y16),eA I.2))) (aF (aj,eA I.2))))) (bcase (!I.1) (obind (pP (em ((Xp.op (Sx.expr I.2)),(Xp.n (Sx.expr I.2)),(Xp.name (Sx.expr I.2)),(Xp.l (Sx.expr I.2))))) λy17=>(aF ((!y17),eA I.2))) (aF (aj,eA I.2)))) λZ=>(bcase Z.1 (af aj) (jn (α:=Bool×Sx) (iY 2 (Sx.op Z.2) (aF ((c_ (Sx.op Z.2) 8),eA Z.2)) (aF (aj,eA Z.2))) λJ=>(jn (α:=Bool×Sx) (bcase (!J.1) (bA 0 (aP (al (Sx.body J.2))) (aF (ai,eA J.2)) (iO (Sx.op J.2) 2 (aF ((gf 0 (aP (al (Sx.els J.2)))),eA J.2)) (aF (aj,eA J.2)))) (iO (Sx.op J.2) 2 (aF ((gf 0 (aP (al (Sx.els J.2)))),eA J.2)) (aF (aj,eA J.2)))) λx19=>(bcase x19.1 (af aj) (jn (α:=Bool) (obind (rr02_ShapedStmts (Sx.body x19.2)) λy21=>(bcase y21 (obind (rr02_ShapedStmts (Sx.els x19.2)) λy22=>(aF y22)) (aF aj))) λx20=>(af x20)))))))))))))))))
def jG (rr02_ShapedStmt:Sx->Option (Bool)) (rr02_ShapedStmts:(List Sx)->Option (Bool)) (x:List Sx):Option (Bool):=
 (iter (σ:=Int) (λI=>(bA I (aZ x) (vp I x (obind (rr02_ShapedStmt (aK (T:=.sm) x I)) λJ=>(bcase (!J) (aF aj) (cK (cH I))))) (aF ai))) 0)
mutual
def eK:Nat->Sx->Option (Bool)
 |0,_=>ah
 |n+1,x=>ko (eK n) (dM n) x
def dM:Nat->(List Sx)->Option (Bool)
 |0,_=>ah
 |n+1,x=>jG (eK n) (dM n) x
end
theorem Aa (n:Nat) (x:Sx):eK (n+1) x=ko (eK n) (dM n) x:=rfl
theorem zq (n:Nat) (x:List Sx):dM (n+1) x=jG (eK n) (dM n) x:=rfl
def om (x:List Sx):Option (Bool):=dM fuel x
def km (x:Int×Int×ζ×Int×Int×ζ):Option (Bool):=
 (jn (α:=Bool×Int×Int×ζ×Int×Int×ζ) (bA x.1 1 (aF (ai,x)) (bA 6 x.1 (aF (ai,x)) (obind (fA x.p2) λU=>(bcase (!U) (aF (ai,x)) (bA x.p3 0 (aF (ai,x)) (iO x.1 1 (aF ((!decide ((x.p3:Int)=0)),x)) (aF (aj,x)))))))) λI=>(bcase I.1 (af aj) (jn (α:=Bool×Int×Int×ζ×Int×Int×ζ) (bd I.2.1 5 (obind (fA I.q6) λM=>(bcase (!M) (aF (ai,I.2)) (iO I.2.1 5 (aF ((!decide ((I.q6:ζ)=([]))),I.2)) (aF (aj,I.2))))) (iO I.2.1 5 (aF ((!decide ((I.q6:ζ)=([]))),I.2)) (aF (aj,I.2)))) λJ=>(bcase J.1 (af aj) (jn (α:=Bool) (bA (-9223372036854775808) J.p5 (bd J.p5 0 (aF ai) (bd J.2.1 1 (aF ai) (aF (decide ((J.2.1:Int)=2))))) (aF aj)) λY=>(af Y))))))
def qh (x:sQ×List sP):Option (Bool):=
 (iter (σ:=Int×sQ×List sP) (λM=>(bA M.1 (aZ M.2.1) (bD HG M.2.1 M.1 λz2=>(obind (km z2) λy3=>(bcase (!y3) (aF aj) (cK ((cH M.1),M.2))))) (obind (iter (σ:=Int×sQ×List sP) (λJ=>(bA J.1 (aZ J.2.2) (bD tK J.2.2 J.1 λz5=>(iter (σ:=Int×(sQ×List sP)×ζ×Int×cj×List Sx) (λI=>(bA I.1 (aZ I.p4) (bD (.str) I.p4 I.1 λz7=>(obind (fA z7) λy8=>(bcase (!y8) (aF (bO aj)) (cK ((cH I.1),I.2))))) (obind (jn (α:=Bool×sQ×List sP) (obind (fA I.p2) λY=>(bcase (!Y) (aF (ai,I.2.1)) (obind (om I.q5) λU=>(aF ((!U),I.2.1))))) λZ=>(bcase Z.1 (aF aj) (cK ((cH J.1),Z.2)))) λr=>af (bO r)))) (0,J.2,z5))) (aF (gf 0 (aZ J.2.2))))) (0,M.2)) λr=>af (bO r)))) (0,x))
def ji (x:cj×ζ):Option (Int):=
 (iter (σ:=Int) (λI=>(bA I (aZ x.1) (bD (.str) x.1 I λJ=>(bcase (decide ((J:ζ)=x.2)) (aF I) (cK (cH I)))) (aF (-1)))) 0)
def ij (x:sQ×ζ):Option (Int):=
 (iter (σ:=Int) (λI=>(bA I (aZ x.1) (bD HG x.1 I λJ=>(bcase (decide ((J.2.2.1:ζ)=x.2)) (aF I) (cK (cH I)))) (aF (-1)))) 0)
def g_ (x:(List sP)×ζ):Option (Int):=
 (iter (σ:=Int) (λI=>(bA I (aZ x.1) (bD tK x.1 I λJ=>(bcase (decide ((J.1:ζ)=x.2)) (aF I) (cK (cH I)))) (aF (-1)))) 0)
def qg (x:(sQ×List sP)×Int×ζ):Option (Int):=
 (jn (α:=Bool×sQ×List sP) (iY 0 x.2.1 (bA x.2.1 (aZ x.1.2) (bD tK x.1.2 x.2.1 λz2=>(obind (ji (z2.2.2.1,x.2.2)) λy3=>(aF ((c_ 0 y3),x.1)))) (aF (aj,x.1))) (aF (aj,x.1))) λI=>(bcase I.1 (af 8) (obind (ij (I.2.1,x.2.2)) λM=>(bA M 0 (obind (g_ (I.2.2,x.2.2)) λy5=>(iY 0 y5 (af 7) (af 0))) (vp M I.2.1 (lt ((aK (T:=HG) I.2.1 M).1) λJ=>(bd J 1 (bD HG I.2.1 M λZ=>(iO Z.2.2.2.1 0 (af 2) (af 1))) (bd J 2 (af 1) (jn (α:=Bool×sQ×List sP) (bd J 3 (aF ((decide ((J:Int)=3)),I.2)) (bd J 4 (aF ((decide ((J:Int)=4)),I.2)) (bd J 5 (aF ((decide ((J:Int)=5)),I.2)) (aF ((decide ((J:Int)=6)),I.2))))) λU=>(bcase U.1 (bD HG U.2.1 M λY=>(af Y.1)) (af 9)))))))))))
def gM (x:(sQ×List sP)×Int×ζ×Int×Int):Option (Int):=
 (obind (qg (x.1,x.2.1,x.p2)) λI=>(bd I 0 (af 5) (jn (α:=Bool) (iO I x.p3 (aF (!decide ((I:Int)=x.q4))) (aF aj)) λJ=>(bcase J (af 6) (af 0)))))
def uU (rr04_Nodes:Xp->Option Γ) (x:Xp):Option Γ:=
 (iter (σ:=(ν)×Xp) (λI=>(bA I.1.2.2 (aP (al (Xp.l I.2))) (bD (.ex) (Xp.l I.2) I.1.2.2 λM=>(obind (rr04_Nodes M) λJ=>(cK (((bk .i64 (I.1.1+J.1)),(iK I.1.2.1 J.2),(cH I.1.2.2)),em ((Xp.op I.2),(Xp.n I.2),(Xp.name I.2),(Xp.l I.2)))))) (aF (I.1.1,(cH I.1.2.1))))) ((1,0,0),em ((Xp.op x),(Xp.n x),(Xp.name x),(Xp.l x))))
def nN:Nat->Xp->Option Γ
 |0,_=>ah
 |n+1,x=>uU (nN n) x
theorem yS (n:Nat) (x:Xp):nN (n+1) x=uU (nN n) x:=rfl
def Cr (x:Xp):Option Γ:=nN fuel x
def uT (rr04_names:((sQ×List sP)×Int×Xp)->Option (Int)) (x:(sQ×List sP)×Int×Xp):Option (Int):=
 (jn (α:=Int×(sQ×List sP)×Xp) (bd (Xp.op x.2.2) 2 (obind (gM (x.1,x.2.1,(Xp.name x.2.2),8,1)) λy2=>(aF (y2,x.1,em ((Xp.op x.2.2),(Xp.n x.2.2),(Xp.name x.2.2),(Xp.l x.2.2))))) (bd (Xp.op x.2.2) 3 (obind (gM (x.1,x.2.1,(Xp.name x.2.2),2,2)) λZ=>(aF (Z,x.1,em ((Xp.op x.2.2),(Xp.n x.2.2),(Xp.name x.2.2),(Xp.l x.2.2))))) (aF (0,x.1,em ((Xp.op x.2.2),(Xp.n x.2.2),(Xp.name x.2.2),(Xp.l x.2.2)))))) λM=>(iter (σ:=(Γ)×(sQ×List sP)×Xp) (λI=>(jn (α:=Bool×(sQ×List sP)×Xp) (bA I.1.2 (aP (al (Xp.l I.2.2))) (aF ((decide ((I.1.1:Int)=0)),I.2.1,em ((Xp.op I.2.2),(Xp.n I.2.2),(Xp.name I.2.2),(Xp.l I.2.2)))) (aF (aj,I.2.1,em ((Xp.op I.2.2),(Xp.n I.2.2),(Xp.name I.2.2),(Xp.l I.2.2))))) λJ=>(bcase J.1 (bD (.ex) (Xp.l J.2.2) I.1.2 λU=>(obind (rr04_names (J.2.1,x.2.1,U)) λY=>(cK ((Y,(cH I.1.2)),J.2.1,em ((Xp.op J.2.2),(Xp.n J.2.2),(Xp.name J.2.2),(Xp.l J.2.2)))))) (aF I.1.1)))) ((M.1,0),M.2.1,em ((Xp.op M.2.2),(Xp.n M.2.2),(Xp.name M.2.2),(Xp.l M.2.2)))))
def nM:Nat->((sQ×List sP)×Int×Xp)->Option (Int)
 |0,_=>ah
 |n+1,x=>uT (nM n) x
theorem yR (n:Nat) (x:(sQ×List sP)×Int×Xp):nM (n+1) x=uT (nM n) x:=rfl
def Cq (x:(sQ×List sP)×Int×Xp):Option (Int):=nM fuel x
def mE (x:(sQ×List sP)×Int×Xp):Option (Int):=
 (obind (jp (em ((Xp.op x.2.2),(Xp.n x.2.2),(Xp.name x.2.2),(Xp.l x.2.2)))) λU=>(bcase (!U) (af 3) (obind (Cr (em ((Xp.op x.2.2),(Xp.n x.2.2),(Xp.name x.2.2),(Xp.l x.2.2)))) λJ=>(jn (α:=Bool×(sQ×List sP)×Xp) (bA 24 J.1 (aF (ai,x.1,em ((Xp.op x.2.2),(Xp.n x.2.2),(Xp.name x.2.2),(Xp.l x.2.2)))) (aF ((gf 6 J.2),x.1,em ((Xp.op x.2.2),(Xp.n x.2.2),(Xp.name x.2.2),(Xp.l x.2.2))))) λI=>(bcase I.1 (af 2) (obind (Cq (I.2.1,x.2.1,em ((Xp.op I.2.2),(Xp.n I.2.2),(Xp.name I.2.2),(Xp.l I.2.2)))) λM=>(af M)))))))
def dg (x:Bool):Option (Int):=
 (bcase x (af 7) (af 0))
def jh (x:Γ):Option (Int):=
 (iO x.1 0 (af x.1) (af x.2))
def dZ (x:(Int×Int×ζ)×rB×(Bool×List Sx)×cj×List ζ):Option (Bool×rB×(Bool×List Sx)×cj×List ζ):=
 (iter (σ:=Int×rB×(Bool×List Sx)×cj×List ζ) (λI=>(bA I.1 (aZ I.p2.2) (kl (.sm) I.p2.2 I.1 λJ=>(jn (α:=Bool×rB×(Bool×List Sx)×cj×List ζ) (bd (Sx.op J) x.1.1 (bcase (decide ((x.1.2.2:ζ)=([]))) (aF (ai,I.2)) (aF ((decide (((Sx.name J):ζ)=x.1.2.2)),I.2))) (bd (Sx.op J) x.1.2.1 (bcase (decide ((x.1.2.2:ζ)=([]))) (aF (ai,I.2)) (aF ((decide (((Sx.name J):ζ)=x.1.2.2)),I.2))) (aF (aj,I.2)))) λM=>(bcase M.1 (aF (ai,M.2)) (cK ((cH I.1),M.2))))) (aF (aj,I.2)))) (0,x.2))
def mD (x:Sx×rB×(Bool×List Sx)×cj×List ζ):Option (Int×rB×(Bool×List Sx)×cj×List ζ):=
 (obind (dZ ((7,7,[]),x.2)) λy1=>(bE (aC (al x.q4) (al y1.q4)&&(aC (al x.p3) (al y1.p3)&&(((x.p2.1==y1.p2.1)&&ai)&&aC (al x.p2.2) (al y1.p2.2)&&ai))) (obind (dZ ((8,8,[]),y1.2)) λy2=>(bE (aC (al y1.q4) (al y2.q4)&&(aC (al y1.p3) (al y2.p3)&&(((y1.p2.1==y2.p2.1)&&ai)&&aC (al y1.p2.2) (al y2.p2.2)&&ai))) (obind (dZ ((3,3,[]),y2.2)) λy3=>(bE (aC (al y2.q4) (al y3.q4)&&(aC (al y2.p3) (al y3.p3)&&(((y2.p2.1==y3.p2.1)&&ai)&&aC (al y2.p2.2) (al y3.p2.2)&&ai))) (bd (Sx.op x.1) 1 (bd (aP (al (Sx.index x.1))) 0 (obind (gM ((x.2.1.1,x.2.1.2.1),x.2.1.2.2,(Sx.name x.1),8,1)) λy4=>(obind (mE ((x.2.1.1,x.2.1.2.1),x.2.1.2.2,em ((Xp.op (Sx.expr x.1)),(Xp.n (Sx.expr x.1)),(Xp.name (Sx.expr x.1)),(Xp.l (Sx.expr x.1))))) λy5=>(obind (jh (y4,y5)) λy6=>(af (y6,y3.2))))) (obind (gM ((x.2.1.1,x.2.1.2.1),x.2.1.2.2,(Sx.name x.1),2,2)) λy7=>(bD (.ex) (Sx.index x.1) 0 λz8=>(obind (mE ((x.2.1.1,x.2.1.2.1),x.2.1.2.2,z8)) λy9=>(obind (mE ((x.2.1.1,x.2.1.2.1),x.2.1.2.2,em ((Xp.op (Sx.expr x.1)),(Xp.n (Sx.expr x.1)),(Xp.name (Sx.expr x.1)),(Xp.l (Sx.expr x.1))))) λy10=>(obind (jh (y9,y10)) λy11=>(obind (jh (y7,y11)) λy12=>(af (y12,y3.2))))))))) (jn (α:=Bool×rB×(Bool×List Sx)×Sx×(sQ×List sP)×cj×List ζ) (bd (Sx.op x.1) 2 (aF ((decide (((Sx.op x.1):Int)=2)),y3.2.1,y3.p2,eA x.1,(x.2.1.1,x.2.1.2.1),y3.q3)) (aF ((decide (((Sx.op x.1):Int)=3)),y3.2.1,y3.p2,eA x.1,(x.2.1.1,x.2.1.2.1),y3.q3))) λM=>(bcase M.1 (obind (mE (M.p4,x.2.1.2.2,em ((Xp.op (Sx.expr M.p3)),(Xp.n (Sx.expr M.p3)),(Xp.name (Sx.expr M.p3)),(Xp.l (Sx.expr M.p3))))) λy14=>(af (y14,M.2.1,M.p2,M.q5))) (bd (Sx.op x.1) 4 (jn (α:=Int×rB×(Bool×List Sx)×cj×List ζ) (obind (gM (M.p4,x.2.1.2.2,(Sx.name M.p3),3,3)) λy16=>(bcase y1.1 (obind (dg ai) λy17=>(obind (jh (y16,y17)) λy18=>(aF (y18,M.2.1,M.p2,M.q5)))) (obind (dZ ((4,4,(Sx.name M.p3)),M.2.1,M.p2,M.q5)) λy19=>(bE (aC (al M.q6) (al y19.q4)&&(aC (al M.p5) (al y19.p3)&&(((M.p2.1==y19.p2.1)&&ai)&&aC (al M.p2.2) (al y19.p2.2)&&ai))) (obind (dg y19.1) λy20=>(obind (jh (y16,y20)) λy21=>(aF (y21,y19.2)))))))) λx15=>(af x15)) (jn (α:=Bool×rB×(Bool×List Sx)×Sx×(sQ×List sP)×cj×List ζ) (bd (Sx.op x.1) 5 (aF ((decide (((Sx.op x.1):Int)=5)),M.2.1,M.p2,eA M.p3,M.q4)) (aF ((decide (((Sx.op x.1):Int)=6)),M.2.1,M.p2,eA M.p3,M.q4))) λJ=>(bcase J.1 (jn (α:=Int×rB×(Bool×List Sx)×cj×List ζ) (obind (gM (J.p4,x.2.1.2.2,(Sx.name J.p3),4,4)) λy24=>(bcase y1.1 (obind (dg ai) λy25=>(obind (jh (y24,y25)) λy26=>(aF (y26,J.2.1,J.p2,J.q5)))) (obind (dZ ((5,6,(Sx.name J.p3)),J.2.1,J.p2,J.q5)) λy27=>(bE (aC (al J.q6) (al y27.q4)&&(aC (al J.p5) (al y27.p3)&&(((J.p2.1==y27.p2.1)&&ai)&&aC (al J.p2.2) (al y27.p2.2)&&ai))) (obind (dg y27.1) λy28=>(obind (jh (y24,y28)) λy29=>(aF (y29,y27.2)))))))) λx23=>(af x23)) (bd (Sx.op x.1) 7 (obind (dg y1.1) λy30=>(af (y30,J.2.1,J.p2,J.q5))) (bd (Sx.op x.1) 8 (jn (α:=Int×rB×(Bool×List Sx)×cj×List ζ) (bcase y1.1 (obind (dg ai) λy32=>(aF (y32,J.2.1,J.p2,J.q5))) (obind (dg y2.1) λy33=>(aF (y33,J.2.1,J.p2,J.q5)))) λx31=>(af x31)) (jn (α:=Bool×rB×(Bool×List Sx)×Sx×(sQ×List sP)×cj×List ζ) (bd (Sx.op x.1) 9 (aF ((decide (((Sx.op x.1):Int)=9)),J.2.1,J.p2,eA J.p3,J.q4)) (bd (Sx.op x.1) 10 (aF ((decide (((Sx.op x.1):Int)=10)),J.2.1,J.p2,eA J.p3,J.q4)) (aF ((decide (((Sx.op x.1):Int)=11)),J.2.1,J.p2,eA J.p3,J.q4)))) λI=>(bcase I.1 (obind (gM (I.p4,x.2.1.2.2,(Sx.name I.p3),5,5)) λy35=>(iO y35 0 (af (y35,I.2.1,I.p2,I.q5)) (obind (ij (I.p4.1,(Sx.name I.p3))) λy36=>(bD HG I.p4.1 y36 λz37=>(obind (dZ ((4,4,z37.2.2.2.2.2),I.2.1,I.p2,I.q5)) λy38=>(bE (aC (al I.q6) (al y38.q4)&&(aC (al I.p5) (al y38.p3)&&(((I.p2.1==y38.p2.1)&&ai)&&aC (al I.p2.2) (al y38.p2.2)&&ai))) (jn (α:=Int×rB×(Bool×List Sx)×cj×List ζ) (bcase y1.1 (obind (dg ai) λy40=>(aF (y40,y38.2))) (bcase (!y38.1) (obind (dg ai) λy41=>(aF (y41,y38.2))) (bd (Sx.op I.p3) 9 (obind (dg y2.1) λy42=>(aF (y42,y38.2))) (obind (dg aj) λy43=>(aF (y43,y38.2)))))) λx39=>(af x39)))))))) (bd (Sx.op x.1) 12 (obind (gM (I.p4,x.2.1.2.2,(Sx.name I.p3),7,7)) λy44=>(iO y44 0 (af (y44,I.2.1,I.p2,I.q5)) (obind (g_ (I.p4.2,(Sx.name I.p3))) λy45=>(jn (α:=Bool×rB×(Bool×List Sx)×Sx×cj×List ζ) (bcase y1.1 (aF (ai,I.2.1,I.p2,eA I.p3,I.q5)) (bcase y2.1 (aF (ai,I.2.1,I.p2,eA I.p3,I.q5)) (bcase y3.1 (aF (ai,I.2.1,I.p2,eA I.p3,I.q5)) (bd y45 x.2.1.2.2 (aF (ai,I.2.1,I.p2,eA I.p3,I.q5)) (aF ((decide ((y45:Int)=0)),I.2.1,I.p2,eA I.p3,I.q5)))))) λU=>(bcase U.1 (af (7,U.2.1,U.p2,U.q4)) (obind (ji (U.p4,(Sx.name U.p3))) λy47=>(iY 0 y47 (af (8,U.2.1,U.p2,U.q4)) (bE (a8 (al U.p4+al ([(Sx.name U.p3)])) 16) (af (0,U.2.1,U.p2,(U.p4++([(Sx.name U.p3)])),U.q5)))))))))) (bd (Sx.op x.1) 13 (jn (α:=Int×rB×(Bool×List Sx)×cj×List ζ) (obind (gM (I.p4,x.2.1.2.2,(Sx.name I.p3),7,7)) λy49=>(bcase y1.1 (obind (dg ai) λy50=>(obind (jh (y49,y50)) λy51=>(aF (y51,I.2.1,I.p2,I.q5)))) (bcase y2.1 (obind (dg ai) λy52=>(obind (jh (y49,y52)) λy53=>(aF (y53,I.2.1,I.p2,I.q5)))) (obind (g_ (I.p4.2,(Sx.name I.p3))) λy54=>(obind (dg (decide ((y54:Int)=x.2.1.2.2))) λy55=>(obind (jh (y49,y55)) λy56=>(aF (y56,I.2.1,I.p2,I.q5)))))))) λx48=>(af x48)) (bd (Sx.op x.1) 14 (jn (α:=Int×rB×(Bool×List Sx)×Sx×(sQ×List sP)×cj×List ζ) (obind (gM (I.p4,x.2.1.2.2,(Sx.name I.p3),6,6)) λy58=>(bcase y1.1 (obind (dg ai) λy59=>(obind (jh (y58,y59)) λy60=>(aF (y60,I.2.1,I.p2,eA I.p3,I.q4)))) (obind (dg y3.1) λy61=>(obind (jh (y58,y61)) λy62=>(aF (y62,I.2.1,I.p2,eA I.p3,I.q4)))))) λZ=>(jn (α:=Int×rB×(Bool×List Sx)×Sx×(sQ×List sP)×cj×List ζ) (jn (α:=Bool×rB×(Bool×List Sx)×Sx×(sQ×List sP)×cj×List ζ) (bd Z.1 0 (obind (ji (Z.q6,(Sx.name Z.p3))) λy65=>(aF ((c_ 0 y65),Z.2.1,Z.p2,eA Z.p3,Z.q4))) (aF (aj,Z.2.1,Z.p2,eA Z.p3,Z.q4))) λx64=>(bcase x64.1 (aF (8,x64.2.1,x64.p2,eA x64.p3,x64.q4)) (aF (Z.1,x64.2.1,x64.p2,eA x64.p3,x64.q4)))) λY=>(bE (a8 (al Y.q6+al ([(Sx.name Y.p3)])) 16) (obind (mE (Y.p4,x.2.1.2.2,em ((Xp.op (Sx.expr Y.p3)),(Xp.n (Sx.expr Y.p3)),(Xp.name (Sx.expr Y.p3)),(Xp.l (Sx.expr Y.p3))))) λy66=>(obind (jh (Y.1,y66)) λy67=>(af (y67,Y.2.1,Y.p2,Y.p5,(Y.q6++([(Sx.name Y.p3)]))))))))) (obind (gM (I.p4,x.2.1.2.2,(Sx.name I.p3),8,8)) λy68=>(obind (gM (I.p4,x.2.1.2.2,(Sx.arg I.p3),6,6)) λy69=>(obind (dg y1.1) λy70=>(obind (jh (y69,y70)) λy71=>(obind (jh (y68,y71)) λy72=>(af (y72,I.2.1,I.p2,I.q5))))))))))))))))))))))))))
def mI (rr04_walk_all:((List Sx)×rB×(Bool×List Sx)×cj×List ζ)->Option ai2) (x:(List Sx)×rB×(Bool×List Sx)×cj×List ζ):Option ai2:=
 (iter (σ:=Int×rB×(Bool×List Sx)×cj×List ζ) (λU=>(bA U.1 (aZ x.1) (bD (.sm) x.1 U.1 λZ=>(obind (mD (eA Z,U.2)) λY=>(bE (aC (al U.q4) (al U.q4)&&(aC (al U.p3) (al U.p3)&&(((U.p2.1==Y.p2.1)&&ai)&&aC (al U.p2.2) (al Y.p2.2)&&ai))) (jn (α:=Int×rB×Sx×(Bool×List Sx)×cj×List ζ) (bA 6 (bk .i64 ((aZ Y.p2.2)+1)) (aF (2,Y.2.1,eA Z,Y.2.2)) (aF (Y.1,Y.2.1,eA Z,Y.2.2))) λI=>(iO I.1 0 (aF ((I.1,(Sx.line I.p2)),I.2.1,I.q3)) (bE (a8 (al I.p3.2+al ([oq (0,0,[],[],([]:List Xp),em (0,0,[],([]:List Xp)),([]:List Sx),([]:List Sx))])) 176) (ck (eP (aZ I.p3.2) (al (I.p3.2++([oq (0,0,[],[],([]:List Xp),em (0,0,[],([]:List Xp)),([]:List Sx),([]:List Sx))])))) (obind (rr04_walk_all ((Sx.body I.p2),I.2.1,(I.p3.1,(cz (I.p3.2++([oq (0,0,[],[],([]:List Xp),em (0,0,[],([]:List Xp)),([]:List Sx),([]:List Sx))])) (aZ I.p3.2) (eA I.p2))),I.q4)) λM=>(bE (aC (al I.q5) (al I.q5)&&(aC (al I.p4) (al I.p4)&&(((I.p3.1==I.p3.1)&&ai)&&aC (al (cz (I.p3.2++([oq (0,0,[],[],([]:List Xp),em (0,0,[],([]:List Xp)),([]:List Sx),([]:List Sx))])) (aZ I.p3.2) (eA I.p2))) (al (cz (I.p3.2++([oq (0,0,[],[],([]:List Xp),em (0,0,[],([]:List Xp)),([]:List Sx),([]:List Sx))])) (aZ I.p3.2) (eA I.p2)))&&ai))) (jn (α:=(Γ)×rB×(Bool×List Sx)×cj×List ζ) (bd M.1.1 0 (obind (rr04_walk_all ((Sx.els I.p2),M.2)) λy7=>(bE (aC (al M.q4) (al M.q4)&&(aC (al M.p3) (al M.p3)&&(((M.p2.1==M.p2.1)&&ai)&&aC (al M.p2.2) (al M.p2.2)&&ai))) (aF y7))) (aF M)) λJ=>(bE (c_ 0 (bk .i64 ((aZ J.p2.2)-1))&&gf (bk .i64 ((aZ J.p2.2)-1)) (al J.p2.2)) (iO J.1.1 0 (aF (J.1,J.2.1,(aj,(dI (aT (bk .i64 ((aZ J.p2.2)-1))) J.p2.2)),J.q3)) (cK ((cH U.1),J.2.1,(aj,(dI (aT (bk .i64 ((aZ J.p2.2)-1))) J.p2.2)),J.q3)))))))))))))) (aF ((0,0),U.2)))) (0,x.2))
def iM:Nat->((List Sx)×rB×(Bool×List Sx)×cj×List ζ)->Option ai2
 |0,_=>ah
 |n+1,x=>mI (iM n) x
theorem CE (n:Nat) (x:(List Sx)×rB×(Bool×List Sx)×cj×List ζ):iM (n+1) x=mI (iM n) x:=rfl
def wv (x:(List Sx)×rB×(Bool×List Sx)×cj×List ζ):Option ai2:=iM fuel x
def uV (rr04_Count:(List Sx)->Option (Int)) (x:List Sx):Option (Int):=
 (iter (σ:=Γ) (λI=>(bA I.2 (aZ x) (vp I.2 x (lt (Sx.body (aK (T:=.sm) x I.2)) λM=>(obind (rr04_Count M) λY=>(vp I.2 x (lt (Sx.els (aK (T:=.sm) x I.2)) λJ=>(obind (rr04_Count J) λU=>(cK ((bk .i64 ((bk .i64 (I.1+Y))+U)),(cH I.2))))))))) (aF I.1))) ((aZ x),0))
def nO:Nat->(List Sx)->Option (Int)
 |0,_=>ah
 |n+1,x=>uV (nO n) x
theorem yT (n:Nat) (x:List Sx):nO (n+1) x=uV (nO n) x:=rfl
def Ct (x:List Sx):Option (Int):=nO fuel x
def rV (x:List aen):Option Γ:=
 (iter (σ:=υ) (λI=>(bA I.q4 (aZ x) (jn (α:=π) (bD HG x I.q4 λJ=>(bE (c_ 0 I.q4&&c_ I.q4 (al x)) (obind (ij ((dI (aT I.q4) x),J.p2)) λy4=>(iY 0 y4 (cK (bO (4,J.2.1))) (bA 4 J.p3 (cK (bO (2,J.2.1))) (jn (α:=(π)×Int×Int×ζ×Int×Int×ζ) (jn (α:=Bool×Int×Int×ζ×Int×Int×ζ) (bd J.1 1 (aF ((decide ((J.1:Int)=1)),J)) (aF ((decide ((J.1:Int)=2)),J))) λY=>(bcase Y.1 (aF (((bk .i64 (I.1+(iK Y.p4 1))),I.2.1,I.p2,I.p3),Y.2)) (jn (α:=Bool×Int×Int×ζ×Int×Int×ζ) (bd J.1 3 (aF ((decide ((J.1:Int)=3)),Y.2)) (aF ((decide ((J.1:Int)=4)),Y.2))) λZ=>(bcase Z.1 (aF ((I.1,(cH I.2.1),I.p2,I.p3),Z.2)) (bd J.1 5 (aF ((I.1,I.2.1,(cH I.p2),I.p3),Z.2)) (aF ((I.1,I.2.1,I.p2,(cH I.p3)),Z.2))))))) λM=>(jn (α:=Bool×Int×Int×ζ×Int×Int×ζ) (bA 12 M.1.1 (aF (ai,M.2)) (bA 4 M.1.2.1 (aF (ai,M.2)) (bA 2 M.1.p2 (aF (ai,M.2)) (aF ((gf 2 M.1.q3),M.2))))) λU=>(bcase U.1 (cK (bO (2,U.p2))) (bd U.2.1 5 (bE (c_ 0 I.q4&&c_ I.q4 (al x)) (obind (ij ((dI (aT I.q4) x),U.q6)) λy9=>(bA y9 0 (cK (bO (5,U.p2))) (bD HG x y9 λz10=>(iO z10.1 3 (cK (bO (6,U.p2))) (aF M.1)))))) (aF M.1)))))))))) λx2=>(cK (x2.1,x2.2.1,x2.p2,x2.q3,(cH I.q4)))) (aF (0,0)))) (0,0,0,0,0))
def ol (x:sQ×List sP):Option Γ:=
 (iter (σ:=Int×sQ×List sP) (λJ=>(bA J.1 (aZ J.2.2) (bD tK J.2.2 J.1 λY=>(jn (α:=Bool×(sQ×List sP)×ζ×Int×cj×List Sx) (obind (ij (J.2.1,Y.1)) λy4=>(iY 0 y4 (aF (ai,J.2,Y)) (bE (c_ 0 J.1&&c_ J.1 (al J.2.2)) (obind (g_ ((dI (aT J.1) J.2.2),Y.1)) λy5=>(aF ((c_ 0 y5),J.2,Y)))))) λx3=>(bcase x3.1 (aF (4,x3.p3)) (cK ((cH J.1),x3.2.1))))) (obind (iter (σ:=Int×sQ×List sP) (λU=>(bA U.1 (aZ U.2.2) (bD tK U.2.2 U.1 λz7=>(bA 4 (aZ z7.p2) (aF (2,z7.2.1)) (iter (σ:=Int×(sQ×List sP)×ζ×Int×cj×List Sx) (λI=>(bA I.1 (aZ I.p4) (bD (.str) I.p4 I.1 λZ=>(jn (α:=Bool×(sQ×List sP)×ζ×Int×cj×List Sx) (obind (ij (I.2.1.1,Z)) λy11=>(iY 0 y11 (aF (ai,I.2)) (obind (g_ (I.2.1.2,Z)) λy12=>(iY 0 y12 (aF (ai,I.2)) (bE (c_ 0 I.1&&c_ I.1 (al I.p4)) (obind (ji ((dI (aT I.1) I.p4),Z)) λy13=>(aF ((c_ 0 y13),I.2)))))))) λM=>(bcase M.1 (aF (bO (4,M.p3))) (cK ((cH I.1),M.2))))) (aF (kO ((cH U.1),I.2.1))))) (0,U.2,z7)))) (aF (0,0)))) (0,J.2)) λr=>af (bO r)))) (0,x))
def fD (x:sQ×List sP):Option Γ:=
 (obind (qh x) λy1=>(bcase (!y1) (af (3,0)) (obind (rV x.1) λY=>(iO Y.1 0 (af Y) (bA 4 (aZ x.2) (af (2,0)) (obind (ol x) λU=>(iO U.1 0 (af U) (iter (σ:=(Γ)×sQ×List sP) (λJ=>(bA J.1.2 (aZ J.2.2) (bD tK J.2.2 J.1.2 λz5=>(obind (Ct z5.2.2.2) λy6=>(cK (((bk .i64 (J.1.1+y6)),(cH J.1.2)),J.2)))) (obind (bA 60 J.1.1 (af (2,0)) (iter (σ:=Int×(sQ×List sP)×rB×(Bool×List Sx)×cj×List ζ) (λI=>(bA I.1 (aZ I.2.1.2) (bD tK I.2.1.2 I.1 λZ=>(obind (wv (Z.2.2.2,(I.p2.1,I.p2.2.1,I.1),I.q3)) λM=>(bE (aC (al I.q5) (al I.q5)&&(aC (al I.p4) (al I.p4)&&(((I.p3.1==I.p3.1)&&ai)&&aC (al I.p3.2) (al I.p3.2)&&ai))) (iO M.1.1 0 (aF M.1) (cK ((cH I.1),I.2.1,M.2)))))) (aF (0,0)))) (0,J.2,(J.2.1,J.2.2,0),(ai,([]:List Sx)),([]:List ζ),([]:List ζ)))) λr=>af (bO r)))) ((0,0),x)))))))))
def ya (rr06_sites:((Int×Int×List Sx)×List ν)->Option (Int×List ν)) (x:(Int×Int×List Sx)×List ν):Option (Int×List ν):=
 (iter (σ:=(Γ)×List ν) (λI=>(bA I.1.2 (aZ x.1.2.2) (vp I.1.2 x.1.2.2 (lt (Sx.line (aK (T:=.sm) x.1.2.2 I.1.2)) λJ=>(bE (a8 (al I.2+al ([(x.1.1,I.1.1,J)])) 24) (vp I.1.2 x.1.2.2 (lt (Sx.body (aK (T:=.sm) x.1.2.2 I.1.2)) λZ=>(obind (rr06_sites ((x.1.1,(cH I.1.1),Z),(I.2++([(x.1.1,I.1.1,J)])))) λM=>(bE (aC (al (I.2++([(x.1.1,I.1.1,J)]))) (al (I.2++([(x.1.1,I.1.1,J)])))&&ai) (vp I.1.2 x.1.2.2 (lt (Sx.els (aK (T:=.sm) x.1.2.2 I.1.2)) λY=>(obind (rr06_sites ((x.1.1,M.1,Y),M.2)) λU=>(bE (aC (al M.2) (al M.2)&&ai) (cK ((U.1,(cH I.1.2)),U.2))))))))))))) (aF (I.1.1,I.2)))) ((x.1.2.1,0),x.2))
def pZ:Nat->((Int×Int×List Sx)×List ν)->Option (Int×List ν)
 |0,_=>ah
 |n+1,x=>ya (pZ n) x
theorem H0 (n:Nat) (x:(Int×Int×List Sx)×List ν):pZ (n+1) x=ya (pZ n) x:=rfl
def Jq (x:(Int×Int×List Sx)×List ν):Option (Int×List ν):=pZ fuel x
def kw (x:gI×ζ):Option (Int):=
 (iter (σ:=Int) (λI=>(bA I (aZ x.1) (bD su x.1 I λJ=>(bcase (decide ((J.1:ζ)=x.2)) (aF I) (cK (cH I)))) (aF (-1)))) 0)
def lI (x:dt×ζ):Option (Int):=
 (iter (σ:=Int×gY×gI×(List fE)×cj×cj×List ν) (λI=>(bA I.1 (aZ I.2.1) (bD kK I.2.1 I.1 λJ=>(bcase (decide ((J.1:ζ)=x.2)) (aF I.1) (cK ((cH I.1),I.2)))) (aF (-1)))) (0,x.1))
def uL (x:sQ×List sP):Option dt:=
 (obind (fD x) λy1=>(iO y1.1 0 (af (([]:List Ur),([]:List (ζ×Bool)),([]:List fE),([]:List ζ),([]:List ζ),([]:List ν))) (iter (σ:=Int×(sQ×List sP)×gY×gI×(List fE)×List ζ) (λU=>(bA U.1 (aZ U.2.1.1) (bD HG U.2.1.1 U.1 λY=>(jn (α:=(sQ×List sP)×gY×gI×(List fE)×List ζ) (jn (α:=Bool×(sQ×List sP)×aen×gY×gI×(List fE)×List ζ) (bd Y.1 1 (aF ((decide ((Y.1:Int)=1)),U.2.1,Y,U.2.2)) (aF ((decide ((Y.1:Int)=2)),U.2.1,Y,U.2.2))) λx5=>(bcase x5.1 (iter (σ:=Int×(sQ×List sP)×aen×gY×gI×(List fE)×List ζ) (λJ=>(bA J.1 (iK J.p2.p3 1) (bE (a8 (al J.p3+al ([(J.p2.p2,J.1,J.p2.p3,(decide ((J.p2.1:Int)=2)),J.p2.p4)])) 48) (cK ((cH J.1),J.2.1,J.p2,(J.p3++([(J.p2.p2,J.1,J.p2.p3,(decide ((J.p2.1:Int)=2)),J.p2.p4)])),J.q4))) (aF (bO (J.2.1,J.q3))))) (0,x5.2)) (jn (α:=Bool×(sQ×List sP)×aen×gY×gI×(List fE)×List ζ) (bd Y.1 3 (aF ((decide ((Y.1:Int)=3)),x5.2)) (aF ((decide ((Y.1:Int)=4)),x5.2))) λI=>(bcase I.1 (bE (a8 (al I.p4+al ([(I.p2.p2,(decide ((I.p2.1:Int)=4)))])) 24) (aF (I.2.1,I.p3,(I.p4++([(I.p2.p2,(decide ((I.p2.1:Int)=4)))])),I.q5))) (bd Y.1 5 (obind (kw (I.p4,I.p2.q5)) λy8=>(bE (a8 (al I.p5+al ([(I.p2.p2,y8)])) 24) (aF (I.2.1,I.p3,I.p4,(I.p5++([(I.p2.p2,y8)])),I.q6)))) (bE (a8 (al I.q6+al ([I.p2.p2])) 16) (aF (I.2.1,I.p3,I.p4,I.p5,(I.q6++([I.p2.p2])))))))))) λx4=>(cK ((cH U.1),x4)))) (obind (iter (σ:=Int×(sQ×List sP)×gY×gI×(List fE)×cj×cj×List ν) (λM=>(bA M.1 (aZ M.2.1.2) (bD tK M.2.1.2 M.1 λZ=>(bE (a8 (al M.p6+al ([Z.1])) 16) (bD tK M.2.1.2 M.1 λz11=>(obind (Jq ((M.1,0,z11.2.2.2),M.q7)) λy12=>(bE (aC (al M.q7) (al M.q7)&&ai) (cK ((cH M.1),M.2.1,M.p2,M.p3,M.p4,M.p5,(M.p6++([Z.1])),y12.2))))))) (aF M.2.2))) (0,U.2.1,U.p2,U.p3,U.p4,U.q5,([]:List ζ),([]:List ν))) λr=>af (bO r)))) (0,x,([]:List Ur),([]:List (ζ×Bool)),([]:List fE),([]:List ζ)))))
def pN (x:gY×gI×(List fE)×cj×cj×List ν):Option (cj×Bool):=
 (iter (σ:=Int×dt×List ζ) (λJ=>(bA J.1 (aZ J.2.1.1) (jn (α:=Int×dt×List ζ) (bD kK J.2.1.1 J.1 λU=>(bE (a8 (al J.2.2+al ([U.1])) 16) (bd U.p2 0 (iO U.2.1 0 (cK (bO (([]:List ζ),aj))) (aF ((cH J.1),J.2.1,(J.2.2++([U.1]))))) (jn (α:=Bool×dt×cj×ζ×Int×Int×Bool×Int) (bA U.p2 1 (aF (ai,J.2.1,(J.2.2++([U.1])),U)) (bA 4 U.p2 (aF (ai,J.2.1,(J.2.2++([U.1])),U)) (aF ((gf (bk .i64 ((aZ J.2.1.1)-J.1)) U.p2),J.2.1,(J.2.2++([U.1])),U)))) λx4=>(bcase x4.1 (cK (bO (([]:List ζ),aj))) (iter (σ:=Int×dt×cj×ζ×Int×Int×Bool×Int) (λM=>(bA M.1 M.p5 (bD kK M.2.1.1 (bk .i64 (J.1+M.1)) λZ=>(jn (α:=Bool×dt×cj×ζ×Int×Int×Bool×Int) (iO Z.2.1 M.1 (aF (ai,M.2)) (bcase (!decide ((Z.1:ζ)=M.p3)) (aF (ai,M.2)) (iO Z.p2 M.p5 (aF (ai,M.2)) (iO Z.q4 M.q7 (aF (ai,M.2)) (aF (Z.p3,M.2)))))) λx7=>(bcase x7.1 (aF (kO (bO (([]:List ζ),aj)))) (cK ((cH M.1),x7.2))))) (aF (bO ((bk .i64 (J.1+M.p5)),M.2.1,M.p2))))) (0,x4.2))))))) λx2=>(cK x2)) (obind (iter (σ:=Int×dt×List ζ) (λY=>(bA Y.1 (aZ Y.2.1.2.1) (bD su Y.2.1.2.1 Y.1 λz9=>(bE (a8 (al Y.2.2+al ([z9.1])) 16) (cK ((cH Y.1),Y.2.1,(Y.2.2++([z9.1])))))) (obind (iter (σ:=Int×dt×List ζ) (λI=>(bA I.1 (aZ I.2.1.p2) (bD ma I.2.1.p2 I.1 λz11=>(bE (a8 (al I.2.2+al ([z11.1])) 16) (cK ((cH I.1),I.2.1,(I.2.2++([z11.1])))))) (obind (bE (a8 (al I.2.2+al I.2.1.p3) 16) (bE (a8 (al (I.2.2++I.2.1.p3)+al I.2.1.p4) 16) (af (((I.2.2++I.2.1.p3)++I.2.1.p4),ai)))) λr=>af (bO r)))) (0,Y.2)) λr=>af (bO r)))) (0,J.2)) λr=>af (bO r)))) (0,x,([]:List ζ)))
def ii (x:gY×gI×(List fE)×cj×cj×List ν):Option (Bool):=
 (jn (α:=Bool×gY×gI×(List fE)×cj×cj×List ν) (bA 12 (aZ x.1) (aF (ai,x)) (bA 4 (aZ x.2.1) (aF (ai,x)) (bA 2 (aZ x.p2) (aF (ai,x)) (bA 2 (aZ x.p3) (aF (ai,x)) (bA (aZ x.p4) 1 (aF (ai,x)) (bA 4 (aZ x.p4) (aF (ai,x)) (aF ((gf 60 (aZ x.q5)),x)))))))) λx1=>(bcase x1.1 (af aj) (obind (pN x1.2) λy2=>(bcase (!y2.2) (af aj) (iter (σ:=Int×gY×gI×(List fE)×cj×cj×List ν) (λY=>(bA Y.1 (aZ y2.1) (jn (α:=Bool×gY×gI×(List fE)×cj×cj×List ν) (bD (.str) y2.1 Y.1 λz5=>(obind (fA z5) λy6=>(bcase (!y6) (aF (ai,Y.2)) (bE (c_ 0 Y.1&&c_ Y.1 (al y2.1)) (bD (.str) y2.1 Y.1 λz7=>(obind (ji ((dI (aT Y.1) y2.1),z7)) λy8=>(aF ((c_ 0 y8),Y.2)))))))) λx4=>(bcase x4.1 (aF aj) (cK ((cH Y.1),x4.2)))) (obind (iter (σ:=Int×gY×gI×(List fE)×cj×cj×List ν) (λM=>(bA M.1 (aZ M.p3) (bD ma M.p3 M.1 λz10=>(jn (α:=Bool×gY×gI×(List fE)×cj×cj×List ν) (bA z10.2 0 (aF (ai,M.2)) (iY (aZ M.p2) z10.2 (aF (ai,M.2)) (bD su M.p2 z10.2 λz12=>(aF (z12.2,M.2))))) λx11=>(bcase x11.1 (aF aj) (cK ((cH M.1),x11.2))))) (obind (iter (σ:=Int×gY×gI×(List fE)×cj×cj×List ν) (λI=>(bA I.1 (aZ I.q6) (jn (α:=gY×gI×(List fE)×cj×cj×List ν) (bD pj I.q6 I.1 λZ=>(jn (α:=Bool×dt×Int×Int×Int) (bA Z.1 0 (aF (ai,I.2,Z)) (aF ((c_ (aZ I.p5) Z.1),I.2,Z))) λU=>(bcase U.1 (cK (bO aj)) (jn (α:=Bool×dt×Int×Int×Int) (bd I.1 0 (aF (ai,U.2)) (bD pj U.2.1.q5 (bk .i64 (I.1-1)) λz18=>(aF ((!decide ((z18.1:Int)=U.p2)),U.2)))) λJ=>(bcase J.1 (jn (α:=Bool×gY×gI×(List fE)×cj×cj×List ν) (iO J.p3 0 (aF (ai,J.2.1)) (bA 0 I.1 (bD pj J.2.1.q5 (bk .i64 (I.1-1)) λz20=>(aF ((gf J.p2 z20.1),J.2.1))) (aF (aj,J.2.1)))) λx19=>(bcase x19.1 (cK (bO aj)) (aF x19.2))) (bD pj J.2.1.q5 (bk .i64 (I.1-1)) λz21=>(iO J.p3 (cH z21.2.1) (cK (bO aj)) (aF J.2.1)))))))) λx14=>(cK ((cH I.1),x14))) (aF ai))) (0,M.2)) λr=>af (bO r)))) (0,Y.2)) λr=>af (bO r)))) (0,x1.2))))))
def jN (x:ω):Option η:=
 (jn (α:=Bool×Int×Int×Int×Int×Int×Int) (bd x.1 1 (aF ((decide ((x.1:Int)=1)),x)) (bd x.1 6 (aF ((decide ((x.1:Int)=6)),x)) (bd x.1 10 (aF ((decide ((x.1:Int)=10)),x)) (aF ((decide ((x.1:Int)=27)),x))))) λM=>(bcase M.1 (af ([M.p2])) (jn (α:=Bool×Int×Int×Int×Int×Int×Int) (bd x.1 2 (aF ((decide ((x.1:Int)=2)),M.2)) (aF ((decide ((x.1:Int)=3)),M.2))) λI=>(bcase I.1 (af ([I.p2,I.p3])) (bd x.1 4 (af ([I.p2,I.p3,I.p4])) (bd x.1 7 (af ([I.p2,I.p4])) (jn (α:=Bool×Int×Int×Int×Int×Int×Int) (bd x.1 8 (aF ((decide ((x.1:Int)=8)),I.2)) (aF ((decide ((x.1:Int)=26)),I.2))) λJ=>(bcase J.1 (af ([J.p3])) (bd x.1 9 (af ([J.p3,J.p4])) (af ([]:η)))))))))))
def qf (x:Int):Option (Bool):=
 (jn (α:=Bool) (iY 1 x (aF (c_ x 5)) (aF aj)) λI=>(af I))
def pO (x:(List jZ)×Int):Option (Bool):=
 (iter (σ:=Γ) (λI=>(iY I.2 (aZ x.1) (jn (α:=Int) (jn (α:=Bool) (bA I.1 0 (aF ai) (aF (c_ (aZ x.1) I.1))) λZ=>(bcase Z (cK (bO aj)) (bD rA x.1 I.1 λU=>(obind (qf U.1) λY=>(bcase (!Y) (cK (bO ai)) (bD rA x.1 I.1 λM=>(bd M.1 5 (bD rA x.1 I.1 λJ=>(aF J.2.1)) (aF (cH I.1))))))))) λx2=>(cK (x2,(cH I.2)))) (aF aj))) (x.2,0))
def jx (x:Γ):Option (Bool):=
 (jn (α:=Bool) (iY 0 x.1 (aF (gf x.1 x.2)) (aF aj)) λI=>(af I))
def nI (x:dt×Int×Int):Option (Bool):=
 (jn (α:=Bool) (obind (jx (x.2.1,(aZ x.1.1))) λU=>(bcase U (bD kK x.1.1 x.2.1 λM=>(bd M.2.1 0 (bD kK x.1.1 x.2.1 λJ=>(iO J.2.2.1 0 (bD kK x.1.1 x.2.1 λI=>(aF (decide ((I.2.2.1:Int)=x.2.2)))) (aF aj))) (aF aj))) (aF aj))) λY=>(af Y))
def lU (x:dt×Int×Int×Int×Int×Int×Int):Option (Bool):=
 (bd x.2.1 6 (jn (α:=Bool) (obind (jx (x.p3,(aZ x.1.1))) λy2=>(bcase y2 (bD kK x.1.1 x.p3 λz3=>(aF (decide ((z3.2.2.1:Int)=0)))) (aF aj))) λx1=>(af x1)) (bd x.2.1 8 (jn (α:=Bool) (obind (jx (x.p2,(aZ x.1.1))) λy5=>(bcase y5 (bD kK x.1.1 x.p2 λz6=>(aF (decide ((z6.2.2.1:Int)=0)))) (aF aj))) λx4=>(af x4)) (bd x.2.1 7 (obind (nI (x.1,x.p3,x.p5)) λy7=>(af y7)) (bd x.2.1 9 (obind (nI (x.1,x.p2,x.p5)) λy8=>(af y8)) (jn (α:=Bool×dt×Int×Int×Int×Int×Int×Int) (bd x.2.1 11 (aF ((decide ((x.2.1:Int)=11)),x)) (aF ((decide ((x.2.1:Int)=12)),x))) λU=>(bcase U.1 (jn (α:=Bool) (obind (jx (U.p3,(aZ U.2.1.2.1))) λy11=>(bcase y11 (bD su U.2.1.2.1 U.p3 λZ=>(aF (!Z.2))) (aF aj))) λx10=>(af x10)) (jn (α:=Bool×dt×Int×Int×Int×Int×Int×Int) (bd x.2.1 13 (aF ((decide ((x.2.1:Int)=13)),U.2)) (bd x.2.1 14 (aF ((decide ((x.2.1:Int)=14)),U.2)) (bd x.2.1 15 (aF ((decide ((x.2.1:Int)=15)),U.2)) (aF ((decide ((x.2.1:Int)=16)),U.2))))) λJ=>(bcase J.1 (jn (α:=Bool) (obind (jx (J.p3,(aZ J.2.1.2.1))) λy15=>(bcase y15 (bD su J.2.1.2.1 J.p3 λY=>(aF Y.2)) (aF aj))) λx14=>(af x14)) (jn (α:=Bool×dt×Int×Int×Int×Int×Int×Int) (bd x.2.1 21 (aF ((decide ((x.2.1:Int)=21)),J.2)) (bd x.2.1 22 (aF ((decide ((x.2.1:Int)=22)),J.2)) (aF ((decide ((x.2.1:Int)=23)),J.2)))) λM=>(bcase M.1 (obind (jx (M.p3,(aZ M.2.1.p2))) λy18=>(af y18)) (jn (α:=Bool×dt×Int×Int×Int×Int×Int×Int) (bd x.2.1 24 (aF ((decide ((x.2.1:Int)=24)),M.2)) (aF ((decide ((x.2.1:Int)=25)),M.2))) λI=>(bcase I.1 (obind (jx (I.p3,(aZ I.2.1.p4))) λy20=>(af y20)) (bd x.2.1 26 (obind (jx (I.p3,(aZ I.2.1.p3))) λy21=>(af y21)) (bd x.2.1 27 (obind (jx (I.p4,(aZ I.2.1.p3))) λy22=>(af y22)) (bd x.2.1 3 (jn (α:=Bool) (bd I.p6 4 (aF ai) (aF (decide ((I.p6:Int)=5)))) λx23=>(af x23)) (bd x.2.1 4 (jn (α:=Bool) (iY 6 I.p6 (aF (c_ I.p6 18)) (aF aj)) λx24=>(af x24)) (af ai)))))))))))))))))
def iz (x:dt×Int×Int×List jZ):Option (Bool):=
 (jn (α:=Bool×dt×Int×List jZ) (bA x.p2 0 (aF (ai,x.1,x.2.2)) (bA 32 x.p2 (aF (ai,x.1,x.2.2)) (aF ((decide (((aZ x.q3):Int)=0)),x.1,x.2.2)))) λx1=>(bcase x1.1 (af aj) (iter (σ:=Int×dt×Int×List jZ) (λJ=>(bA J.1 (aZ x.q3) (bD rA J.q3 J.1 λY=>(jn (α:=Bool×dt×(Int×List jZ)×Int×Int×Int×Int×Int×Int) (bA Y.1 1 (aF (ai,J.2.1,J.2.2,Y)) (bA 28 Y.1 (aF (ai,J.2.1,J.2.2,Y)) (bcase (((decide ((Y.1:Int)=28))==(decide ((J.1:Int)=(bk .i64 ((aZ x.q3)-1))))) !=ai) (aF (ai,J.2.1,J.2.2,Y)) (obind (lU (J.2.1,Y)) λy5=>(bcase (!y5) (aF (ai,J.2.1,J.2.2,Y)) (obind (pO (J.q3,J.1)) λy6=>(aF ((!y6),J.2.1,J.2.2,Y)))))))) λI=>(bcase I.1 (aF aj) (jn (α:=Bool×dt×(Int×List jZ)×Int×Int×Int×Int×Int×Int) (bd I.p3 28 (iO I.q8 (-1) (aF (ai,I.2)) (iO I.p3 28 (obind (jx (I.q8,(aZ I.2.1.q5))) λy8=>(bcase (!y8) (aF (ai,I.2)) (bD pj I.2.1.q5 I.q8 λz9=>(aF ((!decide ((z9.1:Int)=x.2.1)),I.2))))) (aF (aj,I.2)))) (iO I.p3 28 (obind (jx (I.q8,(aZ I.2.1.q5))) λy10=>(bcase (!y10) (aF (ai,I.2)) (bD pj I.2.1.q5 I.q8 λz11=>(aF ((!decide ((z11.1:Int)=x.2.1)),I.2))))) (aF (aj,I.2)))) λU=>(bcase U.1 (aF aj) (jn (α:=Bool×dt×(Int×List jZ)×Int×Int×Int×Int×Int×Int) (bd U.p3 5 (obind (jx (U.p4,(aZ x.q3))) λy13=>(bcase (!y13) (aF (ai,U.2)) (bd U.p3 10 (obind (jx (U.p5,(aZ x.q3))) λy14=>(aF ((!y14),U.2))) (aF (aj,U.2))))) (bd U.p3 10 (obind (jx (U.p5,(aZ x.q3))) λy15=>(aF ((!y15),U.2))) (aF (aj,U.2)))) λZ=>(bcase Z.1 (aF aj) (obind (jN Z.q3) λy16=>(iter (σ:=Int×dt×Int×List jZ) (λM=>(bA M.1 (aZ y16) (bD aM y16 M.1 λz18=>(obind (jx (z18,M.p2)) λy19=>(bcase (!y19) (aF (bO aj)) (cK ((cH M.1),M.2))))) (aF (kO ((cH J.1),M.2))))) (0,Z.2.1,Z.p2)))))))))) (aF ai))) (0,x1.2))))
def jM (x:dt×List (Int×List jZ)):Option (Bool):=
 (jn (α:=Bool×dt×List (Int×List jZ)) (obind (ii x.1) λY=>(bcase (!Y) (aF (ai,x)) (aF ((!decide (((aZ x.2):Int)=(aZ x.1.p4))),x)))) λJ=>(bcase J.1 (af aj) (iter (σ:=Int×dt×List (Int×List jZ)) (λI=>(bA I.1 (aZ I.2.2) (bD xB I.2.2 I.1 λM=>(obind (iz (I.2.1,I.1,M)) λU=>(bcase (!U) (aF aj) (cK ((cH I.1),I.2))))) (aF ai))) (0,J.2))))
def cI (x:jZ×sr×List jZ):Option (sr×List jZ):=
 (bE (a8 (al x.2.2+al ([(x.1.1,x.1.2.1,x.1.p2,x.1.p3,x.1.p4,x.2.1.p7)])) 48) (af (x.2.1,(x.2.2++([(x.1.1,x.1.2.1,x.1.p2,x.1.p3,x.1.p4,x.2.1.p7)])))))
def qY (rr06_gen_value:((Xp×Int)×sr×List jZ)->Option (sr×List jZ)) (x:(Xp×Int)×sr×List jZ):Option (sr×List jZ):=
 (jn (α:=sr×List jZ) (bd (Xp.op x.1.1) 1 (obind (cI ((1,x.1.2,0,0,(Xp.n x.1.1),0),x.2)) λy2=>(bE (aC (al x.2.2) (al x.2.2)&&ai) (aF y2))) (bd (Xp.op x.1.1) 2 (obind (ji (x.2.1.p6,(Xp.name x.1.1))) λy3=>(iY 0 y3 (obind (cI ((2,x.1.2,y3,0,0,0),x.2)) λy4=>(bE (aC (al x.2.2) (al x.2.2)&&ai) (aF y4))) (obind (lI ((x.2.1.1,x.2.1.2.1,x.2.1.p2,x.2.1.p3,x.2.1.p4,x.2.1.p5),(Xp.name x.1.1))) λy5=>(obind (cI ((6,x.1.2,y5,0,0,0),x.2)) λy6=>(bE (aC (al x.2.2) (al x.2.2)&&ai) (aF y6)))))) (bd (Xp.op x.1.1) 3 (bD (.ex) (Xp.l x.1.1) 0 λz7=>(obind (rr06_gen_value ((z7,x.1.2),x.2)) λI=>(bE (aC (al x.2.2) (al x.2.2)&&ai) (obind (lI ((I.1.1,I.1.2.1,I.1.p2,I.1.p3,I.1.p4,I.1.p5),(Xp.name x.1.1))) λy9=>(bD kK I.1.1 y9 λz10=>(obind (cI ((7,x.1.2,y9,x.1.2,z10.2.2.1,0),I)) λy11=>(bE (aC (al I.2) (al I.2)&&ai) (aF y11)))))))) (bd (aP (al (Xp.l x.1.1))) 1 (bD (.ex) (Xp.l x.1.1) 0 λz12=>(obind (rr06_gen_value ((z12,x.1.2),x.2)) λU=>(bE (aC (al x.2.2) (al x.2.2)&&ai) (obind (cI ((3,x.1.2,x.1.2,0,(Xp.op x.1.1),0),U)) λy14=>(bE (aC (al U.2) (al U.2)&&ai) (aF y14)))))) (bD (.ex) (Xp.l x.1.1) 0 λZ=>(obind (rr06_gen_value ((Z,x.1.2),x.2)) λM=>(bE (aC (al x.2.2) (al x.2.2)&&ai) (bD (.ex) (Xp.l x.1.1) 1 λY=>(obind (rr06_gen_value ((Y,(cH x.1.2)),M)) λJ=>(bE (aC (al M.2) (al M.2)&&ai) (obind (cI ((4,x.1.2,x.1.2,(cH x.1.2),(Xp.op x.1.1),0),J)) λy19=>(bE (aC (al J.2) (al J.2)&&ai) (aF y19))))))))))))) λx1=>(af x1))
def iS:Nat->((Xp×Int)×sr×List jZ)->Option (sr×List jZ)
 |0,_=>ah
 |n+1,x=>qY (iS n) x
theorem Bo (n:Nat) (x:(Xp×Int)×sr×List jZ):iS (n+1) x=qY (iS n) x:=rfl
def iQ (x:(Xp×Int)×sr×List jZ):Option (sr×List jZ):=iS fuel x
def mg (x:Sx×sr×List jZ):Option (sr×List jZ):=
 (bA 0 (aP (al (Sx.index x.1))) (bD (.ex) (Sx.index x.1) 0 λz1=>(obind (iQ ((z1,(aZ x.2.1.p6)),x.2)) λM=>(bE (aC (al x.2.2) (al x.2.2)&&ai) (obind (iQ ((em ((Xp.op (Sx.expr x.1)),(Xp.n (Sx.expr x.1)),(Xp.name (Sx.expr x.1)),(Xp.l (Sx.expr x.1))),(bk .i64 ((aZ x.2.1.p6)+1))),M)) λJ=>(bE (aC (al M.2) (al M.2)&&ai) (obind (lI ((J.1.1,J.1.2.1,J.1.p2,J.1.p3,J.1.p4,J.1.p5),(Sx.name x.1))) λy4=>(bD kK J.1.1 y4 λz5=>(obind (cI ((9,y4,(bk .i64 ((aZ x.2.1.p6)+1)),(aZ x.2.1.p6),z5.2.2.1,0),J)) λy6=>(bE (aC (al J.2) (al J.2)&&ai) (af y6)))))))))) (obind (iQ ((em ((Xp.op (Sx.expr x.1)),(Xp.n (Sx.expr x.1)),(Xp.name (Sx.expr x.1)),(Xp.l (Sx.expr x.1))),(aZ x.2.1.p6)),x.2)) λI=>(bE (aC (al x.2.2) (al x.2.2)&&ai) (obind (ji (I.1.p6,(Sx.name x.1))) λZ=>(iY 0 Z (obind (cI ((2,Z,(aZ x.2.1.p6),0,0,0),I)) λy9=>(bE (aC (al I.2) (al I.2)&&ai) (af y9))) (obind (lI ((I.1.1,I.1.2.1,I.1.p2,I.1.p3,I.1.p4,I.1.p5),(Sx.name x.1))) λY=>(obind (cI ((8,Y,(aZ x.2.1.p6),0,0,0),I)) λU=>(bE (aC (al I.2) (al I.2)&&ai) (af U)))))))))
def jB (x:ζ×sr×List jZ):Option (Int×sr×List jZ):=
 (iter (σ:=Int×sr×List jZ) (λI=>(bA I.1 (aZ I.2.1.p2) (bD ma I.2.1.p2 I.1 λJ=>(bcase (decide ((J.1:ζ)=x.1)) (aF I) (cK ((cH I.1),I.2)))) (aF ((-1),I.2)))) (0,x.2))
def qZ (rr06_gen_stmts:ael->Option (sr×List jZ)) (rr06_gen_stmt:Nd->Option (sr×List jZ)) (rr06_gen_branches:Nd->Option (sr×List jZ)) (rr06_gen_around:aem->Option (sr×List jZ)) (x:(List Sx)×sr×List jZ):Option (sr×List jZ):=
 (iter (σ:=Int×sr×List jZ) (λI=>(bA I.1 (aZ x.1) (bD (.sm) x.1 I.1 λJ=>(obind (rr06_gen_stmt (J,I.2)) λM=>(bE (aC (al I.2.2) (al I.2.2)&&ai) (cK ((cH I.1),M))))) (aF I.2))) (0,x.2))
def sH (rr06_gen_stmts:ael->Option (sr×List jZ)) (rr06_gen_stmt:Nd->Option (sr×List jZ)) (rr06_gen_branches:Nd->Option (sr×List jZ)) (rr06_gen_around:aem->Option (sr×List jZ)) (x:Sx×sr×List jZ):Option (sr×List jZ):=
 (jn (α:=sr×List jZ) (bd (Sx.op x.1) 1 (obind (mg (eA x.1,(x.2.1.1,x.2.1.2.1,x.2.1.p2,x.2.1.p3,x.2.1.p4,x.2.1.p5,x.2.1.p6,x.2.1.q8,(cH x.2.1.q8)),x.2.2)) λy2=>(bE (aC (al x.2.2) (al x.2.2)&&ai) (aF y2))) (jn (α:=Bool×sr×Sx×List jZ) (bd (Sx.op x.1) 2 (aF ((decide (((Sx.op x.1):Int)=2)),(x.2.1.1,x.2.1.2.1,x.2.1.p2,x.2.1.p3,x.2.1.p4,x.2.1.p5,x.2.1.p6,x.2.1.q8,(cH x.2.1.q8)),eA x.1,x.2.2)) (aF ((decide (((Sx.op x.1):Int)=3)),(x.2.1.1,x.2.1.2.1,x.2.1.p2,x.2.1.p3,x.2.1.p4,x.2.1.p5,x.2.1.p6,x.2.1.q8,(cH x.2.1.q8)),eA x.1,x.2.2))) λI=>(bcase I.1 (obind (rr06_gen_branches (eA I.p2,I.2.1,I.q3)) λy4=>(bE (aC (al I.q3) (al I.q3)&&ai) (aF y4))) (bd (Sx.op x.1) 4 (obind (kw (I.2.1.2.1,(Sx.name I.p2))) λy5=>(obind (rr06_gen_around ((eA I.p2,11,12,y5),I.2.1,I.q3)) λy6=>(bE (aC (al I.q3) (al I.q3)&&ai) (aF y6)))) (bd (Sx.op x.1) 5 (obind (kw (I.2.1.2.1,(Sx.name I.p2))) λy7=>(obind (rr06_gen_around ((eA I.p2,13,14,y7),I.2.1,I.q3)) λy8=>(bE (aC (al I.q3) (al I.q3)&&ai) (aF y8)))) (bd (Sx.op x.1) 6 (obind (kw (I.2.1.2.1,(Sx.name I.p2))) λy9=>(obind (rr06_gen_around ((eA I.p2,15,16,y9),I.2.1,I.q3)) λy10=>(bE (aC (al I.q3) (al I.q3)&&ai) (aF y10)))) (bd (Sx.op x.1) 7 (obind (rr06_gen_around ((eA I.p2,17,18,0),I.2.1,I.q3)) λy11=>(bE (aC (al I.q3) (al I.q3)&&ai) (aF y11))) (bd (Sx.op x.1) 8 (obind (rr06_gen_around ((eA I.p2,19,20,0),I.2.1,I.q3)) λy12=>(bE (aC (al I.q3) (al I.q3)&&ai) (aF y12))) (bd (Sx.op x.1) 9 (obind (jB ((Sx.name I.p2),I.2.1,I.q3)) λU=>(bE (aC (al I.q3) (al U.2.2)&&ai) (obind (cI ((21,U.1,0,0,0,0),U.2)) λy14=>(bE (aC (al U.2.2) (al U.2.2)&&ai) (aF y14))))) (bd (Sx.op x.1) 10 (obind (jB ((Sx.name I.p2),I.2.1,I.q3)) λM=>(bE (aC (al I.q3) (al M.2.2)&&ai) (obind (cI ((22,M.1,0,0,0,0),M.2)) λy16=>(bE (aC (al M.2.2) (al M.2.2)&&ai) (aF y16))))) (bd (Sx.op x.1) 11 (obind (jB ((Sx.name I.p2),I.2.1,I.q3)) λJ=>(bE (aC (al I.q3) (al J.2.2)&&ai) (obind (cI ((23,J.1,0,0,0,0),J.2)) λy18=>(bE (aC (al J.2.2) (al J.2.2)&&ai) (aF y18))))) (bd (Sx.op x.1) 12 (obind (ji (I.2.1.p4,(Sx.name I.p2))) λy19=>(obind (cI ((24,y19,0,0,0,0),I.2.1,I.q3)) λy20=>(bE (aC (al I.q3) (al I.q3)&&ai) (aF y20)))) (bd (Sx.op x.1) 13 (obind (ji (I.2.1.p4,(Sx.name I.p2))) λy21=>(obind (cI ((25,y21,0,0,0,0),I.2.1,I.q3)) λy22=>(bE (aC (al I.q3) (al I.q3)&&ai) (aF y22)))) (bd (Sx.op x.1) 14 (obind (iQ ((em ((Xp.op (Sx.expr I.p2)),(Xp.n (Sx.expr I.p2)),(Xp.name (Sx.expr I.p2)),(Xp.l (Sx.expr I.p2))),(aZ x.2.1.p6)),I.2.1,I.q3)) λY=>(bE (aC (al I.q3) (al I.q3)&&ai) (obind (ji (Y.1.p3,(Sx.name I.p2))) λy24=>(obind (cI ((26,y24,(aZ x.2.1.p6),0,0,0),Y)) λy25=>(bE (aC (al Y.2) (al Y.2)&&ai) (aF y25)))))) (bd (Sx.op x.1) 15 (obind (ji (I.2.1.p6,(Sx.name I.p2))) λy26=>(obind (ji (I.2.1.p3,(Sx.arg I.p2))) λy27=>(obind (cI ((27,y26,y27,0,0,0),I.2.1,I.q3)) λZ=>(bE (aC (al I.q3) (al I.q3)&&ai) (aF Z))))) (aF (I.2.1,I.q3))))))))))))))))) λx1=>(af x1))
def mN (rr06_gen_stmts:ael->Option (sr×List jZ)) (rr06_gen_stmt:Nd->Option (sr×List jZ)) (rr06_gen_branches:Nd->Option (sr×List jZ)) (rr06_gen_around:aem->Option (sr×List jZ)) (x:Sx×sr×List jZ):Option (sr×List jZ):=
 (obind (iQ ((em ((Xp.op (Sx.expr x.1)),(Xp.n (Sx.expr x.1)),(Xp.name (Sx.expr x.1)),(Xp.l (Sx.expr x.1))),(aZ x.2.1.p6)),x.2)) λJ=>(bE (aC (al x.2.2) (al x.2.2)&&ai) (obind (cI ((10,(aZ J.1.p6),0,0,0,0),J)) λZ=>(bE (aC (al J.2) (al J.2)&&ai) (obind (rr06_gen_stmts ((Sx.body x.1),Z)) λI=>(bE (aC (al Z.2) (al Z.2)&&ai) (bd (Sx.op x.1) 3 (obind (cI ((5,(aZ x.2.2),0,0,0,0),(I.1.1,I.1.2.1,I.1.p2,I.1.p3,I.1.p4,I.1.p5,I.1.p6,x.2.1.p7,I.1.q8),I.2)) λU=>(bE (aC (al I.2) (al I.2)&&ai) (ck (eP (aZ J.2) (al U.2)) (af (U.1,(cz U.2 (aZ J.2) ((aK (T:=rA) U.2 (aZ J.2)).1,((aK (T:=rA) U.2 (aZ J.2)).2).1,(aZ U.2),(((aK (T:=rA) U.2 (aZ J.2)).2).2).2))))))) (bd (aP (al (Sx.els x.1))) 0 (ck (eP (aZ J.2) (al I.2)) (af ((I.1.1,I.1.2.1,I.1.p2,I.1.p3,I.1.p4,I.1.p5,I.1.p6,x.2.1.p7,I.1.q8),(cz I.2 (aZ J.2) ((aK (T:=rA) I.2 (aZ J.2)).1,((aK (T:=rA) I.2 (aZ J.2)).2).1,(aZ I.2),(((aK (T:=rA) I.2 (aZ J.2)).2).2).2))))) (obind (cI ((5,0,0,0,0,0),(I.1.1,I.1.2.1,I.1.p2,I.1.p3,I.1.p4,I.1.p5,I.1.p6,x.2.1.p7,I.1.q8),I.2)) λM=>(bE (aC (al I.2) (al I.2)&&ai) (ck (eP (aZ J.2) (al M.2)) (obind (rr06_gen_stmts ((Sx.els x.1),M.1,(cz M.2 (aZ J.2) ((aK (T:=rA) M.2 (aZ J.2)).1,((aK (T:=rA) M.2 (aZ J.2)).2).1,(aZ M.2),(((aK (T:=rA) M.2 (aZ J.2)).2).2).2)))) λY=>(bE (aC (al (cz M.2 (aZ J.2) ((aK (T:=rA) M.2 (aZ J.2)).1,((aK (T:=rA) M.2 (aZ J.2)).2).1,(aZ M.2),(((aK (T:=rA) M.2 (aZ J.2)).2).2).2))) (al (cz M.2 (aZ J.2) ((aK (T:=rA) M.2 (aZ J.2)).1,((aK (T:=rA) M.2 (aZ J.2)).2).1,(aZ M.2),(((aK (T:=rA) M.2 (aZ J.2)).2).2).2)))&&ai) (ck (eP (aZ I.2) (al Y.2)) (af (Y.1,(cz Y.2 (aZ I.2) ((aK (T:=rA) Y.2 (aZ I.2)).1,(aZ Y.2),((aK (T:=rA) Y.2 (aZ I.2)).2).2))))))))))))))))))
def pw (rr06_gen_stmts:ael->Option (sr×List jZ)) (rr06_gen_stmt:Nd->Option (sr×List jZ)) (rr06_gen_branches:Nd->Option (sr×List jZ)) (rr06_gen_around:aem->Option (sr×List jZ)) (x:(Sx×Int×Int×Int)×sr×List jZ):Option (sr×List jZ):=
 (obind (cI ((x.1.2.1,x.1.q3,0,0,0,0),x.2)) λJ=>(bE (aC (al x.2.2) (al x.2.2)&&ai) (obind (rr06_gen_stmts ((Sx.body x.1.1),J)) λI=>(bE (aC (al J.2) (al J.2)&&ai) (obind (cI ((x.1.p2,x.1.q3,0,0,0,0),(I.1.1,I.1.2.1,I.1.p2,I.1.p3,I.1.p4,I.1.p5,I.1.p6,x.2.1.p7,I.1.q8),I.2)) λM=>(bE (aC (al I.2) (al I.2)&&ai) (af M)))))))
mutual
def dS:Nat->ael->Option (sr×List jZ)
 |0,_=>ah
 |n+1,x=>qZ (dS n) (eY n) (dk n) (dO n) x
def eY:Nat->Nd->Option (sr×List jZ)
 |0,_=>ah
 |n+1,x=>sH (dS n) (eY n) (dk n) (dO n) x
def dk:Nat->Nd->Option (sr×List jZ)
 |0,_=>ah
 |n+1,x=>mN (dS n) (eY n) (dk n) (dO n) x
def dO:Nat->aem->Option (sr×List jZ)
 |0,_=>ah
 |n+1,x=>pw (dS n) (eY n) (dk n) (dO n) x
end
def uK (x:(List Sx)×sr×List jZ):Option (sr×List jZ):=dS fuel x
def qR (x:sQ×List sP):Option (Az×Int×Int):=
 (obind (fD x) λy1=>(iO y1.1 0 (af (((([]:List Ur),([]:List (ζ×Bool)),([]:List fE),([]:List ζ),([]:List ζ),([]:List ν)),([]:List (Int×List jZ))),y1)) (obind (uL x) λy2=>(iter (σ:=(Γ)×(sQ×List sP)×dt×List (Int×List jZ)) (λJ=>(bA J.1.2 (aZ J.2.1.2) (bD tK J.2.1.2 J.1.2 λz4=>(bD tK J.2.1.2 J.1.2 λz5=>(obind (uK (z5.2.2.2,(J.p2.1,J.p2.2.1,J.p2.p2,J.p2.p3,J.p2.p4,J.p2.q5,z4.2.2.1,0,J.1.1),([]:List jZ))) λU=>(bE (aC (al ([]:List jZ)) (al ([]:List jZ))&&ai) (obind (cI ((28,0,0,0,0,0),(U.1.1,U.1.2.1,U.1.p2,U.1.p3,U.1.p4,U.1.p5,U.1.p6,(-1),U.1.q8),U.2)) λy7=>(bE (aC (al U.2) (al U.2)&&ai) (iter (σ:=Int×(sQ×List sP)×dt×sr×Int×(List (Int×List jZ))×List jZ) (λM=>(bA M.1 (aZ M.q6) (kl rA M.q6 M.1 λz9=>(obind (jN z9) λY=>(iter (σ:=Int×(sQ×List sP)×dt×sr×Int×(List (Int×List jZ))×List jZ) (λI=>(bA I.1 (aZ Y) (bD aM Y I.1 λZ=>(cK ((cH I.1),I.2.1,I.p2,I.p3,(iK I.p4 (cH Z)),I.q5))) (aF (kO ((cH M.1),I.2))))) (0,M.2)))) (obind (bE (a8 (al M.p5+al ([(M.p4,M.q6)])) 32) (cK ((U.1.q8,(cH J.1.2)),M.2.1,M.p2,(M.p5++([(M.p4,M.q6)]))))) λr=>af (bO r)))) (0,J.2.1,J.p2,y7.1,(aZ y7.1.p6),J.q3,y7.2)))))))) (aF (J.2.2,0,0)))) ((0,0),x,y2,([]:List (Int×List jZ)))))))
def qQ (x:η×Int):Option (Bool):=
 (iter (σ:=Int) (λI=>(bA I (aZ x.1) (bD aM x.1 I λJ=>(bd J x.2 (aF ai) (cK (cH I)))) (aF aj))) 0)
def wW (x:η×Int):Option η:=
 (iter (σ:=Int) (λI=>(jn (α:=Bool) (bA I (aZ x.1) (bD aM x.1 I λM=>(aF (gf M x.2))) (aF aj)) λY=>(bcase Y (cK (cH I)) (obind (jn (α:=Bool) (bA I (aZ x.1) (bD aM x.1 I λJ=>(aF (decide ((J:Int)=x.2)))) (aF aj)) λU=>(bcase U (af x.1) (bE (c_ 0 I&&c_ I (al x.1)) (bE (a8 (al ([]:η)+al (dI (aT I) x.1)) 8) (bE (a8 (al (([]:η)++(dI (aT I) x.1))+al ([x.2])) 8) (bE (c_ 0 I&&c_ I (al x.1)) (bE (a8 (al ((([]:η)++(dI (aT I) x.1))++([x.2]))+al (List.drop (aT I) x.1)) 8) (af (((([]:η)++(dI (aT I) x.1))++([x.2]))++(List.drop (aT I) x.1)))))))))) λr=>af (bO r))))) 0)
def rT (x:η×η):Option η:=
 (iter (σ:=η×Int) (λJ=>(bA J.2 (aZ x.1) (bD aM x.1 J.2 λU=>(obind (wW (J.1,U)) λZ=>(cK (Z,(cH J.2))))) (obind (iter (σ:=η×Int) (λI=>(bA I.2 (aZ x.2) (bD aM x.2 I.2 λM=>(obind (wW (I.1,M)) λY=>(cK (Y,(cH I.2))))) (aF I.1))) (J.1,0)) λr=>af (bO r)))) (([]:η),0))
def mC (x:Int):Option (Int):=
 (jn (α:=Bool) (bA x 1 (aF ai) (aF (gf 100 x))) λI=>(bcase I (af 0) (af x)))
def cw (x:Int×η×(List η)×Int):Option (Γ×η×List η):=
 (bE (a8 (al ([]:η)+al x.2.1) 8) (iter (σ:=Int×uw×(Γ)×(Γ)×η×List η) (λI=>(bA I.1 (aZ I.2.1.p2) (bD (.sl aM) I.2.1.p2 I.1 λJ=>(bE (a8 (al ([]:η)+al J) 8) (bE (a8 (al I.q5+al ([(([]:η)++J)])) 24) (cK ((cH I.1),I.2.1,I.p2,I.p3,I.p4,(I.q5++([(([]:η)++J)]))))))) (aF I.q3))) (0,x,(0,0),(x.1,x.q3),(([]:η)++x.2.1),([]:List η))))
def wV (x:(jZ×Int×Int)×η×List η):Option ((Γ×Bool)×η×List η):=
 (obind (jN x.1.1) λy1=>(iter (σ:=Int×η×(List η)×jZ×(Γ)×Int×Int) (λI=>(bA I.1 (aZ y1) (jn (α:=Bool×η×(List η)×jZ×(Γ)×Int×Int) (bD aM y1 I.1 λz4=>(bA z4 0 (aF (ai,I.2)) (bD aM y1 I.1 λz5=>(aF ((c_ (aZ I.2.1) z5),I.2))))) λx3=>(bcase x3.1 ah (cK ((cH I.1),x3.2)))) (obind (jn (α:=(Int×Bool×η)×η×(List η)×jZ×(Γ)×Int×Int) (bd I.p3.1 5 (cK (((I.p3.2.1,I.p4.2),ai),I.2.1,I.p2)) (bd I.p3.1 1 (aF ((I.p3.p4,ai,([]:η)),I.2)) (bd I.p3.1 2 (kl aM I.2.1 I.p3.p2 λz7=>(kl (.sl aM) I.p2 I.p3.p2 λz8=>(aF ((z7,ai,z8),I.2)))) (bd I.p3.1 3 (obind (mC I.p3.p4) λy9=>(kl aM I.2.1 I.p3.p2 λz10=>(obind (uM (y9,z10)) λU=>(kl (.sl aM) I.p2 I.p3.p2 λz12=>(aF ((U.1,U.2,z12),I.2)))))) (obind (mC I.p3.p4) λy13=>(kl aM I.2.1 I.p3.p2 λz14=>(kl aM I.2.1 I.p3.p3 λz15=>(obind (sV (y13,z14,z15)) λM=>(kl (.sl aM) I.p2 I.p3.p2 λZ=>(kl (.sl aM) I.p2 I.p3.p3 λY=>(obind (rT (Z,Y)) λy19=>(aF ((M.1,M.2,y19),I.2))))))))))))) λJ=>(bE (a8 (al ([]:η)+al J.1.2.2) 8) (ck (eP J.p3.2.1 (al J.2.1)) (ck (eP J.p3.2.1 (al J.p2)) (af ((((cH J.p4.1),J.p4.2),J.1.2.1),(cz J.2.1 J.p3.2.1 J.1.1),(cz J.p2 J.p3.2.1 (([]:η)++J.1.2.2)))))))) λr=>af (bO r)))) (0,x.2.1,x.2.2,x.1.1,x.1.2,0,0)))
def nG (x:(Int×List jZ)×Int×η×(List η)×Int):Option (uw×Bool):=
 (jn (α:=Bool×(Int×List jZ)×uw×Int×Int) (iO (aZ x.p2) x.1.1 (aF (ai,x.1,x.2,0,0)) (aF ((!decide (((aZ x.p3):Int)=x.1.1)),x.1,x.2,0,0))) λU=>(bcase U.1 (af ((0,([]:η),([]:List η),0),aj)) (obind (cw U.p2) λZ=>(iter (σ:=Int×(Int×List jZ)×(Γ)×(Γ)×η×List η) (λJ=>(iY J.1 (aZ J.2.1.2) (jn (α:=Bool×(Int×List jZ)×(Γ)×(Γ)×η×List η) (bA J.p2.1 0 (aF (ai,J.2)) (aF ((c_ (aZ J.2.1.2) J.p2.1),J.2))) λI=>(bcase I.1 (aF ((0,([]:η),([]:List η),0),aj)) (bD rA I.2.1.2 I.p2.1 λY=>(obind (qf Y.1) λy6=>(bcase (!y6) (aF ((I.p2.1,I.p4,I.q5,I.p2.2),ai)) (bd J.1 (aZ I.2.1.2) (aF ((0,([]:η),([]:List η),0),aj)) (obind (wV ((Y,I.p2),I.q4)) λM=>(bE (aC (al I.q5) (al M.2.2)&&(aC (al I.p4) (al M.2.1)&&ai)) (bcase (!M.1.2) (aF ((0,([]:η),([]:List η),0),aj)) (cK ((cH J.1),I.2.1,M.1.1,I.p3,M.2))))))))))) (aF ((0,([]:η),([]:List η),0),aj)))) (0,U.2.1,Z.1,U.q3,Z.2)))))
def rR (x:gY×gI×(List fE)×cj×cj×List ν):Option pB:=
 (iter (σ:=Int×dt×Int×Int×List (Int×η)) (λM=>(bA M.1 (aZ M.2.1.2.1) (bE (a8 (al M.q4+al ([((-1),([]:η))])) 32) (cK ((cH M.1),M.2.1,M.p2,M.p3,(M.q4++([((-1),([]:η))]))))) (obind (iter (σ:=Int×dt×Int×Int×gP×θ) (λJ=>(bA J.1 (aZ J.2.1.p3) (bE (a8 (al J.q5+al ([aj])) 1) (cK ((cH J.1),J.2.1,J.p2,J.p3,J.p4,(J.q5++([aj]))))) (obind (iter (σ:=Int×dt×Int×Int×gP×θ×List dF) (λI=>(bA I.1 (aZ I.2.1.p4) (jn (α:=dt×Int×Int×dF×gP×θ×List dF) (bd I.1 0 (aF (I.2.1,I.p2,I.p3,(1,0,aj),I.q4)) (aF (I.2.1,I.p2,I.p3,(0,0,aj),I.q4))) λU=>(bE (a8 (al U.q6+al ([U.p3])) 24) (cK ((cH I.1),U.1,U.2.1,U.p2,U.p4,U.p5,(U.q6++([U.p3])))))) (aF (I.p4,I.p3,I.q5)))) (0,J.2.1,J.p2,J.p3,J.p4,J.q5,([]:List dF))) λr=>af (bO r)))) (0,M.2.1,M.p2,M.p3,M.q4,([]:θ))) λr=>af (bO r)))) (0,x,0,(-1),([]:List (Int×η))))
def rS (x:dt×gP×Int×θ×List dF):Option (Bool):=
 (iter (σ:=Int×dt×gP×Int×θ×List dF) (λI=>(bA I.1 (aZ I.2.1.p2) (jn (α:=Bool×dt×gP×Int×θ×List dF) (bD ma I.2.1.p2 I.1 λU=>(bA U.2 0 (aF (ai,I.2)) (bD ma I.2.1.p2 I.1 λM=>(aF ((c_ (aZ I.2.1.2.1) M.2),I.2))))) λJ=>(bcase J.1 (aF aj) (cK ((cH I.1),J.2)))) (obind (jn (α:=Bool) (bd (aZ I.p2) (aZ I.2.1.2.1) (bd (aZ I.p4) (aZ I.2.1.p3) (aF (decide (((aZ I.q5):Int)=(aZ I.2.1.p4)))) (aF aj)) (aF aj)) λY=>(af Y)) λr=>af (bO r)))) (0,x))
def qP (x:Γ):Option (Bool):=
 (jn (α:=Bool) (iY 0 x.1 (aF (gf x.1 x.2)) (aF aj)) λI=>(af I))
def uJ (x:dt×Int×Int):Option (Bool):=
 (jn (α:=Bool×gY×gI×(List fE)×cj×cj×List ν) (bd x.2.1 1 (aF ((decide ((x.2.1:Int)=1)),x.1)) (bd x.2.1 2 (aF ((decide ((x.2.1:Int)=2)),x.1)) (bd x.2.1 5 (aF ((decide ((x.2.1:Int)=5)),x.1)) (bd x.2.1 12 (aF ((decide ((x.2.1:Int)=12)),x.1)) (bd x.2.1 13 (aF ((decide ((x.2.1:Int)=13)),x.1)) (bd x.2.1 14 (aF ((decide ((x.2.1:Int)=14)),x.1)) (aF ((decide ((x.2.1:Int)=15)),x.1)))))))) λx1=>(bcase x1.1 (af (decide ((x.2.2:Int)=(-1)))) (jn (α:=Bool×gY×gI×(List fE)×cj×cj×List ν) (bd x.2.1 3 (aF ((decide ((x.2.1:Int)=3)),x1.2)) (aF ((decide ((x.2.1:Int)=4)),x1.2))) λZ=>(bcase Z.1 (obind (qP (x.2.2,(aZ Z.2.1))) λy3=>(af y3)) (jn (α:=Bool×gY×gI×(List fE)×cj×cj×List ν) (bd x.2.1 6 (aF ((decide ((x.2.1:Int)=6)),Z.2)) (aF ((decide ((x.2.1:Int)=7)),Z.2))) λU=>(bcase U.1 (jn (α:=Bool) (obind (qP (x.2.2,(aZ U.p2))) λy6=>(bcase y6 (bD su U.p2 x.2.2 λz7=>(aF (!z7.2))) (aF aj))) λx5=>(af x5)) (jn (α:=Bool×gY×gI×(List fE)×cj×cj×List ν) (bd x.2.1 8 (aF ((decide ((x.2.1:Int)=8)),U.2)) (bd x.2.1 9 (aF ((decide ((x.2.1:Int)=9)),U.2)) (bd x.2.1 10 (aF ((decide ((x.2.1:Int)=10)),U.2)) (aF ((decide ((x.2.1:Int)=11)),U.2))))) λM=>(bcase M.1 (jn (α:=Bool) (obind (qP (x.2.2,(aZ M.p2))) λy10=>(bcase y10 (bD su M.p2 x.2.2 λz11=>(aF z11.2)) (aF aj))) λx9=>(af x9)) (jn (α:=Bool×gY×gI×(List fE)×cj×cj×List ν) (bd x.2.1 16 (aF ((decide ((x.2.1:Int)=16)),M.2)) (bd x.2.1 17 (aF ((decide ((x.2.1:Int)=17)),M.2)) (bd x.2.1 18 (aF ((decide ((x.2.1:Int)=18)),M.2)) (aF ((decide ((x.2.1:Int)=19)),M.2))))) λJ=>(bcase J.1 (obind (qP (x.2.2,(aZ J.p3))) λy13=>(af y13)) (jn (α:=Bool×gY×gI×(List fE)×cj×cj×List ν) (bd x.2.1 20 (aF ((decide ((x.2.1:Int)=20)),J.2)) (aF ((decide ((x.2.1:Int)=21)),J.2))) λI=>(bcase I.1 (obind (qP (x.2.2,(aZ I.p5))) λy15=>(af y15)) (jn (α:=Bool×gY×gI×(List fE)×cj×cj×List ν) (bd x.2.1 22 (aF ((decide ((x.2.1:Int)=22)),I.2)) (aF ((decide ((x.2.1:Int)=23)),I.2))) λY=>(bcase Y.1 (obind (qP (x.2.2,(aZ Y.p4))) λy17=>(af y17)) (af aj)))))))))))))))
def ku (x:dt×pB×Int×Int×Int):Option (Bool):=
 (jn (α:=Bool×dt×gP×Int×θ×List dF) (obind (rS (x.1,x.2.1)) λy2=>(bcase (!y2) (aF (ai,x.1,x.2.1)) (obind (qP (x.p2,(aZ x.1.p4))) λy3=>(bcase (!y3) (aF (ai,x.1,x.2.1)) (obind (uJ (x.1,x.q3)) λy4=>(aF ((!y4),x.1,x.2.1))))))) λM=>(bcase M.1 (af aj) (bD im M.q5 x.p2 λU=>(bd x.p3 1 (af (decide ((U.1:Int)=1))) (bd x.p3 17 (jn (α:=Bool) (bd U.1 4 (bd U.2.1 x.q4 (bD ma M.2.1.p2 x.q4 λz7=>(bD eh M.p2 z7.2 λz8=>(aF (decide ((z8.1:Int)=(-1)))))) (aF aj)) (aF aj)) λx6=>(af x6)) (iO U.1 2 (af aj) (bd x.p3 6 (bD eh M.p2 x.q4 λz9=>(af (decide ((z9.1:Int)=(-1))))) (bd x.p3 10 (jn (α:=Bool) (bD eh M.p2 x.q4 λz11=>(bd z11.1 (-1) (bD eh M.p2 x.q4 λz12=>(aF (decide (((aZ z12.2):Int)=0)))) (aF aj))) λx10=>(af x10)) (bd x.p3 8 (jn (α:=Bool) (bD eh M.p2 x.q4 λz14=>(bd z14.1 (-1) (bD eh M.p2 x.q4 λz15=>(obind (qQ (z15.2,x.p2)) λy16=>(aF (!y16)))) (aF aj))) λx13=>(af x13)) (jn (α:=Bool×dt×pB×Int×Int×Bool) (bd x.p3 7 (aF ((decide ((x.p3:Int)=7)),M.2.1,M.2.2,U)) (aF ((decide ((x.p3:Int)=11)),M.2.1,M.2.2,U))) λI=>(bcase I.1 (bD eh I.p2.1 x.q4 λz18=>(af (decide ((z18.1:Int)=x.p2)))) (bd x.p3 9 (bD eh I.p2.1 x.q4 λz19=>(obind (qQ (z19.2,x.p2)) λy20=>(af y20))) (bd x.p3 12 (af (decide ((I.p2.2.1:Int)=(-1)))) (bd x.p3 13 (af (decide ((I.p2.2.1:Int)=x.p2))) (bd x.p3 14 (af (!I.q5)) (bd x.p3 15 (af I.q5) (jn (α:=Bool×dt×gP×Int×θ×List dF) (bd x.p3 16 (aF ((decide ((x.p3:Int)=16)),I.2.1,I.p2)) (bd x.p3 18 (aF ((decide ((x.p3:Int)=18)),I.2.1,I.p2)) (aF ((decide ((x.p3:Int)=19)),I.2.1,I.p2)))) λJ=>(bcase J.1 (bD ma J.2.1.p2 x.q4 λz22=>(bD eh J.p2 z22.2 λz23=>(af (decide ((z23.1:Int)=x.p2))))) (bd x.p3 20 (jn (α:=Bool) (iO x.q4 x.p2 (bD im J.q5 x.q4 λz25=>(aF (decide ((z25.1:Int)=0)))) (aF aj)) λx24=>(af x24)) (bd x.p3 21 (jn (α:=Bool) (iO x.q4 x.p2 (bD im J.q5 x.q4 λz27=>(aF (decide ((z27.1:Int)=5)))) (aF aj)) λx26=>(af x26)) (bd x.p3 22 (bD (.bool) J.p4 x.q4 λZ=>(af (!Z))) (bd x.p3 23 (bD (.bool) J.p4 x.q4 λY=>(af Y)) (af ai)))))))))))))))))))))))
def oh (x:pB×Int):Option η:=
 (iter (σ:=Int×pB×η) (λI=>(bA I.1 (aZ I.2.1.q3) (jn (α:=pB×η) (jn (α:=Bool×pB×η) (bD im I.2.1.q3 I.1 λU=>(bd U.1 3 (bD im I.2.1.q3 I.1 λM=>(aF ((decide ((M.2.1:Int)=x.2)),I.2))) (aF (aj,I.2)))) λJ=>(bcase J.1 (bE (a8 (al J.2.2+al ([I.1])) 8) (aF (J.2.1,(J.2.2++([I.1]))))) (aF J.2))) λY=>(cK ((cH I.1),Y))) (aF I.2.2))) (0,x.1,([]:η)))
def qO (x:η×Int):Option η:=
 (iter (σ:=Int×η) (λI=>(bA I.1 (aZ x.1) (jn (α:=η) (bD aM x.1 I.1 λM=>(iO M x.2 (bD aM x.1 I.1 λJ=>(bE (a8 (al I.2+al ([J])) 8) (aF (I.2++([J]))))) (aF I.2))) λU=>(cK ((cH I.1),U))) (aF I.2))) (0,([]:η)))
def iy (x:gP×Int×θ×List dF):Option (Int×gP×θ×List dF):=
 (bE (a8 (al ([]:θ)+al x.p2) 1) (bE (a8 (al ([]:List dF)+al x.q3) 24) (iter (σ:=Int×pB×Int×Int×gP×θ×List dF) (λI=>(bA I.1 (aZ I.2.1.1) (bD eh I.2.1.1 I.1 λM=>(bD eh I.2.1.1 I.1 λJ=>(bE (a8 (al ([]:η)+al J.2) 8) (bE (a8 (al I.p4+al ([(M.1,(([]:η)++J.2))])) 32) (cK ((cH I.1),I.2.1,I.p2,I.p3,(I.p4++([(M.1,(([]:η)++J.2))])),I.q5)))))) (aF I.q3))) (0,x,0,x.2.1,([]:List (Int×η)),(([]:θ)++x.p2),(([]:List dF)++x.q3)))))
def mB (x:Γ×gP×θ×List dF):Option (η×gP×θ×List dF):=
 (iter (σ:=Int×gP×θ×(List dF)×Int×η) (λI=>(bA I.1 (aZ I.p3) (jn (α:=gP×θ×(List dF)×Int×η) (jn (α:=Bool×gP×θ×(List dF)×Int×η) (kl im I.p3 I.1 λU=>(bd U.1 3 (kl im I.p3 I.1 λM=>(aF ((decide ((M.2.1:Int)=x.1.2)),I.2))) (aF (aj,I.2)))) λJ=>(bcase J.1 (bE (a8 (al J.q5+al ([I.1])) 8) (aF (J.2.1,J.p2,J.p3,J.p4,(J.q5++([I.1]))))) (aF J.2))) λY=>(cK ((cH I.1),Y))) (aF (I.q5,I.2.1,I.p2,I.p3)))) (0,x.2.1,x.p2,x.q3,x.1.1,([]:η)))
def jL (x:Γ×gP×θ×List dF):Option η:=obind (mB x) λy=>same y.2 x.2 (af y.1)
def pM (x:dt×pB×Int×Int×Int×Int):Option (pB×Int×Bool):=
 (obind (ku (x.1,x.2.1,x.p2,x.p3,x.p4)) λy1=>(bcase (!y1) (af ((([]:List (Int×η)),0,([]:θ),([]:List dF)),0,aj)) (obind (iy x.2.1) λU=>(jn (α:=Int×Int×Int×gP×θ×List dF) (bd x.p3 1 (ck (eP x.p2 (al U.q3)) (aF (0,U.1,0,U.2.1,U.p2,(cz U.q3 x.p2 (2,(aK (T:=im) U.q3 x.p2).2))))) (bd x.p3 2 (ck (eP x.p2 (al U.q3)) (aF (0,U.1,0,U.2.1,U.p2,(cz U.q3 x.p2 (5,(aK (T:=im) U.q3 x.p2).2))))) (jn (α:=Bool×dt×Int×Int×gP×θ×List dF) (bd x.p3 6 (aF ((decide ((x.p3:Int)=6)),x.1,U.1,0,U.2)) (aF ((decide ((x.p3:Int)=10)),x.1,U.1,0,U.2))) λY=>(bcase Y.1 (ck (eP x.p4 (al Y.p4)) (aF (0,Y.p2,Y.p3,(cz Y.p4 x.p4 (x.p2,(aK (T:=eh) Y.p4 x.p4).2)),Y.q5))) (jn (α:=Bool×dt×Int×Int×gP×θ×List dF) (bd x.p3 7 (aF ((decide ((x.p3:Int)=7)),Y.2)) (aF ((decide ((x.p3:Int)=11)),Y.2))) λI=>(bcase I.1 (ck (eP x.p4 (al I.p4)) (aF (0,I.p2,I.p3,(cz I.p4 x.p4 ((-1),(aK (T:=eh) I.p4 x.p4).2)),I.q5))) (bd x.p3 8 (kl eh I.p4 x.p4 λz6=>(obind (rT (z6.2,[x.p2])) λy7=>(ck (eP x.p4 (al I.p4)) (aF (0,I.p2,I.p3,(cz I.p4 x.p4 ((aK (T:=eh) I.p4 x.p4).1,y7)),I.q5))))) (bd x.p3 9 (kl eh I.p4 x.p4 λz8=>(obind (qO (z8.2,x.p2)) λy9=>(ck (eP x.p4 (al I.p4)) (aF (0,I.p2,I.p3,(cz I.p4 x.p4 ((aK (T:=eh) I.p4 x.p4).1,y9)),I.q5))))) (bd x.p3 12 (aF (0,x.p2,I.q3)) (bd x.p3 13 (aF (0,(-1),I.q3)) (bd x.p3 14 (ck (eP x.p2 (al I.q6)) (aF (0,I.p2,I.p3,I.p4,I.p5,(cz I.q6 x.p2 ((aK (T:=im) I.q6 x.p2).1,((aK (T:=im) I.q6 x.p2).2).1,ai))))) (bd x.p3 15 (ck (eP x.p2 (al I.q6)) (aF (0,I.p2,I.p3,I.p4,I.p5,(cz I.q6 x.p2 ((aK (T:=im) I.q6 x.p2).1,((aK (T:=im) I.q6 x.p2).2).1,aj))))) (bd x.p3 16 (bD ma I.2.1.p2 x.p4 λz10=>(ck (eP z10.2 (al I.p4)) (ck (eP x.p2 (al I.q6)) (ck (eP x.p2 (al (cz I.q6 x.p2 (3,(aK (T:=im) I.q6 x.p2).2)))) (aF (0,I.p2,I.p3,(cz I.p4 z10.2 ((-1),(aK (T:=eh) I.p4 z10.2).2)),I.p5,(cz (cz I.q6 x.p2 (3,(aK (T:=im) I.q6 x.p2).2)) x.p2 ((aK (T:=im) (cz I.q6 x.p2 (3,(aK (T:=im) I.q6 x.p2).2)) x.p2).1,x.p4,((aK (T:=im) (cz I.q6 x.p2 (3,(aK (T:=im) I.q6 x.p2).2)) x.p2).2).2)))))))) (bd x.p3 17 (bD ma I.2.1.p2 x.p4 λz11=>(ck (eP z11.2 (al I.p4)) (ck (eP x.p2 (al I.q6)) (ck (eP x.p2 (al (cz I.q6 x.p2 (2,(aK (T:=im) I.q6 x.p2).2)))) (aF (0,I.p2,I.p3,(cz I.p4 z11.2 (x.p2,(aK (T:=eh) I.p4 z11.2).2)),I.p5,(cz (cz I.q6 x.p2 (2,(aK (T:=im) I.q6 x.p2).2)) x.p2 ((aK (T:=im) (cz I.q6 x.p2 (2,(aK (T:=im) I.q6 x.p2).2)) x.p2).1,0,((aK (T:=im) (cz I.q6 x.p2 (2,(aK (T:=im) I.q6 x.p2).2)) x.p2).2).2)))))))) (bd x.p3 18 (obind (jL ((I.p2,x.p4),I.q4)) λy12=>(bA 0 (aZ y12) (bD aM y12 0 λz13=>(jn (α:=Int×Int×Int×gP×θ×List dF) (obind (qQ (y12,x.q5)) λy15=>(bcase y15 (aF (x.q5,I.2.2)) (aF (z13,I.2.2)))) λM=>(ck (eP M.1 (al M.q5)) (aF (M.1,M.2.1,M.p2,M.p3,M.p4,(cz M.q5 M.1 (4,(aK (T:=im) M.q5 M.1).2))))))) (aF ((-1),I.2.2)))) (bd x.p3 19 (obind (jL ((I.p2,x.p4),I.q4)) λy16=>(iter (σ:=Int×Int×Int×gP×θ×List dF) (λJ=>(bA J.1 (aZ y16) (bD aM y16 J.1 λZ=>(ck (eP Z (al J.q5)) (cK ((cH J.1),J.2.1,J.p2,J.p3,J.p4,(cz J.q5 Z (4,(aK (T:=im) J.q5 Z).2)))))) (aF (bO ((aZ y16),J.2))))) (0,I.2.2))) (bd x.p3 20 (ck (eP x.p4 (al I.q6)) (aF (0,I.p2,I.p3,I.p4,I.p5,(cz I.q6 x.p4 (1,(aK (T:=im) I.q6 x.p4).2))))) (bd x.p3 22 (ck (eP x.p4 (al I.p5)) (aF (0,I.p2,I.p3,I.p4,(cz I.p5 x.p4 ai),I.q6))) (aF (0,I.2.2)))))))))))))))))))) λx3=>(af ((x3.p3,x3.2.1,x3.q4),x3.1,ai))))))
def uI (x:dt×List (Int×List jZ)):Option xz:=
 (obind (jM x) λy1=>(bcase (!y1) (af ((([]:List (Int×η)),0,([]:θ),([]:List dF)),([]:η),([]:η),([]:List uw))) (obind (rR x.1) λy2=>(iter (σ:=Int×Az×Int×pB×η) (λM=>(bA M.1 (aZ M.2.1.1.1) (bD kK M.2.1.1.1 M.1 λZ=>(bE (a8 (al M.q4+al ([Z.2.2.2.2])) 8) (cK ((cH M.1),M.2.1,M.p2,M.p3,(M.q4++([Z.2.2.2.2])))))) (obind (iter (σ:=Int×Az×Int×pB×η×η) (λJ=>(bA J.1 (aZ J.2.1.1.p3) (bE (a8 (al J.q5+al ([0])) 8) (cK ((cH J.1),J.2.1,J.p2,J.p3,J.p4,(J.q5++([0]))))) (obind (iter (σ:=Int×Az×Int×pB×η×η×List uw) (λI=>(bA I.1 (aZ I.2.1.2) (vp I.1 I.2.1.2 (lt ((aK (T:=xB) I.2.1.2 I.1).1) λY=>(bE (c_ 0 Y&&c_ Y Y&&a8 (aT Y) 8) (vp I.1 I.2.1.2 (lt ((aK (T:=xB) I.2.1.2 I.1).1) λU=>(bE (c_ 0 U&&c_ U U&&a8 (aT U) 24) (bE (a8 (al I.q6+al ([(0,(aG (aT Y) (0:Int)),(aG (aT U) ([]:η)),0)])) 64) (cK ((cH I.1),I.2.1,I.p2,I.p3,I.p4,I.p5,(I.q6++([(0,(aG (aT Y) (0:Int)),(aG (aT U) ([]:η)),0)]))))))))))) (aF I.q3))) (0,J.2.1,J.p2,J.p3,J.p4,J.q5,([]:List uw))) λr=>af (bO r)))) (0,M.2.1,M.p2,M.p3,M.q4,([]:η))) λr=>af (bO r)))) (0,x,0,y2,([]:η))))))
def wU (x:Az×pB×η×η×List uw):Option (Bool):=
 (jn (α:=Bool×Az×pB×η×η×List uw) (obind (jM x.1) λy2=>(bcase (!y2) (aF (ai,x)) (obind (rS (x.1.1,x.2.1)) λy3=>(bcase (!y3) (aF (ai,x)) (iO (aZ x.p2) (aZ x.1.1.1) (aF (ai,x)) (iO (aZ x.p3) (aZ x.1.1.p3) (aF (ai,x)) (aF ((!decide (((aZ x.q4):Int)=(aZ x.1.2))),x)))))))) λU=>(bcase U.1 (af aj) (iter (σ:=Int×Az×pB×η×η×List uw) (λI=>(bA I.1 (aZ I.2.1.2) (bD fe I.q5 I.1 λJ=>(jn (α:=Bool×Az×pB×η×η×List uw) (bA J.1 0 (aF (ai,I.2)) (bD xB I.2.1.2 I.1 λz7=>(iY (aZ z7.2) J.1 (aF (ai,I.2)) (bD xB I.2.1.2 I.1 λZ=>(iO (aZ J.2.1) Z.1 (aF (ai,I.2)) (bD xB I.2.1.2 I.1 λY=>(aF ((!decide (((aZ J.p2):Int)=Y.1)),I.2)))))))) λM=>(bcase M.1 (aF aj) (cK ((cH I.1),M.2))))) (aF ai))) (0,U.2))))
def wS (x:Int):Option (Int):=
 (jn (α:=Bool×η) (bA x 6 (aF (ai,[3,3,4,4,5,6,7,8,9,10,11,12,13,14,15,16,18,19,20,21,22,23,2])) (aF ((gf 28 x),[3,3,4,4,5,6,7,8,9,10,11,12,13,14,15,16,18,19,20,21,22,23,2]))) λI=>(bcase I.1 (af 0) (kl aM I.2 (bk .i64 (x-6)) λJ=>(af J))))
def sU (x:jZ×Int×η×(List η)×Int):Option (Int):=
 (jn (α:=Bool×jZ×Int×η×(List η)×Int) (bd x.1.1 6 (aF ((decide ((x.1.1:Int)=6)),x)) (aF ((decide ((x.1.1:Int)=27)),x))) λI=>(bcase I.1 (af I.2.1.p2) (bd x.1.1 7 (bD aM I.p3 I.2.1.p3 λU=>(obind (rU (U,I.2.1.p4)) λZ=>(af (bk .i64 (I.2.1.p2+Z))))) (bd x.1.1 9 (bD aM I.p3 I.2.1.p3 λM=>(obind (rU (M,I.2.1.p4)) λY=>(af (bk .i64 (I.2.1.2.1+Y))))) (jn (α:=Bool×Int×Int×Int×Int×Int×Int) (bd x.1.1 10 (aF ((decide ((x.1.1:Int)=10)),I.2.1)) (bd x.1.1 17 (aF ((decide ((x.1.1:Int)=17)),I.2.1)) (bd x.1.1 18 (aF ((decide ((x.1.1:Int)=18)),I.2.1)) (bd x.1.1 19 (aF ((decide ((x.1.1:Int)=19)),I.2.1)) (bd x.1.1 20 (aF ((decide ((x.1.1:Int)=20)),I.2.1)) (aF ((decide ((x.1.1:Int)=28)),I.2.1))))))) λJ=>(bcase J.1 (af (-1)) (af J.p2)))))))
def og (x:Az×xz×Int):Option (gd×Bool):=
 (jn (α:=Bool×Az×xz×Int×Int×Int×Int×Int) (obind (wU (x.1,x.2.1)) λy2=>(bcase (!y2) (aF (ai,x.1,x.2.1,0,0,0,0,0)) (bA x.2.2 0 (aF (ai,x.1,x.2.1,0,0,0,0,0)) (aF ((c_ (aZ x.1.2) x.2.2),x.1,x.2.1,0,0,0,0,0))))) λZ=>(bcase Z.1 (af ((0,0,0,0,0,([]:η),([]:η)),aj)) (bD fe Z.p2.q3 x.2.2 λz3=>(bD xB Z.2.1.2 x.2.2 λz4=>(bD rA z4.2 z3.1 λM=>(bD im Z.p2.1.q3 x.2.2 λz6=>(bd z6.1 1 (af ((x.2.2,1,(-1),0,(-1),([]:η),([]:η)),ai)) (bd z6.1 4 (bD im Z.p2.1.q3 x.2.2 λz7=>(af ((x.2.2,17,z7.2.1,0,M.q5,([]:η),([]:η)),ai))) (bd z6.1 2 (obind (wS M.1) λy8=>(obind (sU (M,z3)) λy9=>(bd y8 0 (af ((0,0,0,0,0,([]:η),([]:η)),aj)) (jn (α:=wC×uw×jZ×wC×η) (bd M.1 10 (bD (.sl aM) z3.p2 M.2.1 λz11=>(bE (a8 (al (z11:η)) 8) (aF (Z.q3,z3,M,(x.2.2,y8,y9,0,M.q5),z11)))) (jn (α:=Bool×wC×uw×jZ×Int×Int×Int×Int×Int) (bd M.1 7 (aF ((decide ((M.1:Int)=7)),Z.q3,z3,M,x.2.2,y8,y9,0,M.q5)) (aF ((decide ((M.1:Int)=9)),Z.q3,z3,M,x.2.2,y8,y9,0,M.q5))) λI=>(bcase I.1 (bD (.sl aM) I.p2.p2 I.p3.p3 λz13=>(bE (a8 (al (z13:η)) 8) (aF (I.2.1,I.p2,I.p3,I.q4,z13)))) (aF (I.2.1,I.p2,I.p3,I.q4,([]:η)))))) λY=>(jn (α:=wC×wC×η×η) (jn (α:=Bool×wC×uw×jZ×wC×η) (bd Y.p2.1 8 (aF (ai,Y)) (bd Y.p2.1 9 (aF (ai,Y)) (aF ((decide ((Y.p2.1:Int)=26)),Y)))) λJ=>(bcase J.1 (bD (.sl aM) J.p2.p2 J.p3.p2 λz16=>(bE (a8 (al (z16:η)) 8) (aF (J.2.1,J.p4,J.q5,z16)))) (aF (J.2.1,J.p4,J.q5,([]:η))))) λU=>(af ((U.2.1.1,U.2.1.2.1,U.2.1.p2,U.2.1.p3,U.2.1.q4,U.2.2),ai))))))) (af ((0,0,0,0,0,([]:η),([]:η)),aj)))))))))))
def nh (x:gY×gI×(List fE)×cj×cj×List ν):Option eQ:=
 (obind (rR x) λM=>(bE (c_ 0 (aZ x.p3)&&c_ (aZ x.p3) (aZ x.p3)&&a8 (aT (aZ x.p3)) 8) (bE (c_ 0 (aZ x.p4)&&c_ (aZ x.p4) (aZ x.p4)&&a8 (aT (aZ x.p4)) 8) (iter (σ:=Int×dt×Int×pB×η×η×η) (λI=>(bA I.1 (aZ I.2.1.1) (bD kK I.2.1.1 I.1 λJ=>(bE (a8 (al I.p4+al ([J.2.2.2.2])) 8) (cK ((cH I.1),I.2.1,I.p2,I.p3,(I.p4++([J.2.2.2.2])),I.q5)))) (aF I.q3))) (0,x,0,M,([]:η),(aG (aT (aZ x.p3)) (0:Int)),(aG (aT (aZ x.p4)) (0:Int)))))))
def wR (x:dt×pB×η×η×η):Option (Bool):=
 (jn (α:=Bool) (obind (rS (x.1,x.2.1)) λI=>(bcase I (bd (aZ x.p2) (aZ x.1.1) (bd (aZ x.p3) (aZ x.1.p3) (aF (decide (((aZ x.q4):Int)=(aZ x.1.p4)))) (aF aj)) (aF aj)) (aF aj))) λJ=>(af J))
def Dp (x:Γ):Option (Bool):=
 (jn (α:=Bool) (iY 0 x.1 (aF (gf x.1 x.2)) (aF aj)) λI=>(af I))
def oe (x:η×Int):Option (Bool):=
 (iter (σ:=Int) (λI=>(bA I (aZ x.1) (jn (α:=Bool) (bD aM x.1 I λY=>(bA Y 1 (aF ai) (bD aM x.1 I λU=>(iY x.2 U (aF ai) (bA 0 I (bD aM x.1 I λM=>(bD aM x.1 (bk .i64 (I-1)) λJ=>(aF (c_ M J)))) (aF aj)))))) λZ=>(bcase Z (aF aj) (cK (cH I)))) (aF ai))) 0)
def uG (x:eQ×Int×Int×Int×Int×Int×η×η):Option (Bool):=
 (bd x.p2 3 (bD aM x.1.2.1 x.p3 λU=>(af (decide ((x.p4:Int)=U)))) (bd x.p2 23 (bD aM x.1.p2 x.p3 λM=>(af (decide ((x.p4:Int)=M)))) (bd x.p2 5 (jn (α:=Bool) (bd x.p4 0 (aF ai) (aF (decide ((x.p4:Int)=1)))) λx3=>(af x3)) (jn (α:=Bool×eQ×Int×Int×Int×Int×Int×η×η) (bd x.p2 4 (aF ((decide ((x.p2:Int)=4)),x)) (aF ((decide ((x.p2:Int)=22)),x))) λI=>(bcase I.1 (af ai) (bd x.p2 18 (obind (oh (I.2.1.1,I.p4)) λJ=>(bd (aZ J) 0 (af (decide ((I.p5:Int)=(-1)))) (jn (α:=Bool) (iY 0 I.p5 (bA I.p5 (aZ I.2.1.1.q3) (obind (qQ (J,I.p5)) λZ=>(aF Z)) (aF aj)) (aF aj)) λx6=>(af x6)))) (bd x.p2 19 (obind (oh (I.2.1.1,I.p4)) λY=>(af (decide ((I.p5:Int)=(aZ Y))))) (af (decide ((I.p5:Int)=0))))))))))
def rQ (x:dt×eQ×Int×Int×Int×Int×Int×η×η):Option (eQ×Bool):=
 (jn (α:=Bool×dt×eQ×gd×Int) (obind (wR (x.1,x.2.1)) λy2=>(bcase (!y2) (aF (ai,x.1,x.2.1,x.2.2,0)) (obind (Dp (x.p2,(aZ x.1.p4))) λy3=>(bcase (!y3) (aF (ai,x.1,x.2.1,x.2.2,0)) (bA x.p3 1 (aF (ai,x.1,x.2.1,x.2.2,0)) (bA 23 x.p3 (aF (ai,x.1,x.2.1,x.2.2,0)) (obind (ku (x.1,x.2.1.1,x.p2,x.p3,x.p4)) λy4=>(aF ((!y4),x.1,x.2.1,x.2.2,0))))))))) λx1=>(bcase x1.1 (af (((([]:List (Int×η)),0,([]:θ),([]:List dF)),([]:η),([]:η),([]:η)),aj)) (jn (α:=dt×eQ×gd×Int) (jn (α:=Bool×dt×eQ×gd×Int) (bd x1.p3.2.1 1 (aF (ai,x1.2)) (aF ((decide ((x1.p3.2.1:Int)=2)),x1.2))) λx6=>(bcase x6.1 (iO x6.p3.p4 (-1) (cK (((([]:List (Int×η)),0,([]:θ),([]:List dF)),([]:η),([]:η),([]:η)),aj)) (aF x6.2)) (jn (α:=Bool×dt×eQ×gd×Int) (obind (Dp (x6.p3.p4,(aZ x6.2.1.q5))) λy8=>(bcase (!y8) (aF (ai,x6.2)) (bD pj x6.2.1.q5 x6.p3.p4 λz9=>(aF ((!decide ((z9.1:Int)=x6.p3.1)),x6.2))))) λx7=>(bcase x7.1 (cK (((([]:List (Int×η)),0,([]:θ),([]:List dF)),([]:η),([]:η),([]:η)),aj)) (aF x7.2))))) λx5=>(jn (α:=Bool×dt×eQ×gd×Int) (bd x5.p2.2.1 3 (aF (ai,x5)) (aF ((decide ((x5.p2.2.1:Int)=4)),x5))) λZ=>(jn (α:=Bool×dt×eQ×gd×Int) (bA 0 (aZ Z.p3.p5) (iO Z.p3.2.1 5 (bcase Z.1 (bD kK Z.2.1.1 Z.p3.p2 λz12=>(aF ((!(!decide ((z12.2.2.1:Int)=0))),Z.2))) (aF (ai,Z.2))) (aF (aj,Z.2))) (aF (aj,Z.2))) λx11=>(bcase x11.1 (af (((([]:List (Int×η)),0,([]:θ),([]:List dF)),([]:η),([]:η),([]:η)),aj)) (jn (α:=Bool×dt×eQ×gd×Int) (bA 0 (aZ x11.p3.q6) (iO x11.p3.2.1 4 (aF ((!decide ((x11.p3.2.1:Int)=22)),x11.2)) (aF (aj,x11.2))) (aF (aj,x11.2))) λU=>(bcase U.1 (af (((([]:List (Int×η)),0,([]:θ),([]:List dF)),([]:η),([]:η),([]:η)),aj)) (jn (α:=Bool×dt×eQ×gd×Int) (bD aM U.p2.q3 U.p3.1 λz15=>(obind (oe (U.p3.p5,z15)) λy16=>(bcase (!y16) (aF (ai,U.2)) (bD aM U.p2.q3 U.p3.1 λz17=>(obind (oe (U.p3.q6,z17)) λy18=>(bcase (!y18) (aF (ai,U.2)) (obind (uG (U.p2,U.p3)) λy19=>(aF ((!y19),U.2))))))))) λI=>(bcase I.1 (af (((([]:List (Int×η)),0,([]:θ),([]:List dF)),([]:η),([]:η),([]:η)),aj)) (bE (a8 (al ([]:η)+al I.p2.2.1) 8) (bE (a8 (al ([]:η)+al I.p2.p2) 8) (bE (a8 (al ([]:η)+al I.p2.q3) 8) (jn (α:=Int×dt×eQ×gd×Int×Int×η×η×η) (bd I.p3.2.1 18 (aF (I.p3.p3,I.2.1,I.p2,I.p3,I.q4,0,(([]:η)++I.p2.2.1),(([]:η)++I.p2.p2),(([]:η)++I.p2.q3))) (aF ((-1),I.2.1,I.p2,I.p3,I.q4,0,(([]:η)++I.p2.2.1),(([]:η)++I.p2.p2),(([]:η)++I.p2.q3)))) λJ=>(obind (pM (J.2.1,J.p2.1,J.p3.1,J.p3.2.1,J.p3.p2,J.1)) λy21=>(jn (α:=gd×Int×pB×η×η×η) (bd J.p3.2.1 4 (ck (eP J.p3.p2 (al J.p6)) (aF (J.p3,J.p4,y21.1,(cz J.p6 J.p3.p2 J.p3.p3),J.q7))) (aF (J.p3,J.p4,y21.1,J.q6))) λM=>(jn (α:=gd×Int×pB×η×η×η) (bd M.1.2.1 22 (ck (eP M.1.p2 (al M.p4)) (aF (M.1,M.2.1,M.p2,M.p3,(cz M.p4 M.1.p2 M.1.p3),M.q5))) (aF M)) λY=>(kl aM Y.q5 Y.1.1 λz24=>(ck (eP Y.1.1 (al Y.q5)) (af ((Y.p2,Y.p3,Y.p4,(cz Y.q5 Y.1.1 (cH z24))),ai)))))))))))))))))))))
def rP (x:(List gd)×Int×Int×η):Option (Bool):=
 (iter (σ:=Int) (λJ=>(bA J (aZ x.q3) (iter (σ:=Int×Bool×Int) (λI=>(bA I.2.2 x.2.1 (jn (α:=Int×Bool) (bD gr x.1 I.2.2 λz4=>(iO z4.1 x.p2 (aF (I.1,I.2.1)) (jn (α:=Bool) (bcase I.2.1 (aF ai) (bD aM x.q3 J λZ=>(bd I.1 Z (bD gr x.1 I.2.2 λY=>(bd Y.2.1 3 (aF ai) (bD gr x.1 I.2.2 λU=>(aF (decide ((U.2.1:Int)=23)))))) (aF aj)))) λx5=>(aF ((cH I.1),x5))))) λM=>(cK (M.1,M.2,(cH I.2.2)))) (obind (bcase (!I.2.1) (aF aj) (cK (cH J))) λr=>af (bO r)))) (0,aj,0)) (aF ai))) 0)
def uH (x:dt×List gd):Option Γ:=
 (bA 400 (aZ x.2) (af (0,2)) (obind (ii x.1) λy1=>(bcase (!y1) (af (0,1)) (obind (nh x.1) λy2=>(iter (σ:=Int×(dt×List gd)×pB×η×η×η) (λI=>(bA I.1 (aZ I.2.1.2) (bD gr I.2.1.2 I.1 λJ=>(obind (rQ (I.2.1.1,I.2.2,J)) λM=>(jn (α:=Bool×(dt×List gd)×eQ×pB×η×η×η) (bcase (!M.2) (aF (ai,I.2.1,I.2.2,M.1)) (obind (rP (I.2.1.2,I.1,J.1,J.p5)) λZ=>(bcase (!Z) (aF (ai,I.2.1,I.2.2,M.1)) (obind (rP (I.2.1.2,I.1,J.1,J.q6)) λY=>(aF ((!Y),I.2.1,I.2.2,M.1)))))) λU=>(bcase U.1 (aF (I.1,12)) (cK ((cH I.1),U.2.1,U.q3)))))) (aF (0,0)))) (0,x,y2))))))
def KG {Z W V:Type} (i:Int) (t1:Z->η->(List η)->W) (t2:W->V) (t3:V->uw->List uw) (x6:Int) (I:Az×pB×(Γ)×Int×wC×gd×(Γ)×η×η×Z×η×List η):Option ED:=
 (jn (α:=pB×(Γ)×Int×wC×gd×uw×η×η×V) (jn (α:=Bool×Az×pB×(Γ)×Int×wC×gd×uw×η×η×W) (iO I.p5.2.1 16 (aF ((!decide ((I.p5.2.1:Int)=2)),I.1,I.2.1,I.p2,I.p3,I.p4,I.p5,(x6,I.p10,I.q11,(cH I.p6.2)),I.p7,I.p8,(t1 I.p9 I.p10 I.q11))) (aF (aj,I.1,I.2.1,I.p2,I.p3,I.p4,I.p5,(x6,I.p10,I.q11,(cH I.p6.2)),I.p7,I.p8,(t1 I.p9 I.p10 I.q11)))) λJ=>(bcase J.1 (bD xB J.2.1.2 J.p3.1 λU=>(obind (nG (U,J.p7)) λY=>(aF (J.p2,J.p3,J.p4,J.p5,J.p6,Y.1,J.p8,J.p9,(t2 J.q10))))) (aF (J.p2,J.p3,J.p4,J.p5,J.p6,J.p7,J.p8,J.p9,(t2 J.q10))))) λM=>(bd M.2.1.1 i (af ((M.1,M.p6,M.p7,(t3 M.q8 M.p5)),M.p4,ai)) ah))
def SG {Z:Type} (i:Int) (cp:(pB×η×η×List uw)->Option (Int×gP×θ×(List dF)×η×η×Z×η×List η)) (Y ev:Z->Int) (k:Int->(Az×pB×(Γ)×Int×wC×gd×(Γ)×η×η×Z×η×List η)->Option ED) (x:Az×xz×Int×Int):Option ED:=
 (obind (og (x.1,x.2.1,x.p2)) λM=>(bcase (!M.2) (af (((([]:List (Int×η)),0,([]:θ),([]:List dF)),([]:η),([]:η),([]:List uw)),(0,0,0,0,0,([]:η),([]:η)),aj)) (obind (pM (x.1.1,x.2.1.1,x.p2,M.1.2.1,M.1.p2,x.q3)) λy2=>(bcase (!y2.2.2) (af (((([]:List (Int×η)),0,([]:θ),([]:List dF)),([]:η),([]:η),([]:List uw)),(0,0,0,0,0,([]:η),([]:η)),aj)) (obind (cp x.2.1) λU=>(bd x.p2 i (bD xB x.1.2 i λz4=>(bD rA z4.2 (Y U.p6) λz5=>(jn (α:=Int×Az×pB×(Γ)×Int×wC×gd×(Γ)×jZ×η×η×Z×η×List η) (jn (α:=Bool×Az×pB×(Γ)×Int×wC×gd×(Γ)×jZ×η×η×Z×η×List η) (bd M.1.2.1 1 (aF ((decide ((M.1.2.1:Int)=1)),x.1,y2.1,(i,x.q3),0,(0,0,0,0,0),(M.1.1,M.1.2.1,M.1.p2,y2.2.1,M.1.q4),((Y U.p6),(ev U.p6)),z5,U.q4)) (bd M.1.2.1 16 (aF ((decide ((M.1.2.1:Int)=16)),x.1,y2.1,(i,x.q3),0,(0,0,0,0,0),(M.1.1,M.1.2.1,M.1.p2,y2.2.1,M.1.q4),((Y U.p6),(ev U.p6)),z5,U.q4)) (aF ((decide ((M.1.2.1:Int)=2)),x.1,y2.1,(i,x.q3),0,(0,0,0,0,0),(M.1.1,M.1.2.1,M.1.p2,y2.2.1,M.1.q4),((Y U.p6),(ev U.p6)),z5,U.q4)))) λI=>(bcase I.1 (aF (I.p7.1,I.2)) (bd M.1.2.1 3 (kl aM I.p9 I.p6.p2 λz8=>(aF ((bk .i64 ((Y U.p6)+1)),I.2.1,I.p2,I.p3,I.p4,I.p5,(I.p6.1,I.p6.2.1,I.p6.p2,z8,I.p6.q4),I.q7))) (bd M.1.2.1 23 (kl aM I.p10 I.p6.p2 λz9=>(aF ((bk .i64 ((Y U.p6)+1)),I.2.1,I.p2,I.p3,I.p4,I.p5,(I.p6.1,I.p6.2.1,I.p6.p2,z9,I.p6.q4),I.q7))) (bd M.1.2.1 4 (kl aM I.p12 I.p8.p2 λz10=>(ck (eP I.p6.p2 (al I.p9)) (aF ((bk .i64 ((Y U.p6)+1)),I.2.1,I.p2,I.p3,I.p4,I.p5,(I.p6.1,I.p6.2.1,I.p6.p2,z10,I.p6.q4),I.p7,I.p8,(cz I.p9 I.p6.p2 z10),I.q10)))) (bd M.1.2.1 22 (kl aM I.p12 I.p8.p2 λz11=>(ck (eP I.p6.p2 (al I.p10)) (aF ((bk .i64 ((Y U.p6)+1)),I.2.1,I.p2,I.p3,I.p4,I.p5,(I.p6.1,I.p6.2.1,I.p6.p2,z11,I.p6.q4),I.p7,I.p8,I.p9,(cz I.p10 I.p6.p2 z11),I.q11)))) (bd M.1.2.1 5 (kl aM I.p12 I.p8.2.1 λz12=>(bd z12 0 (aF (I.p8.p2,I.2.1,I.p2,I.p3,I.p4,I.p5,(I.p6.1,I.p6.2.1,I.p6.p2,0,I.p6.q4),I.q7)) (aF ((bk .i64 ((Y U.p6)+1)),I.2.1,I.p2,I.p3,I.p4,I.p5,(I.p6.1,I.p6.2.1,I.p6.p2,1,I.p6.q4),I.q7)))) (aF ((bk .i64 ((Y U.p6)+1)),I.2))))))))) λx6=>(jn (α:=Az×pB×(Γ)×Int×wC×gd×(Γ)×η×η×Z×η×List η) (jn (α:=Bool×Az×pB×(Γ)×Int×wC×gd×(Γ)×jZ×η×η×Z×η×List η) (bd x6.p6.2.1 3 (aF (ai,x6.2)) (aF ((decide ((x6.p6.2.1:Int)=23)),x6.2))) λJ=>(bcase J.1 (ck (eP J.p8.2.1 (al J.p12)) (ck (eP J.p8.2.1 (al J.q13)) (aF (J.2.1,J.p2,J.p3,J.p4,J.p5,J.p6,J.p7,J.p9,J.p10,J.p11,(cz J.p12 J.p8.2.1 J.p6.p3),(cz J.q13 J.p8.2.1 ([J.p7.2])))))) (aF (J.2.1,J.p2,J.p3,J.p4,J.p5,J.p6,J.p7,J.q9)))) λx13=>(k x6.1 x13))))) ah))))))
def nF (x:pB×η×η×List uw):Option (Int×gP×θ×(List dF)×η×η×(Γ)×η×List η):=
 (obind (iy x.1) λI=>(bE (a8 (al ([]:η)+al x.2.1) 8) (bE (a8 (al ([]:η)+al x.p2) 8) (bA 0 (aZ x.q3) (bD fe x.q3 0 λM=>(obind (cw M) λU=>(bA 1 (aZ x.q3) (bD fe x.q3 1 λJ=>(obind (cw J) λY=>ah)) (af (I.1,I.2.1,I.p2,I.q3,(([]:η)++x.2.1),(([]:η)++x.p2),U))))) ah))))
def gq (x:Az×xz×Int×Int):Option ED:=
 SG 0 nF (λz=>z.1) (λz=>z.2) (KG 0 (λz R T=>(z.1,R,T,z.2)) (λw=>((w.1,w.2.1,w.2.2.1,w.2.2.2))) (λv t=>[t])) x
def nE (x:pB×η×η×List uw):Option (Int×gP×θ×(List dF)×η×η×Ya29×η×List η):=
 (obind (iy x.1) λJ=>(bE (a8 (al ([]:η)+al x.2.1) 8) (bE (a8 (al ([]:η)+al x.p2) 8) (bA 0 (aZ x.q3) (bD fe x.q3 0 λZ=>(obind (cw Z) λM=>(bA 1 (aZ x.q3) (bD fe x.q3 1 λY=>(obind (cw Y) λI=>(bA 2 (aZ x.q3) (bD fe x.q3 2 λU=>(obind (cw U) λy7=>ah)) (af (J.1,J.2.1,J.p2,J.q3,(([]:η)++x.2.1),(([]:η)++x.p2),(M.1.1,M.1.2,I.1.1,I.2.1,I.2.2,I.1.2),M.2))))) ah))) ah))))
def gL (x:Az×xz×Int×Int):Option ED:=
 SG 0 nE (λz=>z.1) (λz=>z.2.1) (KG 0 (λz R T=>(z.1,R,T,z.2.1,z.2.2)) (λw=>((w.1,w.2.1,w.2.2.1,w.2.2.2.1),w.2.2.2.2)) (λv t=>[t,v.2])) x
def nD (x:pB×η×η×List uw):Option (Int×gP×θ×(List dF)×η×η×(uw×Int×Int)×η×List η):=
 (obind (iy x.1) λJ=>(bE (a8 (al ([]:η)+al x.2.1) 8) (bE (a8 (al ([]:η)+al x.p2) 8) (bA 0 (aZ x.q3) (bD fe x.q3 0 λZ=>(obind (cw Z) λI=>(bA 1 (aZ x.q3) (bD fe x.q3 1 λY=>(obind (cw Y) λM=>(bA 2 (aZ x.q3) (bD fe x.q3 2 λU=>(obind (cw U) λy7=>ah)) (af (J.1,J.2.1,J.p2,J.q3,(([]:η)++x.2.1),(([]:η)++x.p2),((I.1.1,I.2.1,I.2.2,I.1.2),M.1),M.2))))) ah))) ah))))
def gp (x:Az×xz×Int×Int):Option ED:=
 SG 1 nD (λz=>z.2.1) (λz=>z.2.2) (KG 1 (λz R T=>(z.1,z.2.1,R,T,z.2.2)) (λw=>(w.1,(w.2.1,w.2.2.1,w.2.2.2.1,w.2.2.2.2))) (λv t=>[v.1,t])) x
def nC (x:pB×η×η×List uw):Option (Int×gP×θ×(List dF)×η×η×Ya27×η×List η):=
 (obind (iy x.1) λM=>(bE (a8 (al ([]:η)+al x.2.1) 8) (bE (a8 (al ([]:η)+al x.p2) 8) (bA 0 (aZ x.q3) (bD fe x.q3 0 λz2=>(obind (cw z2) λU=>(bA 1 (aZ x.q3) (bD fe x.q3 1 λz4=>(obind (cw z4) λJ=>(bA 2 (aZ x.q3) (bD fe x.q3 2 λZ=>(obind (cw Z) λI=>(bA 3 (aZ x.q3) (bD fe x.q3 3 λY=>(obind (cw Y) λy9=>ah)) (af (M.1,M.2.1,M.p2,M.q3,(([]:η)++x.2.1),(([]:η)++x.p2),(U.1.1,U.1.2,(J.1.1,J.2.1,J.2.2,J.1.2),I.1.1,I.2.1,I.2.2,I.1.2),U.2))))) ah))) ah))) ah))))
def jA (x:Az×xz×Int×Int):Option ED:=
 SG 0 nC (λz=>z.1) (λz=>z.2.1) (KG 0 (λz R T=>(z.1,R,T,z.2.1,z.p2,z.q3)) (λw=>((w.1,w.2.1,w.2.2.1,w.2.2.2.1),w.2.2.2.2.1,w.2.2.2.2.2)) (λv t=>[t,v.2.1,v.2.2])) x
def nB (x:pB×η×η×List uw):Option (Int×gP×θ×(List dF)×η×η×Ya28×η×List η):=
 (obind (iy x.1) λM=>(bE (a8 (al ([]:η)+al x.2.1) 8) (bE (a8 (al ([]:η)+al x.p2) 8) (bA 0 (aZ x.q3) (bD fe x.q3 0 λz2=>(obind (cw z2) λJ=>(bA 1 (aZ x.q3) (bD fe x.q3 1 λz4=>(obind (cw z4) λU=>(bA 2 (aZ x.q3) (bD fe x.q3 2 λZ=>(obind (cw Z) λI=>(bA 3 (aZ x.q3) (bD fe x.q3 3 λY=>(obind (cw Y) λy9=>ah)) (af (M.1,M.2.1,M.p2,M.q3,(([]:η)++x.2.1),(([]:η)++x.p2),((J.1.1,J.2.1,J.2.2,J.1.2),U.1.1,U.1.2,I.1.1,I.2.1,I.2.2,I.1.2),U.2))))) ah))) ah))) ah))))
def iP (x:Az×xz×Int×Int):Option ED:=
 SG 1 nB (λz=>z.2.1) (λz=>z.p2) (KG 1 (λz R T=>(z.1,z.2.1,R,T,z.p2,z.q3)) (λw=>(w.1,(w.2.1,w.2.2.1,w.2.2.2.1,w.2.2.2.2.1),w.2.2.2.2.2)) (λv t=>[v.1,t,v.2.2])) x
def nA (x:pB×η×η×List uw):Option (Int×gP×θ×(List dF)×η×η×(uw×uw×Int×Int)×η×List η):=
 (obind (iy x.1) λM=>(bE (a8 (al ([]:η)+al x.2.1) 8) (bE (a8 (al ([]:η)+al x.p2) 8) (bA 0 (aZ x.q3) (bD fe x.q3 0 λz2=>(obind (cw z2) λJ=>(bA 1 (aZ x.q3) (bD fe x.q3 1 λz4=>(obind (cw z4) λI=>(bA 2 (aZ x.q3) (bD fe x.q3 2 λZ=>(obind (cw Z) λU=>(bA 3 (aZ x.q3) (bD fe x.q3 3 λY=>(obind (cw Y) λy9=>ah)) (af (M.1,M.2.1,M.p2,M.q3,(([]:η)++x.2.1),(([]:η)++x.p2),((J.1.1,J.2.1,J.2.2,J.1.2),(I.1.1,I.2.1,I.2.2,I.1.2),U.1),U.2))))) ah))) ah))) ah))))
def ig (x:Az×xz×Int×Int):Option ED:=
 SG 2 nA (λz=>z.p2) (λz=>z.q3) (KG 2 (λz R T=>(z.1,z.2.1,z.p2,R,T,z.q3)) (λw=>(w.1,w.2.1,(w.2.2.1,w.2.2.2.1,w.2.2.2.2.1,w.2.2.2.2.2))) (λv t=>[v.1,v.2.1,t])) x
def nz (x:pB×η×η×List uw):Option (Int×gP×θ×(List dF)×η×η×Ya23×η×List η):=
 (obind (iy x.1) λU=>(bE (a8 (al ([]:η)+al x.2.1) 8) (bE (a8 (al ([]:η)+al x.p2) 8) (bA 0 (aZ x.q3) (bD fe x.q3 0 λz2=>(obind (cw z2) λZ=>(bA 1 (aZ x.q3) (bD fe x.q3 1 λz4=>(obind (cw z4) λM=>(bA 2 (aZ x.q3) (bD fe x.q3 2 λz6=>(obind (cw z6) λJ=>(bA 3 (aZ x.q3) (bD fe x.q3 3 λz8=>(obind (cw z8) λI=>(bA 4 (aZ x.q3) (bD fe x.q3 4 λY=>(obind (cw Y) λy11=>ah)) (af (U.1,U.2.1,U.p2,U.q3,(([]:η)++x.2.1),(([]:η)++x.p2),(Z.1.1,Z.1.2,(M.1.1,M.2.1,M.2.2,M.1.2),(J.1.1,J.2.1,J.2.2,J.1.2),I.1.1,I.2.1,I.2.2,I.1.2),Z.2))))) ah))) ah))) ah))) ah))))
def nk (x:Az×xz×Int×Int):Option ED:=
 SG 0 nz (λz=>z.1) (λz=>z.2.1) (KG 0 (λz R T=>(z.1,R,T,z.2.1,z.p2,z.p3,z.q4)) (λw=>((w.1,w.2.1,w.2.2.1,w.2.2.2.1),w.2.2.2.2.1,w.2.2.2.2.2.1,w.2.2.2.2.2.2)) (λv t=>[t,v.2.1,v.2.2.1,v.2.2.2])) x
def ny (x:pB×η×η×List uw):Option (Int×gP×θ×(List dF)×η×η×Ya24×η×List η):=
 (obind (iy x.1) λU=>(bE (a8 (al ([]:η)+al x.2.1) 8) (bE (a8 (al ([]:η)+al x.p2) 8) (bA 0 (aZ x.q3) (bD fe x.q3 0 λz2=>(obind (cw z2) λM=>(bA 1 (aZ x.q3) (bD fe x.q3 1 λz4=>(obind (cw z4) λZ=>(bA 2 (aZ x.q3) (bD fe x.q3 2 λz6=>(obind (cw z6) λJ=>(bA 3 (aZ x.q3) (bD fe x.q3 3 λz8=>(obind (cw z8) λI=>(bA 4 (aZ x.q3) (bD fe x.q3 4 λY=>(obind (cw Y) λy11=>ah)) (af (U.1,U.2.1,U.p2,U.q3,(([]:η)++x.2.1),(([]:η)++x.p2),((M.1.1,M.2.1,M.2.2,M.1.2),Z.1.1,Z.1.2,(J.1.1,J.2.1,J.2.2,J.1.2),I.1.1,I.2.1,I.2.2,I.1.2),Z.2))))) ah))) ah))) ah))) ah))))
def nj (x:Az×xz×Int×Int):Option ED:=
 SG 1 ny (λz=>z.2.1) (λz=>z.p2) (KG 1 (λz R T=>(z.1,z.2.1,R,T,z.p2,z.p3,z.q4)) (λw=>(w.1,(w.2.1,w.2.2.1,w.2.2.2.1,w.2.2.2.2.1),w.2.2.2.2.2.1,w.2.2.2.2.2.2)) (λv t=>[v.1,t,v.2.2.1,v.2.2.2])) x
def nu (x:pB×η×η×List uw):Option (Int×gP×θ×(List dF)×η×η×Ya25×η×List η):=
 (obind (iy x.1) λU=>(bE (a8 (al ([]:η)+al x.2.1) 8) (bE (a8 (al ([]:η)+al x.p2) 8) (bA 0 (aZ x.q3) (bD fe x.q3 0 λz2=>(obind (cw z2) λM=>(bA 1 (aZ x.q3) (bD fe x.q3 1 λz4=>(obind (cw z4) λJ=>(bA 2 (aZ x.q3) (bD fe x.q3 2 λz6=>(obind (cw z6) λZ=>(bA 3 (aZ x.q3) (bD fe x.q3 3 λz8=>(obind (cw z8) λI=>(bA 4 (aZ x.q3) (bD fe x.q3 4 λY=>(obind (cw Y) λy11=>ah)) (af (U.1,U.2.1,U.p2,U.q3,(([]:η)++x.2.1),(([]:η)++x.p2),((M.1.1,M.2.1,M.2.2,M.1.2),(J.1.1,J.2.1,J.2.2,J.1.2),Z.1.1,Z.1.2,I.1.1,I.2.1,I.2.2,I.1.2),Z.2))))) ah))) ah))) ah))) ah))))
def lH (x:Az×xz×Int×Int):Option ED:=
 SG 2 nu (λz=>z.p2) (λz=>z.p3) (KG 2 (λz R T=>(z.1,z.2.1,z.p2,R,T,z.p3,z.q4)) (λw=>(w.1,w.2.1,(w.2.2.1,w.2.2.2.1,w.2.2.2.2.1,w.2.2.2.2.2.1),w.2.2.2.2.2.2)) (λv t=>[v.1,v.2.1,t,v.2.2.2])) x
def nl (x:pB×η×η×List uw):Option (Int×gP×θ×(List dF)×η×η×Ya42×η×List η):=
 (obind (iy x.1) λU=>(bE (a8 (al ([]:η)+al x.2.1) 8) (bE (a8 (al ([]:η)+al x.p2) 8) (bA 0 (aZ x.q3) (bD fe x.q3 0 λz2=>(obind (cw z2) λM=>(bA 1 (aZ x.q3) (bD fe x.q3 1 λz4=>(obind (cw z4) λJ=>(bA 2 (aZ x.q3) (bD fe x.q3 2 λz6=>(obind (cw z6) λI=>(bA 3 (aZ x.q3) (bD fe x.q3 3 λz8=>(obind (cw z8) λZ=>(bA 4 (aZ x.q3) (bD fe x.q3 4 λY=>(obind (cw Y) λy11=>ah)) (af (U.1,U.2.1,U.p2,U.q3,(([]:η)++x.2.1),(([]:η)++x.p2),((M.1.1,M.2.1,M.2.2,M.1.2),(J.1.1,J.2.1,J.2.2,J.1.2),(I.1.1,I.2.1,I.2.2,I.1.2),Z.1),Z.2))))) ah))) ah))) ah))) ah))))
def kr (x:Az×xz×Int×Int):Option ED:=
 SG 3 nl (λz=>z.p3) (λz=>z.q4) (KG 3 (λz R T=>(z.1,z.2.1,z.p2,z.p3,R,T,z.q4)) (λw=>(w.1,w.2.1,w.2.2.1,(w.2.2.2.1,w.2.2.2.2.1,w.2.2.2.2.2.1,w.2.2.2.2.2.2))) (λv t=>[v.1,v.2.1,v.2.2.1,t])) x
def AM (x:Az×xz×Int×Int):Option ED:=orE (nk x) (orE (nj x) (orE (lH x) (orE (kr x) (orE (jA x) (orE (iP x) (orE (ig x) (orE (gL x) (orE (gp x) (gq x)))))))))
def wT (x:Az×xz×List Γ):Option ((List gd)×pB×η×η×List uw):=
 (iter (σ:=Int×(List gd)×Az×xz×Int) (λJ=>(jn (α:=Bool×(List gd)×Az×xz×Int) (bA J.1 (aZ x.2.2) (aF ((gf (aZ J.2.1) 400),J.2)) (aF (aj,J.2))) λI=>(bcase I.1 (jn (α:=(List gd)×Az×xz×Int) (bD gQ x.2.2 J.1 λU=>(obind (AM (I.p2,I.p3,U)) λM=>(bcase M.2.2 (bE (a8 (al I.2.1+al ([M.2.1])) 88) (aF ((I.2.1++([M.2.1])),I.p2,M.1,I.q4))) (aF I.2)))) λY=>(cK ((cH J.1),Y))) (aF (I.2.1,I.p3))))) (0,([]:List gd),x.1,x.2.1,0))
def zN (x:Az×List Γ):Option ((dt×List gd)×pB×η×η×List uw):=
 (obind (jM x.1) λM=>(bcase (!M) (af (((([]:List Ur),([]:List (ζ×Bool)),([]:List fE),([]:List ζ),([]:List ζ),([]:List ν)),([]:List gd)),(([]:List (Int×η)),0,([]:θ),([]:List dF)),([]:η),([]:η),([]:List uw))) (obind (uI x.1) λJ=>(obind (wT (x.1,J,x.2)) λI=>(af ((x.1.1,I.1),I.2))))))
def bB (x:Int×η×Int):Option (Int×η×Int):=
 (jn (α:=Bool×η×Int) (iY (aZ x.2.1) x.2.2 (aF (ai,x.2)) (aF ((gf x.1 1),x.2))) λI=>(bcase I.1 (af (0,I.2)) (lt (cH I.2.2) λM=>(bD (.int .u8) I.2.1 (bk .i64 (M-1)) λJ=>(bE (!decide ((x.1:Int)=0)) (af ((AG (bk .i64 J) x.1),I.2.1,(cH I.2.2))))))))
def rY (x:Int):Option (Xp):=
 (af (em (1,x,[],([]:List Xp))))
def pR (x:ζ):Option (Xp):=
 (af (em (2,0,x,([]:List Xp))))
def oo (x:Int×Xp×Xp):Option (Xp):=
 (af (em (x.1,0,[],[em ((Xp.op x.2.1),(Xp.n x.2.1),(Xp.name x.2.1),(Xp.l x.2.1)),em ((Xp.op x.2.2),(Xp.n x.2.2),(Xp.name x.2.2),(Xp.l x.2.2))])))
def jy (x:ζ×Xp):Option (Sx):=
 (af (oq (1,0,x.1,[],([]:List Xp),em ((Xp.op x.2),(Xp.n x.2),(Xp.name x.2),(Xp.l x.2)),([]:List Sx),([]:List Sx))))
def sW (x:Unit):Option sQ:=
 (af ([(1,0,[120],0,0,[]),(1,0,[121],0,1,[]),(2,0,[118],0,0,[]),(1,0,[113],2,0,[]),(3,0,[109],0,0,[]),(3,0,[110],0,0,[]),(4,0,[114],0,0,[]),(5,0,[99],0,0,[109]),(6,0,[102],0,0,[])]))
def pg (x:η):Option (List Γ):=
 (iter (σ:=Int×List Γ) (λI=>(bA I.1 (aZ x) (bD (.int .u8) x I.1 λM=>(bD (.int .u8) x I.1 λJ=>(bE (a8 (al I.2+al ([((AG (bk .i64 M) 4),(bk .i64 ((AG (bk .i64 (Int.tdiv (bk .i64 J) 4)) 5)-1)))])) 16) (cK ((cH I.1),(I.2++([((AG (bk .i64 M) 4),(bk .i64 ((AG (bk .i64 (Int.tdiv (bk .i64 J) 4)) 5)-1)))]))))))) (aF I.2))) (0,([]:List Γ)))
def oC (rmade_maker_expr:aa8->Option ahz) (x:Int×zB×fH×Bool×List ζ):Option ahz:=
 (obind (bB (10,x.p2)) λZ=>(jn (α:=Bool×zB×fH×Us×(Int×Int×ζ)×List ζ) (bA Z.1 2 (aF (ai,x.2.1,Z.2,x.q3,(0,0,[]),[[97],[98],[120],[121],[118],[120],[121]])) (bd x.1 0 (aF ((c_ 7 Z.1),x.2.1,Z.2,x.q3,(0,0,[]),[[97],[98],[120],[121],[118],[120],[121]])) (aF (aj,x.2.1,Z.2,x.q3,(0,0,[]),[[97],[98],[120],[121],[118],[120],[121]])))) λI=>(bcase I.1 (obind (bB (4,I.p2)) λy3=>(obind (rY y3.1) λy4=>(af (em ((Xp.op y4),(Xp.n y4),(Xp.name y4),(Xp.l y4)),I.2.1,y3.2,I.p3)))) (bA Z.1 7 (obind (bB ((aZ I.q5),I.p2)) λy5=>(kl (.str) I.q5 y5.1 λz6=>(obind (pR z6) λy7=>(af (em ((Xp.op y7),(Xp.n y7),(Xp.name y7),(Xp.l y7)),I.2.1,y5.2,I.p3))))) (bd Z.1 7 (obind (rmade_maker_expr (0,I.2.1,I.p2,I.p3)) λY=>(bE (((I.p3.1==Y.p3)&&ai)&&aC (al I.p3.2) (al Y.q4)&&ai) (af (em (3,0,[113],[em ((Xp.op Y.1),(Xp.n Y.1),(Xp.name Y.1),(Xp.l Y.1))]),Y.2)))) (obind (bB ((aP (al ([6,7,8,11,13,17]))),I.p2)) λy9=>(kl aM ([6,7,8,11,13,17]) y9.1 λz10=>(obind (rmade_maker_expr ((bk .i64 (x.1-1)),I.2.1,y9.2,I.p3)) λJ=>(bE (((I.p3.1==J.p3)&&ai)&&aC (al I.p3.2) (al J.q4)&&ai) (obind (rmade_maker_expr ((bk .i64 (x.1-1)),J.2)) λU=>(bE (((J.p3==U.p3)&&ai)&&aC (al J.q4) (al U.q4)&&ai) (obind (oo (z10,J.1,U.1)) λM=>(af (em ((Xp.op M),(Xp.n M),(Xp.name M),(Xp.l M)),U.2))))))))))))))
def iC:Nat->aa8->Option ahz
 |0,_=>ah
 |n+1,x=>oC (iC n) x
theorem zu (n:Nat) (x:Int×zB×fH×Bool×List ζ):iC (n+1) x=oC (iC n) x:=rfl
def fy (x:Int×zB×fH×Bool×List ζ):Option ahz:=iC fuel x
def eX (x:ζ×zB×fH×Bool×List ζ):Option (Bool×zB×fH×Bool×List ζ):=
 (obind (ji (x.q4,x.1)) λI=>(af ((c_ 0 I),x.2)))
def mP (rmade_maker_stmts:ai1->Option aa7) (rmade_maker_stmt:aa8->Option aeo) (rmade_maker_block:ai0->Option aep) (x:Γ×zB×fH×Bool×List ζ):Option aa7:=
 (iter (σ:=Int×zB×fH×(List Sx)×Bool×List ζ) (λJ=>(jn (α:=Bool×zB×fH×(List Sx)×Bool×List ζ) (bA J.1 x.1.2 (bd J.1 0 (aF (ai,J.2)) (aF ((gf 0 J.2.1.2.1),J.2))) (aF (aj,J.2))) λI=>(bcase I.1 (obind (rmade_maker_stmt (x.1.1,I.2.1,I.p2,I.q4)) λM=>(bE (((I.p4==I.p4)&&ai)&&aC (al I.q5) (al I.q5)&&ai) (bE (a8 (al I.p3+al ([eA M.1])) 176) (cK ((cH J.1),M.2.1,M.p2,(I.p3++([eA M.1])),M.q3))))) (aF (I.2.1,I.p2,I.q4,I.p3))))) (0,x.2.1,x.p2,([]:List Sx),x.q3))
def oB (rmade_maker_stmts:ai1->Option aa7) (rmade_maker_stmt:aa8->Option aeo) (rmade_maker_block:ai0->Option aep) (x:Int×zB×fH×Bool×List ζ):Option aeo:=
 (obind (bB (18,x.p2)) λy1=>(jn (α:=Bool×zB×fH×If×Bool×List ζ) (bA 0 x.1 (lt (bk .i64 (x.2.1.2.1-1)) λz3=>(bA 0 z3 (aF ((!x.2.1.p3),(x.2.1.1,(bk .i64 (x.2.1.2.1-1)),x.2.1.2.2),y1.2,(0,0,[],[],0,0,[]),x.q3)) (aF (aj,(x.2.1.1,(bk .i64 (x.2.1.2.1-1)),x.2.1.2.2),y1.2,(0,0,[],[],0,0,[]),x.q3)))) (aF (aj,(x.2.1.1,(bk .i64 (x.2.1.2.1-1)),x.2.1.2.2),y1.2,(0,0,[],[],0,0,[]),x.q3))) λx2=>(bA y1.1 4 (kl (.str) ([[120],[121],[120],[118]]) y1.1 λz4=>(obind (fy (1,x2.2.1,x2.p2,x2.q4)) λy5=>(bE (((x2.p4==y5.p3)&&ai)&&aC (al x2.q5) (al y5.q4)&&ai) (obind (jy (z4,y5.1)) λy6=>(af (eA y6,y5.2)))))) (bd y1.1 4 (obind (bB (2,x2.p2)) λy7=>(kl (.str) ([[97],[98]]) y7.1 λz8=>(obind (fy (1,x2.2.1,y7.2,x2.q4)) λy9=>(bE (((x2.p4==y9.p3)&&ai)&&aC (al x2.q5) (al y9.q4)&&ai) (obind (jy (z8,y9.1)) λy10=>(af (eA y10,y9.2))))))) (bd y1.1 5 (obind (fy (0,x2.2.1,x2.p2,x2.q4)) λy11=>(bE (((x2.p4==y11.p3)&&ai)&&aC (al x2.q5) (al y11.q4)&&ai) (obind (fy (1,y11.2)) λy12=>(bE (((y11.p3==y12.p3)&&ai)&&aC (al y11.q4) (al y12.q4)&&ai) (af (oq (1,0,[113],[],[em ((Xp.op y11.1),(Xp.n y11.1),(Xp.name y11.1),(Xp.l y11.1))],em ((Xp.op y12.1),(Xp.n y12.1),(Xp.name y12.1),(Xp.l y12.1)),([]:List Sx),([]:List Sx)),y12.2)))))) (jn (α:=Bool×zB×fH×If×Bool×List ζ) (bd y1.1 6 (aF ((gf 0 x.1),x2.2)) (aF (aj,x2.2))) λx13=>(bcase x13.1 (obind (fy (1,x13.2.1,x13.p2,x13.q4)) λU=>(bE (((x13.p4==U.p3)&&ai)&&aC (al x13.q5) (al U.q4)&&ai) (obind (rmade_maker_stmts (((bk .i64 (x.1-1)),1),U.2)) λy15=>(bE (((U.p3==U.p3)&&ai)&&aC (al U.q4) (al U.q4)&&ai) (jn (α:=zB×fH×If×(Int×Int×ζ×ζ×Int×Int×ζ×List Xp)×Us×(List Sx)×List Sx) (obind (bB (2,y15.2.1)) λy17=>(bd y17.1 1 (obind (rmade_maker_stmts (((bk .i64 (x.1-1)),1),y15.1,y17.2,y15.p2)) λy18=>(bE (((y15.p2.1==y15.p2.1)&&ai)&&aC (al y15.p2.2) (al y15.p2.2)&&ai) (aF (y18.1,y18.2.1,x13.p3,(2,0,[],[],(Xp.op U.1),(Xp.n U.1),(Xp.name U.1),(Xp.l U.1)),y18.p2,y15.q3,y18.q3)))) (aF (y15.1,y17.2,x13.p3,(2,0,[],[],(Xp.op U.1),(Xp.n U.1),(Xp.name U.1),(Xp.l U.1)),y15.p2,y15.q3,([]:List Sx))))) λx16=>(af (oq (x16.p3.1,x16.p3.2.1,x16.p3.p2,x16.p3.p3,([]:List Xp),em x16.p3.q4,x16.q5),x16.1,x16.2.1,x16.p4))))))) (jn (α:=Bool×zB×fH×If×Bool×List ζ) (bd y1.1 7 (aF ((gf 0 x.1),x13.2)) (aF (aj,x13.2))) λI=>(bcase I.1 (obind (pR ([98])) λy20=>(obind (rY 2) λy21=>(obind (oo (13,y20,y21)) λy22=>(obind (rmade_maker_stmts (((bk .i64 (x.1-1)),1),(I.2.1.1,I.2.1.2.1,I.2.1.p2,I.2.1.p3,I.2.1.p4,ai),I.p2,I.q4)) λy23=>(bE (((I.p4==I.p4)&&ai)&&aC (al I.q5) (al I.q5)&&ai) (obind (pR ([98])) λy24=>(obind (rY 1) λy25=>(obind (oo (6,y24,y25)) λy26=>(obind (jy ([98],y26)) λy27=>(bE (a8 (al y23.q3+al ([eA y27])) 176) (af (oq (3,0,[],[],([]:List Xp),em ((Xp.op y22),(Xp.n y22),(Xp.name y22),(Xp.l y22)),(y23.q3++([eA y27])),([]:List Sx)),(y23.1.1,y23.1.2.1,y23.1.p2,y23.1.p3,y23.1.p4,I.2.1.q5),y23.2.1,y23.p2)))))))))))) (jn (α:=Bool×zB×fH×If×Bool×List ζ) (bd y1.1 8 (bcase x2.1 (kl (.str) ([[109],[110]]) (bk .i64 (y1.1-8)) λz29=>(obind (eX (z29,I.2.1,I.p2,I.q4)) λy30=>(bE (((I.p4==y30.p3)&&ai)&&aC (al I.q5) (al y30.q4)&&ai) (aF ((!y30.1),y30.2.1,y30.p2,I.p3,y30.q3))))) (aF (aj,I.2))) (bd y1.1 9 (bcase x2.1 (kl (.str) ([[109],[110]]) (bk .i64 (y1.1-8)) λz31=>(obind (eX (z31,I.2.1,I.p2,I.q4)) λy32=>(bE (((I.p4==y32.p3)&&ai)&&aC (al I.q5) (al y32.q4)&&ai) (aF ((!y32.1),y32.2.1,y32.p2,I.p3,y32.q3))))) (aF (aj,I.2))) (aF (aj,I.2)))) λJ=>(bcase J.1 (kl (.str) ([[109],[110]]) (bk .i64 (y1.1-8)) λz33=>(obind (rmade_maker_block ((z33,(bk .i64 (x.1-1))),J.2.1,J.p2,J.q4)) λy34=>(bE (((J.p4==J.p4)&&ai)&&aC (al J.q5) (al J.q5)&&ai) (af (oq (4,0,z33,[],([]:List Xp),em (0,0,[],([]:List Xp)),y34.1,([]:List Sx)),y34.2))))) (jn (α:=Bool×zB×fH×If×Bool×List ζ) (bd y1.1 10 (bcase x2.1 (obind (eX ([114],J.2.1,J.p2,J.q4)) λy36=>(bE (((J.p4==y36.p3)&&ai)&&aC (al J.q5) (al y36.q4)&&ai) (aF ((!y36.1),y36.2.1,y36.p2,J.p3,y36.q3)))) (aF (aj,J.2))) (bd y1.1 11 (bcase x2.1 (obind (eX ([114],J.2.1,J.p2,J.q4)) λy37=>(bE (((J.p4==y37.p3)&&ai)&&aC (al J.q5) (al y37.q4)&&ai) (aF ((!y37.1),y37.2.1,y37.p2,J.p3,y37.q3)))) (aF (aj,J.2))) (aF (aj,J.2)))) λx35=>(bcase x35.1 (obind (rmade_maker_block (([114],(bk .i64 (x.1-1))),x35.2.1,x35.p2,x35.q4)) λy38=>(bE (((x35.p4==x35.p4)&&ai)&&aC (al x35.q5) (al x35.q5)&&ai) (af (oq ((bk .i64 ((bk .i64 (y1.1-10))+5)),0,[114],[],([]:List Xp),em (0,0,[],([]:List Xp)),y38.1,([]:List Sx)),y38.2)))) (jn (α:=Bool×zB×fH×If×Bool×List ζ) (bd y1.1 12 (aF (x2.1,x35.2)) (aF (aj,x35.2))) λY=>(bcase Y.1 (obind (bB (2,Y.p2)) λy40=>(obind (rmade_maker_stmts ((0,(bk .i64 (1+y40.1))),(Y.2.1.1,Y.2.1.2.1,Y.2.1.p2,ai,Y.2.1.q4),y40.2,Y.q4)) λy41=>(bE (((Y.p4==Y.p4)&&ai)&&aC (al Y.q5) (al Y.q5)&&ai) (af (oq (7,0,[],[],([]:List Xp),em (0,0,[],([]:List Xp)),y41.q3,([]:List Sx)),(y41.1.1,y41.1.2.1,y41.1.p2,aj,y41.1.q4),y41.2.1,y41.p2))))) (jn (α:=Bool×zB×fH×If×Bool×List ζ) (bd y1.1 13 (bcase x2.1 (aF ((!Y.2.1.p4),Y.2)) (aF (aj,Y.2))) (aF (aj,Y.2))) λM=>(bcase M.1 (obind (rmade_maker_stmts (((bk .i64 (x.1-1)),2),(M.2.1.1,M.2.1.2.1,M.2.1.p2,M.2.1.p3,ai,M.2.1.q5),M.p2,M.q4)) λy43=>(bE (((M.p4==M.p4)&&ai)&&aC (al M.q5) (al M.q5)&&ai) (af (oq (8,0,[],[],([]:List Xp),em (0,0,[],([]:List Xp)),y43.q3,([]:List Sx)),(y43.1.1,y43.1.2.1,y43.1.p2,y43.1.p3,aj,y43.1.q5),y43.2.1,y43.p2)))) (jn (α:=Bool×zB×fH×If×Bool×List ζ) (bd y1.1 14 (bcase x2.1 (bcase (!M.2.1.p4) (obind (eX ([109],M.2.1,M.p2,M.q4)) λy45=>(bE (((M.p4==y45.p3)&&ai)&&aC (al M.q5) (al y45.q4)&&ai) (aF ((!y45.1),y45.2.1,y45.p2,M.p3,y45.q3)))) (aF (aj,M.2))) (aF (aj,M.2))) (aF (aj,M.2))) λx44=>(bcase x44.1 (obind (pR ([120])) λy46=>(obind (jy ([97],y46)) λy47=>(af (oq (4,0,[109],[],([]:List Xp),em (0,0,[],([]:List Xp)),[oq (9,0,[99],[],([]:List Xp),em (0,0,[],([]:List Xp)),([]:List Sx),([]:List Sx)),eA y47],([]:List Sx)),x44.2.1,x44.p2,x44.q4)))) (jn (α:=Bool×zB×fH×If×Bool×List ζ) (bd y1.1 15 (bcase x2.1 (obind (eX ([109],x44.2.1,x44.p2,x44.q4)) λy49=>(bE (((x44.p4==y49.p3)&&ai)&&aC (al x44.q5) (al y49.q4)&&ai) (aF ((!y49.1),y49.2.1,y49.p2,x44.p3,y49.q3)))) (aF (aj,x44.2))) (aF (aj,x44.2))) λx48=>(bcase x48.1 (obind (bB (2,x48.p2)) λy50=>(af (oq (4,0,[109],[],([]:List Xp),em (0,0,[],([]:List Xp)),[oq ((bk .i64 (10+y50.1)),0,[99],[],([]:List Xp),em (0,0,[],([]:List Xp)),([]:List Sx),([]:List Sx))],([]:List Sx)),x48.2.1,y50.2,x48.q4))) (jn (α:=Bool×zB×fH×If×Bool×List ζ) (bd y1.1 16 (bcase (!x48.2.1.p3) (bcase (!x48.2.1.q5) (aF ((!x48.2.1.p2),x48.2)) (aF (aj,x48.2))) (aF (aj,x48.2))) (aF (aj,x48.2))) λZ=>(bcase Z.1 (obind (fy (1,(Z.2.1.1,Z.2.1.2.1,ai,Z.2.1.q3),Z.p2,Z.q4)) λy52=>(bE (((Z.p4==y52.p3)&&ai)&&aC (al Z.q5) (al y52.q4)&&ai) (af (oq (14,0,[102],[],([]:List Xp),em ((Xp.op y52.1),(Xp.n y52.1),(Xp.name y52.1),(Xp.l y52.1)),([]:List Sx),([]:List Sx)),y52.2)))) (jn (α:=Bool×zB×fH×If×Bool×List ζ) (bd y1.1 17 (bcase (!Z.2.1.p3) (obind (bB (2,Z.p2)) λy54=>(aF ((decide ((y54.1:Int)=1)),Z.2.1,y54.2,Z.q3))) (aF (aj,Z.2))) (aF (aj,Z.2))) λx53=>(bcase x53.1 (af (oq (15,0,[97],[102],([]:List Xp),em (0,0,[],([]:List Xp)),([]:List Sx),([]:List Sx)),x53.2.1,x53.p2,x53.q4)) (obind (fy (1,x53.2.1,x53.p2,x53.q4)) λy55=>(bE (((x53.p4==y55.p3)&&ai)&&aC (al x53.q5) (al y55.q4)&&ai) (obind (jy ([120],y55.1)) λy56=>(af (eA y56,y55.2))))))))))))))))))))))))))))))
def mQ (rmade_maker_stmts:ai1->Option aa7) (rmade_maker_stmt:aa8->Option aeo) (rmade_maker_block:ai0->Option aep) (x:fE×zB×fH×Bool×List ζ):Option aep:=
 (bE (a8 (al x.q4+al ([x.1.1])) 16) (obind (bB (2,x.p2)) λJ=>(obind (rmade_maker_stmts ((x.1.2,(bk .i64 (1+J.1))),x.2.1,J.2,x.p3,(x.q4++([x.1.1])))) λI=>(bE (((x.p3==x.p3)&&ai)&&aC (al (x.q4++([x.1.1]))) (al (x.q4++([x.1.1])))&&ai) (bE (c_ 0 (bk .i64 ((aZ I.p2.2)-1))&&gf (bk .i64 ((aZ I.p2.2)-1)) (al I.p2.2)) (af (I.q3,I.1,I.2.1,aj,(dI (aT (bk .i64 ((aZ I.p2.2)-1))) I.p2.2))))))))
mutual
def dP:Nat->ai1->Option aa7
 |0,_=>ah
 |n+1,x=>mP (dP n) (eO n) (ec n) x
def eO:Nat->aa8->Option aeo
 |0,_=>ah
 |n+1,x=>oB (dP n) (eO n) (ec n) x
def ec:Nat->ai0->Option aep
 |0,_=>ah
 |n+1,x=>mQ (dP n) (eO n) (ec n) x
end
def qS (x:Γ×zB×fH×Bool×List ζ):Option aa7:=dP fuel x
def pf (x:η):Option (sQ×List sP):=
 (obind (sW ()) λy1=>(obind (bB (3,x,0)) λy2=>(iter (σ:=Int×zB×sQ×cj×fH×Us×List sP) (λM=>(bA M.1 (bk .i64 (2+y2.1)) (kl (.str) M.p3 M.1 λz4=>(jn (α:=zB×sQ×cj×fE×fH×Us×(List sP)×cj×List Sx) (bd M.1 0 (iter (σ:=Int×zB×sQ×cj×fE×fH×Us×(List sP)×cj×List Sx) (λY=>(bA Y.1 (bk .i64 (2+y2.1)) (kl (.str) Y.p3 Y.1 λz7=>(bE (a8 (al Y.q9+al ([oq (12,0,z7,[],([]:List Xp),em (0,0,[],([]:List Xp)),([]:List Sx),([]:List Sx))])) 176) (cK ((cH Y.1),Y.2.1,Y.p2,Y.p3,Y.p4,Y.p5,Y.p6,Y.p7,Y.p8,(Y.q9++([oq (12,0,z7,[],([]:List Xp),em (0,0,[],([]:List Xp)),([]:List Sx),([]:List Sx))])))))) (aF (bO Y.2)))) (1,(M.1,M.2.1.2),M.p2,M.p3,(z4,0),M.p4,M.p5,M.q6,[[97],[98]],([]:List Sx))) (aF ((M.1,M.2.1.2),M.p2,M.p3,(z4,0),M.p4,M.p5,M.q6,[[97],[98]],([]:List Sx)))) λU=>(obind (bB (3,U.p4)) λy8=>(obind (qS ((2,(bk .i64 (1+y8.1))),U.1,y8.2,U.p5)) λZ=>(bE (((U.p5.1==U.p5.1)&&ai)&&aC (al U.p5.2) (al U.p5.2)&&ai) (bE (a8 (al U.q8+al Z.q3) 176) (jn (α:=zB×sQ×cj×fE×fH×Us×(List sP)×cj×List Sx) (jn (α:=Bool×zB×sQ×cj×fE×fH×Us×(List sP)×cj×List Sx) (bd M.1 0 (obind (bB (3,Z.2.1)) λy12=>(aF ((decide ((y12.1:Int)=2)),Z.1,U.2.1,U.p2,U.p3,y12.2,Z.p2,U.p6,U.p7,(U.q8++Z.q3)))) (aF (aj,Z.1,U.2.1,U.p2,U.p3,Z.2.1,Z.p2,U.p6,U.p7,(U.q8++Z.q3)))) λI=>(bcase I.1 (kl (.str) I.p3 1 λz13=>(bE (a8 (al I.q9+al ([oq (13,0,z13,[],([]:List Xp),em (0,0,[],([]:List Xp)),([]:List Sx),([]:List Sx))])) 176) (aF (I.2.1,I.p2,I.p3,I.p4,I.p5,I.p6,I.p7,I.p8,(I.q9++([oq (13,0,z13,[],([]:List Xp),em (0,0,[],([]:List Xp)),([]:List Sx),([]:List Sx))])))))) (aF I.2))) λJ=>(bE (a8 (al J.p6+al ([(J.p3.1,J.p3.2,J.q7)])) 72) (cK ((cH M.1),J.1,J.2.1,J.p2,J.p4,J.p5,(J.p6++([(J.p3.1,J.p3.2,J.q7)])))))))))))) (obind (obind (fD (M.p2,M.q6)) λy14=>(iO y14.1 0 (obind (sW ()) λy15=>(obind (rY 1) λy16=>(obind (jy ([120],y16)) λy17=>(af (y15,[([109,97,105,110],0,[[97],[98]],[eA y17])]))))) (af (M.p2,M.q6)))) λr=>af (bO r)))) (0,(0,20,aj,aj,aj,aj),y1,[[109,97,105,110],[116,49],[116,50],[116,51]],y2.2,(ai,([]:List ζ)),([]:List sP)))))
def xV (x:η):Option Az:=
 (obind (pf x) λJ=>(obind (qR J) λI=>(af I.1)))
def sX (x:η×η):Option (dt×List gd):=
 (obind (xV x.1) λM=>(obind (pg x.2) λJ=>(obind (zN (M,J)) λI=>(af I.1))))
def oc (x:Unit):Option dt:=
 (iter (σ:=Int×gY×gI×(List fE)×cj×cj×List ν) (λJ=>(bA J.1 (aP (al ([[109,97,105,110],[116,49],[116,50],[116,51]]))) (iter (σ:=Int×gY×gI×(List fE)×cj×cj×List ν) (λI=>(bA I.1 6 (bE (a8 (al I.q6+al ([(J.1,I.1,(bk .i64 ((bk .i64 ((bk .i64 (10*J.1))+I.1))+1)))])) 24) (cK ((cH I.1),I.2.1,I.p2,I.p3,I.p4,I.p5,(I.q6++([(J.1,I.1,(bk .i64 ((bk .i64 ((bk .i64 (10*J.1))+I.1))+1)))]))))) (aF (kO ((cH J.1),I.2))))) (0,J.2)) (aF J.2))) (0,[([120],0,0,aj,0),([121],0,0,aj,1),([118],0,0,ai,0),([113],0,2,aj,0),([113],1,2,aj,0)],[([109],aj),([110],aj),([114],ai)],[([99],0)],[[102]],[[109,97,105,110],[116,49],[116,50],[116,51]],([]:List ν)))
def lm (x:pB×η×η×η):Option η:=
 (iter (σ:=Int×η) (λI=>(bA I.1 (aZ x.1.q3) (jn (α:=η) (bD im x.1.q3 I.1 λJ=>(bd J.1 3 (bE (a8 (al I.2+al ([I.1])) 8) (aF (I.2++([I.1])))) (aF I.2))) λM=>(cK ((cH I.1),M))) (aF I.2))) (0,([]:η)))
def t8 (x:Unit):Option η:=
 (af ([3,3,3,3,3,4,4,4,4,4,5,5,5,6,6,6,7,7,7,8,9,10,11,12,13,14,14,15,16,16,17,17,18,18,19,20,1,1,2,21,22,23,23]))
def o8 (x:Γ×η×Int):Option (Int×η×Int):=
 (jn (α:=Bool×η×Int) (bd x.1.1 3 (aF ((decide ((x.1.1:Int)=3)),x.2)) (aF ((decide ((x.1.1:Int)=4)),x.2))) λU=>(bcase U.1 (obind (bB (8,U.2)) λy2=>(kl aM ([0,0,0,1,1,2,3,4]) y2.1 λz3=>(af (z3,y2.2)))) (jn (α:=Bool×η×Int) (bd x.1.1 6 (aF ((decide ((x.1.1:Int)=6)),U.2)) (aF ((decide ((x.1.1:Int)=7)),U.2))) λJ=>(bcase J.1 (obind (bB (2,J.2)) λy5=>(af y5)) (jn (α:=Bool×η×Int) (bd x.1.1 8 (aF ((decide ((x.1.1:Int)=8)),J.2)) (bd x.1.1 9 (aF ((decide ((x.1.1:Int)=9)),J.2)) (bd x.1.1 10 (aF ((decide ((x.1.1:Int)=10)),J.2)) (aF ((decide ((x.1.1:Int)=11)),J.2))))) λI=>(bcase I.1 (af (2,I.2)) (jn (α:=Bool×η×Int) (bd x.1.1 16 (aF ((decide ((x.1.1:Int)=16)),I.2)) (bd x.1.1 17 (aF ((decide ((x.1.1:Int)=17)),I.2)) (bd x.1.1 18 (aF ((decide ((x.1.1:Int)=18)),I.2)) (bd x.1.1 19 (aF ((decide ((x.1.1:Int)=19)),I.2)) (bd x.1.1 22 (aF ((decide ((x.1.1:Int)=22)),I.2)) (aF ((decide ((x.1.1:Int)=23)),I.2))))))) λM=>(bcase M.1 (af (0,M.2)) (jn (α:=Bool×η×Int) (bd x.1.1 20 (aF ((decide ((x.1.1:Int)=20)),M.2)) (aF ((decide ((x.1.1:Int)=21)),M.2))) λY=>(bcase Y.1 (obind (bB (3,Y.2)) λZ=>(af ((AG (bk .i64 ((cH x.1.2)+Z.1)) 4),Z.2))) (af ((-1),Y.2))))))))))))
def qK (x:(eQ×Int×Int)×η×Int):Option (Int×η×Int):=
 (bd x.1.2.1 3 (bD aM x.1.1.2.1 x.1.2.2 λZ=>(af (Z,x.2))) (bd x.1.2.1 23 (bD aM x.1.1.p2 0 λY=>(af (Y,x.2))) (jn (α:=Bool×fH×pB×η×η×η) (bd x.1.2.1 4 (aF ((decide ((x.1.2.1:Int)=4)),x.2,x.1.1)) (aF ((decide ((x.1.2.1:Int)=22)),x.2,x.1.1))) λI=>(bcase I.1 (obind (bB (3,I.2.1)) λy4=>(af y4)) (bd x.1.2.1 5 (obind (bB (2,I.2.1)) λy5=>(af y5)) (bd x.1.2.1 18 (obind (lm I.2.2) λJ=>(bA 0 (aZ J) (obind (bB ((aZ J),I.2.1)) λM=>(bD aM J M.1 λU=>(af (U,M.2)))) (af ((-1),I.2.1)))) (bd x.1.2.1 19 (obind (lm I.2.2) λy9=>(af ((aZ y9),I.2.1))) (af (0,I.2.1)))))))))
def gK (x:fH×η):Option (η×fH×η):=
 (iter (σ:=Int×fH×η×η) (λI=>(bA I.1 (aZ x.2) (jn (α:=fH×η×η) (kl aM I.p2 I.1 λM=>(jn (α:=Bool×fH×η×η) (iY (aZ I.p2) (bk .i64 (I.1+3)) (obind (bB (2,I.2.1)) λU=>(aF ((decide ((U.1:Int)=1)),U.2,I.2.2))) (aF (aj,I.2))) λJ=>(bcase J.1 (bE (a8 (al J.q3+al ([M])) 8) (aF (J.2.1,J.p2,(J.q3++([M]))))) (aF J.2)))) λY=>(cK ((cH I.1),Y))) (aF (I.q3,I.2.1,I.p2)))) (0,x.1,x.2,([]:η)))
def qL (x:(eQ×gY×gI×(List fE)×cj×cj×List ν)×fH×η×η×η×η):Option (gd×fH×η×η×η×η):=
 (obind (bB (4,x.2.1)) λU=>(obind (t8 ()) λy2=>(obind (bB ((aZ y2),U.2)) λy3=>(bD aM y2 y3.1 λz4=>(obind (bB (6,y3.2)) λy5=>(jn (α:=fH×η×η×η×η×eQ×dt×wC×Int×Int×Int×Int×Int) (jn (α:=Bool×fH×η×η×η×η×eQ×dt×wC×Int×Int×Int×Int×Int) (bd z4 1 (aF (ai,y5.2,x.p2,x.p3,x.p4,x.q5,x.1.1,x.1.2,(0,0,0,0,0),U.1,z4,0,0,(bk .i64 ((bk .i64 (U.1*6))+y5.1)))) (aF ((decide ((z4:Int)=2)),y5.2,x.p2,x.p3,x.p4,x.q5,x.1.1,x.1.2,(0,0,0,0,0),U.1,z4,0,0,(bk .i64 ((bk .i64 (U.1*6))+y5.1))))) λY=>(bcase Y.1 (aF (Y.2.1,Y.p2,Y.p3,Y.p4,Y.p5,Y.p6,Y.p7,Y.p8,Y.p9,Y.p10,Y.p11,Y.p12,(-1))) (aF Y.2))) λM=>(obind (o8 ((M.p9,U.1),M.1)) λy8=>(obind (qK ((M.p5,M.p9,y8.1),y8.2)) λy9=>(jn (α:=fH×η×η×η×η×wC×Int×Int×Int×Int×Int×η) (jn (α:=Bool×fH×η×η×η×η×wC×Int×Int×Int×Int×Int) (bd M.p9 5 (aF (ai,y9.2,M.2.1,M.p2,M.p3,M.p4,M.p7,M.p8,M.p9,y8.1,y9.1,M.q12)) (bd M.p9 3 (bD kK M.p6.1 y8.1 λz12=>(aF ((gf 0 z12.2.2.1),y9.2,M.2.1,M.p2,M.p3,M.p4,M.p7,M.p8,M.p9,y8.1,y9.1,M.q12))) (bd M.p9 4 (bD kK M.p6.1 y8.1 λz13=>(aF ((gf 0 z13.2.2.1),y9.2,M.2.1,M.p2,M.p3,M.p4,M.p7,M.p8,M.p9,y8.1,y9.1,M.q12))) (aF (aj,y9.2,M.2.1,M.p2,M.p3,M.p4,M.p7,M.p8,M.p9,y8.1,y9.1,M.q12))))) λJ=>(bcase J.1 (bd U.1 0 (obind (gK (J.2.1,J.p2)) λy14=>(bE (aC (al J.p2) (al y14.2.2)&&ai) (aF (y14.2.1,y14.2.2,J.p3,J.p4,J.p5,J.p6,J.p7,J.p8,J.p9,J.p10,J.q11,y14.1)))) (bd U.1 1 (obind (gK (J.2.1,J.p3)) λy15=>(bE (aC (al J.p3) (al y15.2.2)&&ai) (aF (y15.2.1,J.p2,y15.2.2,J.p4,J.p5,J.p6,J.p7,J.p8,J.p9,J.p10,J.q11,y15.1)))) (bd U.1 2 (obind (gK (J.2.1,J.p4)) λy16=>(bE (aC (al J.p4) (al y16.2.2)&&ai) (aF (y16.2.1,J.p2,J.p3,y16.2.2,J.p5,J.p6,J.p7,J.p8,J.p9,J.p10,J.q11,y16.1)))) (bd U.1 3 (obind (gK (J.2.1,J.p5)) λy17=>(bE (aC (al J.p5) (al y17.2.2)&&ai) (aF (y17.2.1,J.p2,J.p3,J.p4,y17.2.2,J.p6,J.p7,J.p8,J.p9,J.p10,J.q11,y17.1)))) ah)))) (aF (J.2.1,J.p2,J.p3,J.p4,J.p5,J.p6,J.p7,J.p8,J.p9,J.p10,J.q11,([]:η))))) λx10=>(jn (α:=fH×η×η×η×η×wC×Int×Int×Int×Int×Int×η×η) (jn (α:=Bool×fH×η×η×η×η×wC×Int×Int×Int×Int×Int×η) (bd x10.p7 4 (aF (ai,x10)) (aF ((decide ((x10.p7:Int)=22)),x10))) λI=>(bcase I.1 (bd U.1 0 (obind (gK (I.2.1,I.p2)) λy20=>(bE (aC (al I.p2) (al y20.2.2)&&ai) (aF (y20.2.1,y20.2.2,I.p3,I.p4,I.p5,I.p6,I.p7,I.p8,I.p9,I.p10,I.p11,I.q12,y20.1)))) (bd U.1 1 (obind (gK (I.2.1,I.p3)) λy21=>(bE (aC (al I.p3) (al y21.2.2)&&ai) (aF (y21.2.1,I.p2,y21.2.2,I.p4,I.p5,I.p6,I.p7,I.p8,I.p9,I.p10,I.p11,I.q12,y21.1)))) (bd U.1 2 (obind (gK (I.2.1,I.p4)) λy22=>(bE (aC (al I.p4) (al y22.2.2)&&ai) (aF (y22.2.1,I.p2,I.p3,y22.2.2,I.p5,I.p6,I.p7,I.p8,I.p9,I.p10,I.p11,I.q12,y22.1)))) (bd U.1 3 (obind (gK (I.2.1,I.p5)) λy23=>(bE (aC (al I.p5) (al y23.2.2)&&ai) (aF (y23.2.1,I.p2,I.p3,I.p4,y23.2.2,I.p6,I.p7,I.p8,I.p9,I.p10,I.p11,I.q12,y23.1)))) ah)))) (aF (I.2.1,I.p2,I.p3,I.p4,I.p5,I.p6,I.p7,I.p8,I.p9,I.p10,I.p11,I.q12,([]:η))))) λZ=>(af (Z.q6,Z.1,Z.2.1,Z.p2,Z.p3,Z.p4))))))))))))
def sS (x:(eQ×dt×Int×Bool)×η×Int):Option ((List gd)×η×Int):=
 (bE (c_ 0 (aZ x.1.2.1.p4)&&c_ (aZ x.1.2.1.p4) (aZ x.1.2.1.p4)&&a8 (aT (aZ x.1.2.1.p4)) 24&&decide (((aZ x.1.2.1.p4):Int)=4)) (jn (α:=fH×eQ×dt×η×η×η×η) (bA 0 (aP 4) (jn (α:=fH×eQ×dt×η×η×η×η) (jn (α:=Bool×fH×eQ×dt×η×η×η×η) (bcase x.1.q3 (bD aM x.1.1.q3 0 λz4=>(bA 1 z4 (obind (bB (3,x.2)) λy5=>(aF ((decide ((y5.1:Int)=2)),y5.2,x.1.1,x.1.2.1,([]:η),([]:η),([]:η),([]:η)))) (aF (aj,x.2,x.1.1,x.1.2.1,([]:η),([]:η),([]:η),([]:η))))) (aF (aj,x.2,x.1.1,x.1.2.1,([]:η),([]:η),([]:η),([]:η)))) λx3=>(bcase x3.1 (bE (a8 (al x3.p4+al ([1])) 8) (aF (x3.2.1,x3.p2,x3.p3,(x3.p4++([1])),x3.q5))) (aF x3.2))) λx2=>(bA 1 (aP 4) (jn (α:=fH×eQ×dt×η×η×η×η) (jn (α:=Bool×fH×eQ×dt×η×η×η×η) (bcase x.1.q3 (bD aM x2.2.1.q3 1 λz8=>(bA 1 z8 (obind (bB (3,x2.1)) λy9=>(aF ((decide ((y9.1:Int)=2)),y9.2,x2.2))) (aF (aj,x2)))) (aF (aj,x2))) λx7=>(bcase x7.1 (bE (a8 (al x7.p5+al ([1])) 8) (aF (x7.2.1,x7.p2,x7.p3,x7.p4,(x7.p5++([1])),x7.q6))) (aF x7.2))) λx6=>(bA 2 (aP 4) (jn (α:=fH×eQ×dt×η×η×η×η) (jn (α:=Bool×fH×eQ×dt×η×η×η×η) (bcase x.1.q3 (bD aM x6.2.1.q3 2 λz12=>(bA 1 z12 (obind (bB (3,x6.1)) λy13=>(aF ((decide ((y13.1:Int)=2)),y13.2,x6.2))) (aF (aj,x6)))) (aF (aj,x6))) λY=>(bcase Y.1 (bE (a8 (al Y.p6+al ([1])) 8) (aF (Y.2.1,Y.p2,Y.p3,Y.p4,Y.p5,(Y.p6++([1])),Y.q7))) (aF Y.2))) λx10=>(bA 3 (aP 4) (jn (α:=fH×eQ×dt×η×η×η×η) (jn (α:=Bool×fH×eQ×dt×η×η×η×η) (bcase x.1.q3 (bD aM x10.2.1.q3 3 λz16=>(bA 1 z16 (obind (bB (3,x10.1)) λy17=>(aF ((decide ((y17.1:Int)=2)),y17.2,x10.2))) (aF (aj,x10)))) (aF (aj,x10))) λU=>(bcase U.1 (bE (a8 (al U.q7+al ([1])) 8) (aF (U.2.1,U.p2,U.p3,U.p4,U.p5,U.p6,(U.q7++([1]))))) (aF U.2))) λx14=>(bA 4 (aP 4) (jn (α:=fH×eQ×dt×η×η×η×η) (jn (α:=Bool×fH×eQ×dt×η×η×η×η) (bcase x.1.q3 (bD aM x14.2.1.q3 4 λz20=>(bA 1 z20 (obind (bB (3,x14.1)) λy21=>(aF ((decide ((y21.1:Int)=2)),y21.2,x14.2))) (aF (aj,x14)))) (aF (aj,x14))) λx19=>(bcase x19.1 ah (aF x19.2))) λx18=>ah) (aF x14))) (aF x10))) (aF x6))) (aF x2))) (aF (x.2,x.1.1,x.1.2.1,([]:η),([]:η),([]:η),([]:η)))) λx1=>(iter (σ:=fH×eQ×dt×(List gd)×η×η×η×η) (λx22=>(jn (α:=Bool×fH×eQ×dt×(List gd)×η×η×η×η) (bA (aZ x22.p3) x.1.p2 (aF ((gf x22.1.2 (aZ x22.1.1)),x22)) (aF (aj,x22))) λJ=>(bcase J.1 (jn (α:=fH×eQ×dt×(List gd)×η×η×η×η) (obind (qL ((J.p2,J.p3),J.2.1,J.q5)) λM=>(bE (aC (al J.q8) (al M.q5)&&(aC (al J.p7) (al M.p4)&&(aC (al J.p6) (al M.p3)&&(aC (al J.p5) (al M.p2)&&ai)))) (obind (rQ (J.p3,J.p2,M.1)) λy26=>(bcase (!y26.2) (aF (M.2.1,J.p2,J.p3,J.p4,M.2.2)) (jn (α:=fH×eQ×dt×(List gd)×gd×eQ×η×η×η×η) (jn (α:=Bool×fH×eQ×dt×(List gd)×gd×eQ×η×η×η×η) (bd M.1.2.1 3 (aF (ai,M.2.1,J.p2,J.p3,J.p4,M.1,y26.1,M.2.2)) (aF ((decide ((M.1.2.1:Int)=23)),M.2.1,J.p2,J.p3,J.p4,M.1,y26.1,M.2.2))) λI=>(bcase I.1 (bd I.p5.1 0 (bD aM I.p2.q3 0 λz29=>(bE (a8 (al I.p7+al ([z29])) 8) (aF (I.2.1,I.p2,I.p3,I.p4,(0,I.p5.2),I.p6,(I.p7++([z29])),I.q8)))) (bd I.p5.1 1 (bD aM I.p2.q3 1 λz30=>(bE (a8 (al I.p8+al ([z30])) 8) (aF (I.2.1,I.p2,I.p3,I.p4,(1,I.p5.2),I.p6,I.p7,(I.p8++([z30])),I.q9)))) (bd I.p5.1 2 (bD aM I.p2.q3 2 λz31=>(bE (a8 (al I.p9+al ([z31])) 8) (aF (I.2.1,I.p2,I.p3,I.p4,(2,I.p5.2),I.p6,I.p7,I.p8,(I.p9++([z31])),I.q10)))) (bd I.p5.1 3 (bD aM I.p2.q3 3 λz32=>(bE (a8 (al I.q10+al ([z32])) 8) (aF (I.2.1,I.p2,I.p3,I.p4,(3,I.p5.2),I.p6,I.p7,I.p8,I.p9,(I.q10++([z32])))))) ah)))) (aF I.2))) λZ=>(bE (a8 (al Z.p3+al ([Z.p4])) 88) (aF (Z.1,Z.p5,Z.p2,(Z.p3++([Z.p4])),Z.q6)))))))) λx24=>(cK x24)) (aF (J.p4,J.2.1))))) (x1.1,x1.2.1,x1.p2,([]:List gd),x1.q3))))
def qM (x:η×Int):Option (dt×List gd):=
 (jn (α:=η) (bA 600 (aZ x.1) (bE (c_ 0 600&&c_ 600 (al x.1)) (aF (dI (aT 600) x.1))) (aF x.1)) λx1=>(obind (oc ()) λy2=>(obind (nh y2) λy3=>(obind (bB (3,x1,0)) λy4=>(iter (σ:=Int×fH×dt×eQ×List gd) (λJ=>(iY J.1 (bk .i64 (1+y4.1)) (bE (a8 (al J.q4+al ([(0,20,J.1,0,0,([]:η),([]:η)),(J.1,1,(-1),0,(-1),([]:η),([]:η))])) 88) (cK ((cH J.1),J.2.1,J.p2,J.p3,(J.q4++([(0,20,J.1,0,0,([]:η),([]:η)),(J.1,1,(-1),0,(-1),([]:η),([]:η))]))))) (obind (iter (σ:=Int×fH×dt×eQ×(List gd)×List gd) (λI=>(bA I.1 (aZ J.q4) (jn (α:=fH×dt×eQ×(List gd)×List gd) (kl gr I.p4 I.1 λU=>(obind (rQ (I.p2,I.p3,U)) λy9=>(bcase y9.2 (bE (a8 (al I.q5+al ([U])) 88) (aF (I.2.1,I.p2,y9.1,I.p4,(I.q5++([U]))))) (aF I.2)))) λx7=>(cK ((cH I.1),x7))) (obind (obind (sS ((I.p3,I.p2,(HQ (iK x.2 0) 60),aj),I.2.1)) λM=>(bE (a8 (al I.q5+al M.1) 88) (obind (uH (I.p2,(I.q5++M.1))) λZ=>(iO Z.2 0 (obind (oc ()) λY=>(af (Y,([]:List gd)))) (af (I.p2,(I.q5++M.1))))))) λr=>af (bO r)))) (0,J.2.1,J.p2,J.p3,J.q4,([]:List gd))) λr=>af (bO r)))) (1,y4.2,y2,y3,[(0,1,(-1),0,(-1),([]:η),([]:η))]))))))
def lq (x:(η×η×η)×Int):Option (dt×List gd):=
 (bA 0 (aZ x.1.2.2) (obind (qM (x.1.2.2,x.2)) λJ=>(af J)) (bE (c_ 0 (HQ (aZ x.1.2.1) x.2)&&c_ (HQ (aZ x.1.2.1) x.2) (al x.1.2.1)) (obind (sX (x.1.1,(dI (aT (HQ (aZ x.1.2.1) x.2)) x.1.2.1))) λI=>(af I))))
end
end Go.Proofs.YtgijlolllojpaaaGreatDoor.AI
