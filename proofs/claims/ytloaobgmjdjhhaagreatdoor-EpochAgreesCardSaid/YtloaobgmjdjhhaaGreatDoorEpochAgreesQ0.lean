/-
  Texts of the proof, part 1 of 6: what is used to prove the statement. No condition.
-/
import Derived.WalkKit
import Derived.Lib.Hide
import Derived.Deep.QuietTactic
namespace Prod
variable {A0 A1 A2 A3 A4 A5 A6 A7 A8 A9 A10 A11 A12 A13 A14 A15 A16 A17 A18 A19 A20 A21 A22 A23 A24:Type}
abbrev p2 (x:A0×A1×A2×A3):A2:=x.2.2.1
abbrev p3 (x:A0×A1×A2×A3×A4):A3:=x.2.2.2.1
abbrev q3 (x:A0×A1×A2×A3):A3:=x.2.2.2
abbrev p4 (x:A0×A1×A2×A3×A4×A5):A4:=x.2.2.2.2.1
abbrev q4 (x:A0×A1×A2×A3×A4):A4:=x.2.2.2.2
abbrev p5 (x:A0×A1×A2×A3×A4×A5×A6):A5:=x.2.2.2.2.2.1
abbrev q5 (x:A0×A1×A2×A3×A4×A5):A5:=x.2.2.2.2.2
abbrev p6 (x:A0×A1×A2×A3×A4×A5×A6×A7):A6:=x.2.2.2.2.2.2.1
abbrev q6 (x:A0×A1×A2×A3×A4×A5×A6):A6:=x.2.2.2.2.2.2
abbrev p7 (x:A0×A1×A2×A3×A4×A5×A6×A7×A8):A7:=x.2.2.2.2.2.2.2.1
abbrev q7 (x:A0×A1×A2×A3×A4×A5×A6×A7):A7:=x.2.2.2.2.2.2.2
abbrev p8 (x:A0×A1×A2×A3×A4×A5×A6×A7×A8×A9):A8:=x.2.2.2.2.2.2.2.2.1
abbrev q8 (x:A0×A1×A2×A3×A4×A5×A6×A7×A8):A8:=x.2.2.2.2.2.2.2.2
abbrev p9 (x:A0×A1×A2×A3×A4×A5×A6×A7×A8×A9×A10):A9:=x.2.2.2.2.2.2.2.2.2.1
abbrev q9 (x:A0×A1×A2×A3×A4×A5×A6×A7×A8×A9):A9:=x.2.2.2.2.2.2.2.2.2
abbrev p10 (x:A0×A1×A2×A3×A4×A5×A6×A7×A8×A9×A10×A11):A10:=x.2.2.2.2.2.2.2.2.2.2.1
abbrev q10 (x:A0×A1×A2×A3×A4×A5×A6×A7×A8×A9×A10):A10:=x.2.2.2.2.2.2.2.2.2.2
abbrev p11 (x:A0×A1×A2×A3×A4×A5×A6×A7×A8×A9×A10×A11×A12):A11:=x.2.2.2.2.2.2.2.2.2.2.2.1
abbrev q11 (x:A0×A1×A2×A3×A4×A5×A6×A7×A8×A9×A10×A11):A11:=x.2.2.2.2.2.2.2.2.2.2.2
abbrev p12 (x:A0×A1×A2×A3×A4×A5×A6×A7×A8×A9×A10×A11×A12×A13):A12:=x.2.2.2.2.2.2.2.2.2.2.2.2.1
abbrev q12 (x:A0×A1×A2×A3×A4×A5×A6×A7×A8×A9×A10×A11×A12):A12:=x.2.2.2.2.2.2.2.2.2.2.2.2
abbrev p13 (x:A0×A1×A2×A3×A4×A5×A6×A7×A8×A9×A10×A11×A12×A13×A14):A13:=x.2.2.2.2.2.2.2.2.2.2.2.2.2.1
abbrev q13 (x:A0×A1×A2×A3×A4×A5×A6×A7×A8×A9×A10×A11×A12×A13):A13:=x.2.2.2.2.2.2.2.2.2.2.2.2.2
abbrev p14 (x:A0×A1×A2×A3×A4×A5×A6×A7×A8×A9×A10×A11×A12×A13×A14×A15):A14:=x.2.2.2.2.2.2.2.2.2.2.2.2.2.2.1
abbrev p15 (x:A0×A1×A2×A3×A4×A5×A6×A7×A8×A9×A10×A11×A12×A13×A14×A15×A16):A15:=x.2.2.2.2.2.2.2.2.2.2.2.2.2.2.2.1
abbrev p16 (x:A0×A1×A2×A3×A4×A5×A6×A7×A8×A9×A10×A11×A12×A13×A14×A15×A16×A17):A16:=x.2.2.2.2.2.2.2.2.2.2.2.2.2.2.2.2.1
abbrev q16 (x:A0×A1×A2×A3×A4×A5×A6×A7×A8×A9×A10×A11×A12×A13×A14×A15×A16):A16:=x.2.2.2.2.2.2.2.2.2.2.2.2.2.2.2.2
abbrev p17 (x:A0×A1×A2×A3×A4×A5×A6×A7×A8×A9×A10×A11×A12×A13×A14×A15×A16×A17×A18):A17:=x.2.2.2.2.2.2.2.2.2.2.2.2.2.2.2.2.2.1
abbrev q17 (x:A0×A1×A2×A3×A4×A5×A6×A7×A8×A9×A10×A11×A12×A13×A14×A15×A16×A17):A17:=x.2.2.2.2.2.2.2.2.2.2.2.2.2.2.2.2.2
abbrev p18 (x:A0×A1×A2×A3×A4×A5×A6×A7×A8×A9×A10×A11×A12×A13×A14×A15×A16×A17×A18×A19):A18:=x.2.2.2.2.2.2.2.2.2.2.2.2.2.2.2.2.2.2.1
abbrev q18 (x:A0×A1×A2×A3×A4×A5×A6×A7×A8×A9×A10×A11×A12×A13×A14×A15×A16×A17×A18):A18:=x.2.2.2.2.2.2.2.2.2.2.2.2.2.2.2.2.2.2
abbrev p19 (x:A0×A1×A2×A3×A4×A5×A6×A7×A8×A9×A10×A11×A12×A13×A14×A15×A16×A17×A18×A19×A20):A19:=x.2.2.2.2.2.2.2.2.2.2.2.2.2.2.2.2.2.2.2.1
abbrev p20 (x:A0×A1×A2×A3×A4×A5×A6×A7×A8×A9×A10×A11×A12×A13×A14×A15×A16×A17×A18×A19×A20×A21):A20:=x.2.2.2.2.2.2.2.2.2.2.2.2.2.2.2.2.2.2.2.2.1
abbrev q21 (x:A0×A1×A2×A3×A4×A5×A6×A7×A8×A9×A10×A11×A12×A13×A14×A15×A16×A17×A18×A19×A20×A21):A21:=x.2.2.2.2.2.2.2.2.2.2.2.2.2.2.2.2.2.2.2.2.2
end Prod
namespace Go.Proofs.YtloaobgmjdjhhaaGreatDoor.AI
open Go.RowKit
set_option maxRecDepth 100000
set_option maxHeartbeats 4000000
set_option linter.unusedVariables false
set_option linter.unusedSimpArgs false
open Act renaming put→NQ
open _root_.Array renaming length_toList→iF,replicate→oI
open _root_.Bool renaming true→J,false→af
open _root_.Int renaming ofNat→aN,toNat→aQ,tmod→Ag
open IntKind renaming wrap→o6
open _root_.List renaming length→ai,replicate→aB,length_singleton→dB,take→dJ,range→dN,getElem?_cons_zero→lQ
open _root_.Nat renaming beq→aA,testBit→aM,ble→eO,blt→gx,min→i_
open Oper renaming wp→HC
open _root_.Option renaming some→M,none→D,bind_some→aF
open Region renaming wanted→iS,binds→Ad,ready→HB
open _root_.Sum renaming inr→bX,inl→oX
open World renaming shape?→rU,cell?→NK
noncomputable section
abbrev Y:=@List
abbrev I:=@Option
abbrev ax:=@if_neg
abbrev aC:=@if_pos
abbrev aO:=@decide_eq_true
abbrev a8:=@of_decide_eq_true
abbrev bt:=@decide_eq_false
abbrev bB:=@decide_eq_true_eq
abbrev bG:=@if_true
abbrev bZ:=@absurd
abbrev cU:=@beq_self_eq_true
abbrev cV:=@beq_iff_eq
abbrev dj:=@decide_false
abbrev dP:=@if_false
abbrev dV:=@decide_true
abbrev gj:=@or_false
abbrev gR:=@congrArg
abbrev t_:=@of_decide_eq_false
abbrev BB:=@true_and
abbrev ah:=@Option.some.injEq
abbrev al:=@Bool.and_eq_true
abbrev ar:=@Nat.eq_of_beq_eq_true
abbrev au:=@List.getD_eq_getElem?_getD
abbrev ay:=@List.getElem?_eq_getElem
abbrev aD:=@Prod.mk.injEq
abbrev aI:=@List.mem_singleton
abbrev aX:=@List.mem_of_getElem?
abbrev a_:=@Nat.le_of_ble_eq_true
abbrev ba:=@List.getElem?_map
abbrev be:=@List.length_append
abbrev bh:=@List.getElem?_eq_some_iff
abbrev bk:=@List.mem_cons
abbrev bp:=@Nat.testBit_or
abbrev bA:=@List.length_take
abbrev bD:=@Nat.ble_eq_true_of_le
abbrev bE:=@List.getElem?_eq_none
abbrev bI:=@Nat.zero_add
abbrev bO:=@List.mem_append
abbrev bP:=@Nat.le_refl
abbrev bQ:=@List.getElem?_append_left
abbrev bR:=@List.length_map
abbrev bV:=@List.mem_cons_of_mem
abbrev b8:=@List.length_replicate
abbrev ca:=@Nat.lt_or_ge
abbrev cf:=@List.getElem?_append_right
abbrev ci:=@Bool.false_eq_true
abbrev cz:=@Array.getElem?_toList
abbrev cB:=@List.not_mem_nil
abbrev cC:=@Array.getElem?_eq_some_iff
abbrev cK:=@List.take_length
abbrev cL:=@Nat.mul_le_mul_right
abbrev cQ:=@List.mem_cons_self
abbrev cR:=@List.getElem?_take
abbrev cS:=@List.map_append
abbrev cW:=@Bool.not_eq_true'
abbrev di:=@List.mem_map
abbrev dk:=@List.ext_getElem
abbrev du:=@Int.le_refl
abbrev dy:=@Nat.le_trans
abbrev dD:=@Nat.lt_of_lt_of_le
abbrev eD:=@List.foldl_append
abbrev eK:=@Int.natCast_nonneg
abbrev eS:=@List.map_cons
abbrev fc:=@List.getElem?_of_mem
abbrev fA:=@Int.toNat_of_nonneg
abbrev fP:=@List.length_range
abbrev fQ:=@List.flatMap_cons
abbrev gf:=@List.take_of_length_le
abbrev gA:=@List.all_eq_true
abbrev gL:=@Array.getD_eq_getD_getElem?
abbrev gQ:=@List.length_eq_zero_iff
abbrev hX:=@Nat.zero_le
abbrev hY:=@List.mem_of_mem_take
abbrev hZ:=@List.getElem?_drop
abbrev ia:=@List.length_set
abbrev ib:=@Bool.true_and
abbrev im:=@Nat.ne_of_beq_eq_false
abbrev iv:=@Array.getElem?_eq_getElem
abbrev iG:=@Nat.le_succ_of_le
abbrev iH:=@List.append_assoc
abbrev iT:=@Option.isSome_iff_exists
abbrev iZ:=@Nat.succ_mul
abbrev ja:=@List.cons.injEq
abbrev jb:=@Bool.or_eq_true
abbrev ju:=@List.getElem?_replicate
abbrev jG:=@Bool.and_self
abbrev jY:=@Option.map_eq_some_iff
abbrev jZ:=@List.getElem?_set
abbrev j9:=@Option.some.inj
abbrev kc:=@List.append_nil
abbrev kD:=@List.getElem?_toArray
abbrev kL:=@List.getElem_range
abbrev kQ:=@Nat.or_assoc
abbrev kS:=@List.map_take
abbrev lz:=@List.take_append_of_le_length
abbrev lA:=@List.mem_append_left
abbrev lB:=@Bool.false_and
abbrev lD:=@Bool.and_eq_true_iff
abbrev mq:=@List.map_congr_left
abbrev mR:=@List.length_drop
abbrev mS:=@List.getElem_map
abbrev nN:=@List.mem_range
abbrev nP:=@List.mem_append_right
abbrev oZ:=@List.take_succ_eq_append_getElem
abbrev pJ:=@List.eq_of_mem_replicate
abbrev p_:=@Array.getElem?_setIfInBounds_ne
abbrev qg:=@List.length_take_le
abbrev qU:=@Nat.lt_succ_self
abbrev qV:=@List.getElem_set
abbrev rV:=@Nat.beq_refl
abbrev rW:=@List.drop_of_length_le
abbrev sP:=@Nat.min_eq_left
abbrev sR:=@Nat.add_assoc
abbrev s8:=@List.contains_iff_mem
abbrev tC:=@List.size_toArray
abbrev uX:=@List.mem_flatMap
abbrev uY:=@List.getElem_mem
abbrev uZ:=@List.drop_append
abbrev vB:=@Classical.byContradiction
abbrev vW:=@List.getElem?_range
abbrev vX:=@List.drop_succ_cons
abbrev xh:=@Nat.lt_irrefl
abbrev xj:=@Nat.not_lt_zero
abbrev x_:=@Int.not_lt
abbrev yG:=@Nat.zero_or
abbrev Af:=@Nat.lt_succ_of_lt
abbrev Ai:=@Bool.eq_false_iff
abbrev BA:=@List.take_append_drop
abbrev Ee:=@List.replicate_succ'
abbrev Ef:=@List.getElem?_mapIdx
abbrev Eg:=@List.drop_append_of_le_length
abbrev FE:=@List.sum_append
abbrev FF:=@List.mem_filter
abbrev HE:=@Nat.mul_comm
abbrev HG:=@List.map_map
abbrev Lb:=@Nat.eq_zero_or_pos
abbrev Lg:=@Array.ext'
abbrev NL:=@Nat.lt_trichotomy
abbrev NP:=@Nat.add_mul
abbrev η:=Y Int
abbrev ζ:=Y UInt8
abbrev θ:=Y Bool
abbrev ι:=Y Nat
abbrev ξ:=Y Value
abbrev ω:=Int×Int×Int×Int×Int×Int
abbrev υ:=Int×Int×Int×Int×Int
abbrev π:=Int×Int×Int
abbrev ν:=Int×Int
inductive FV where
 |raw (v:Value)
 |sl (cells:List FV) (n:Nat)
 |ptr (cells:List FV) (off:Nat)
 |agg (cells:List FV)
inductive AV where
 |f (x:FV)
 |ptr (id off:Nat)
 |sl (id off n:Nat)
 |row (id sz n:Nat)
 |mp (id:Nat)
 |emp
 |anyb
 |agg (cells:List AV)
 |tup (vs:List AV)
 |clo (g:FuncId) (cap:List AV)
def FV.isCell:FV->Bool
 |.raw v=>v.oneCell'
 |.sl _ _=>J
 |.ptr _ _=>J
 |.agg _=>af
def AV.isCell:AV->Bool
 |.f x=>x.isCell
 |.ptr _ _=>J
 |.sl _ _ _=>J
 |.row _ _ _=>J
 |.mp _=>J
 |.emp=>J
 |.clo _ _=>J
 |_=>af
inductive nM (O:Nat->Prop) (w:World):FV->Value->Prop
 |raw (v:Value):nM O w (.raw v) v
 |nil (a:Option Addr) (c:Nat) (hc:c<=maxLen):nM O w (.sl [] 0) (.slice a 0 c)
 |sl (cells:List FV) (n c b off:Nat) (us:Nat->Value) (hn:n<=c) (hc:c<=maxLen) (hO:¬O b) (hb:b<w.heap.size)
   (hcl:∀x∈cells,x.isCell=J)
   (hu:∀j,j<cells.length->w.cell? ⟨b,off+j,D⟩=M (us j)) (hr:∀(j:Nat) x,cells[j]? =M x->nM O w x (us j)):
   nM O w (.sl cells n) (.slice (M ⟨b,off,D⟩) n c)
 |ptr (cells:List FV) (o b off:Nat) (us:Nat->Value) (hO:¬O b) (hb:b<w.heap.size)
   (hcl:∀x∈cells,x.isCell=J)
   (hu:∀j,j<cells.length->w.cell? ⟨b,off+j,D⟩=M (us j)) (hr:∀(j:Nat) x,cells[j]? =M x->nM O w x (us j)):
   nM O w (.ptr cells o) (.pointer (M ⟨b,off+o,D⟩))
 |agg (cells:List FV) (vs:ξ) (hl:vs.length=cells.length) (hcl:∀x∈cells,x.isCell=J)
   (hr:∀(j:Nat) x v,cells[j]? =M x->vs[j]? =M v->nM O w x v):nM O w (.agg cells) (.agg vs.toArray)
abbrev PM:=Nat->I Nat
inductive cN (φ:PM) (O:Nat->Prop) (w:World):AV->Value->Prop
 |f {x:FV} {v:Value} (h:nM O w x v):cN φ O w (.f x) v
 |ptr {id off b:Nat} (h:φ id=M b):cN φ O w (.ptr id off) (.pointer (M ⟨b,off,D⟩))
 |sl {id off n c b:Nat} (h:φ id=M b) (hn:n<=c) (hc:c<=maxLen):cN φ O w (.sl id off n) (.slice (M ⟨b,off,D⟩) n c)
 |row {id sz n c b:Nat} (h:φ id=M b) (hn:n<=c) (hc:c<=maxLen) (hs:∃ty,w.shape? b=M (ty,c*sz)):
   cN φ O w (.row id sz n) (.slice (M ⟨b,0,D⟩) n c)
 |emp {a:Option Addr}:cN φ O w .emp (.slice a 0 0)
 |anyb {b:Bool}:cN φ O w .anyb (.bool b)
 |mp {id b:Nat} (h:φ id=M b):cN φ O w (.mp id) (.map (M b))
 |agg {cells:List AV} {vs:ξ} (hl:vs.length=cells.length) (hcl:∀x∈cells,x.isCell=J)
   (hr:∀(j:Nat) x v,cells[j]? =M x->vs[j]? =M v->cN φ O w x v):cN φ O w (.agg cells) (.agg vs.toArray)
 |tup {cells:List AV} {vs:ξ} (hl:vs.length=cells.length)
   (hr:∀(j:Nat) x v,cells[j]? =M x->vs[j]? =M v->cN φ O w x v):cN φ O w (.tup cells) (.tuple vs.toArray)
 |clo {g:FuncId} {cells:List AV} {vs:ξ} (hl:vs.length=cells.length)
   (hr:∀(j:Nat) x v,cells[j]? =M x->vs[j]? =M v->cN φ O w x v):cN φ O w (.clo g cells) (.func (.func g) #[] vs.toArray)
structure Ib (O:Nat->Prop) (w w':World):Prop where
 os:w'.os=w.os
 tape:w'.tape=w.tape
 output:w'.output=w.output
 size:w.heap.size<=w'.heap.size
 blk:∀k,k<w.heap.size->¬O k->w'.heap[k]? =w.heap[k]?
 shp:∀k,k<w.heap.size->w'.shape? k=w.shape? k
theorem Ib.refl (O:Nat->Prop) (w:World):Ib O w w:=⟨rfl,rfl,rfl,bP _,λ_ _ _=>rfl,λ_ _=>rfl⟩
theorem DZ {w w':World} {b:Nat} (h:w'.heap[b]? =w.heap[b]?) (o:Nat):w'.cell? ⟨b,o,D⟩=w.cell? ⟨b,o,D⟩:=by
 unfold NK;rw[h]
theorem nM.ext {O O':Nat->Prop} {w w':World} (he:Ib O w w') (s:∀k,k<w.heap.size->O' k->O k) {x:FV} {v:Value} (h:nM O w x v):nM O' w' x v:=by
 induction h with
 |raw v=>exact .raw v
 |nil a c hc=>exact .nil a c hc
 |sl cells n c b off us hn hc hO hb hcl hu hr q=>
  exact .sl cells n c b off us hn hc (λh=>hO (s b hb h)) (dD hb he.size) hcl (λj hj=>by rw[DZ (he.blk b hb hO)];exact hu j hj) q
 |ptr cells o b off us hO hb hcl hu hr q=>
  exact .ptr cells o b off us (λh=>hO (s b hb h)) (dD hb he.size) hcl (λj hj=>by rw[DZ (he.blk b hb hO)];exact hu j hj) q
 |agg cells vs hl hcl hr q=>exact .agg cells vs hl hcl q
theorem cN.ext {φ φ':PM} {O O':Nat->Prop} {w w':World} (hs:∀i k,φ i=M k->φ' i=M k) (he:Ib O w w') (c:∀k,k<w.heap.size->O' k->O k) {x:AV} {v:Value} (h:cN φ O w x v):cN φ' O' w' x v:=by
 induction h with
 |f h=>exact .f (h.ext he c)
 |ptr h=>exact .ptr (hs _ _ h)
 |sl h hn hc=>exact .sl (hs _ _ h) hn hc
 |row h hn hc hsh=>
  obtain⟨ty,hty⟩:=hsh;refine .row (hs _ _ h) hn hc ⟨ty,?_⟩;rw[he.shp _ ?_];exact hty;unfold rU at hty;rcases ca _ w.heap.size with hlt|hge
  .exact hlt
  .rw[Array.getElem?_eq_none hge]at hty;cases hty
 |emp=>exact .emp
 |anyb=>exact .anyb
 |mp h=>exact .mp (hs _ _ h)
 |agg hl hcl hr a=>exact .agg hl hcl a
 |tup hl hr a=>exact .tup hl a
 |clo hl hr a=>exact .clo hl a
inductive BC where
 |fz (l:List FV)
 |mx (l:List AV)
 |mp (es:List (Value×AV))
 |it (s:ByteArray) (pos:Nat)
def BC.get:BC->Nat->I AV
 |.fz l,j=>l[j]?.map AV.f
 |.mx l,j=>l[j]?
 |_,_=>D
def BC.len:BC->Nat
 |.fz l=>l.length
 |.mx l=>l.length
 |_=>0
def BC.isCells:BC->Bool
 |.fz _=>J
 |.mx _=>J
 |_=>af
structure vT where
 ty:TypeId
 c:BC
abbrev HF:=Nat->I vT
def own (φ:PM) (h:HF) (k:Nat):Prop:=∃id b,h id=M b/\φ id=M k
def tot (E:Nat->Prop) (φ:PM) (h:HF) (k:Nat):Prop:=E k\/own φ h k
def vA (φ:PM) (O:Nat->Prop) (w:World) (c:BC) (arr:Array Value):Prop:=
 c.len<=arr.size/\∀j x,c.get j=M x->x.isCell=J/\∃v,arr[j]? =M v/\cN φ O w x v
def ky (k:Value):Y MapEntry->Value
 |[]=>.slice D 0 0
 |m::r=>match m.key,k with
  |.int .i64 a,.int .i64 b=>if a=b then m.val else ky k r
  |_,_=>ky k r
def wF (k:Value):Prop:=∃n:Int,k= .int .i64 n
def XM (ty:TypeId) (es:Y (Value×AV)) (ents:Array MapEntry):Prop:=if ty=0 then ents.toList.map (·.key)=es.map (·.1) else (∀m∈ents.toList,wF m.key)/\∀k∈es.map (·.1),wF k
def MpV (ty:TypeId) (ents:Array MapEntry) (j:Nat) (k v:Value):Prop:=if ty=0 then ∃m,ents[j]? =M m/\v=m.val else v=ky k ents.toList
def jh (φ:PM) (O:Nat->Prop) (w:World) (b:vT) (o:Obj):Prop:=
 match b.c with
 |.mp es=>∃ents clock,o= .map ents clock/\XM b.ty es ents/\∀(j:Nat) x,es[j]? =M x->∃v,MpV b.ty ents j x.1 v/\cN φ O w x.2 v
 |.it s p=>o= .stringIter s p
 |c=>∃arr,o= .cells arr b.ty (0,0)/\vA φ O w c arr
def XQ (φ:PM) (O:Nat->Prop) (w:World) (k:Nat) (b:vT):Prop:=∃o,w.heap[k]? =M o/\jh φ O w b o
theorem XQ.cells {φ:PM} {O:Nat->Prop} {w:World} {k:Nat} {b:vT} (h:XQ φ O w k b) (hc:b.c.isCells=J):
 ∃arr,w.heap[k]? =M (.cells arr b.ty (0,0))/\vA φ O w b.c arr:=by
 obtain⟨o,h1,h2⟩:=h;unfold jh at h2;cases hb:b.c with
 |fz l=>rw[hb]at h2;obtain⟨arr,rfl,a⟩:=h2;exact⟨arr,h1,a⟩
 |mx l=>rw[hb]at h2;obtain⟨arr,rfl,a⟩:=h2;exact⟨arr,h1,a⟩
 |mp _=>rw[hb]at hc;cases hc
 |it _ _=>rw[hb]at hc;cases hc
theorem jh.mono {φ φ':PM} {O O':Nat->Prop} {w w':World} (hk:∀x v,cN φ O w x v->cN φ' O' w' x v) {b:vT} {o:Obj} (h:jh φ O w b o):jh φ' O' w' b o:=by
 unfold jh at h ⊢;cases hb:b.c with
 |fz l=>rw[hb]at h;obtain⟨arr,h1,h2,z⟩:=h;exact⟨arr,h1,h2,λj x q=>by obtain⟨a,v,c,d⟩:=z j x q;exact⟨a,v,c,hk _ _ d⟩⟩
 |mx l=>rw[hb]at h;obtain⟨arr,h1,h2,z⟩:=h;exact⟨arr,h1,h2,λj x q=>by obtain⟨a,v,c,d⟩:=z j x q;exact⟨a,v,c,hk _ _ d⟩⟩
 |mp es=>rw[hb]at h;obtain⟨e,c,h1,h2,z⟩:=h;exact⟨e,c,h1,h2,λj x q=>by obtain⟨m,a,b⟩:=z j x q;exact⟨m,a,hk _ _ b⟩⟩
 |it s p=>rw[hb]at h;exact h
theorem vA.mono {φ φ':PM} {O O':Nat->Prop} {w w':World} (hk:∀x v,cN φ O w x v->cN φ' O' w' x v) {c:BC} {arr:Array Value} (h:vA φ O w c arr):vA φ' O' w' c arr:=
 ⟨h.1,λj x q=>by obtain⟨a,v,c,d⟩:=h.2 j x q;exact⟨a,v,c,hk _ _ d⟩⟩
def uQ (l:ζ):FV:=.raw (.string ⟨l.toArray⟩)
def CX:Y FV:=[uQ [118,97,114],uQ [118,111,108,97,116,105,108,101],uQ [109,117,116,101,120],uQ [114,119,108,111,99,107],uQ [99,111,110,100],uQ [102,117,116,117,114,101],uQ [116,104,114,101,97,100],uQ [105,102],uQ [101,108,115,101],uQ [119,104,105,108,101],uQ [108,111,99,107],uQ [114,101,97,100],uQ [119,114,105,116,101],uQ [116,114,97,110,115,97,99,116,105,111,110],uQ [97,116,111,109,105,99],uQ [119,97,105,116],uQ [110,111,116,105,102,121],uQ [110,111,116,105,102,121,97,108,108],uQ [115,112,97,119,110],uQ [106,111,105,110],uQ [115,101,116],uQ [103,101,116]]
def G (g:Nat):I (Y FV):=if g==0 then M CX else D
structure re (φ:PM) (E:Nat->Prop) (h:HF) (w:World):Prop where
 inj:∀i j b b' k,h i=M b->h j=M b'->φ i=M k->φ j=M k->i=j
 at_:∀i b,h i=M b->∃k,φ i=M k/\¬E k/\XQ φ (tot E φ h) w k b
 el:∀k,E k->k<w.heap.size
 gl:∀g cells,G g=M cells->nM (tot E φ h) w (.ptr cells 0) (.pointer (M ⟨g,0,D⟩))
structure ji (φ φ':PM) (h h':HF) (w w':World):Prop where
 sub:∀i k,φ i=M k->φ' i=M k
 ext:Ib (own φ h) w w'
 own_:∀k,k<w.heap.size->own φ' h' k->own φ h k
theorem ji.refl (φ:PM) (h:HF) (w:World):ji φ φ h h w w:=⟨λ_ _ h=>h,Ib.refl _ _,λ_ _ h=>h⟩
theorem ji.trans {φ φ' φ'':PM} {h h' h'':HF} {w w' w'':World} (m:ji φ φ' h h' w w') (n:ji φ' φ'' h' h'' w' w''):ji φ φ'' h h'' w w'' where
 sub:=λi k e=>n.sub i k (m.sub i k e)
 ext:=⟨n.ext.os.trans m.ext.os,n.ext.tape.trans m.ext.tape,n.ext.output.trans m.ext.output,dy m.ext.size n.ext.size,
  λk hk a=>(n.ext.blk k (dD hk m.ext.size) (λh=>a (m.own_ k hk h))).trans (m.ext.blk k hk a),
  λk hk=>(n.ext.shp k (dD hk m.ext.size)).trans (m.ext.shp k hk)⟩
 own_:=λk hk h=>m.own_ k hk (n.own_ k (dD hk m.ext.size) h)
theorem Ib.mono {O O':Nat->Prop} {w w':World} (h:Ib O w w') (a:∀k,O k->O' k):Ib O' w w':=
 ⟨h.os,h.tape,h.output,h.size,λk hk hO=>h.blk k hk (λx=>hO (a k x)),h.shp⟩
theorem ji.keep {φ φ':PM} {h h':HF} {w w':World} (m:ji φ φ' h h' w w') {E:Nat->Prop} {x:AV} {v:Value} (r:cN φ (tot E φ h) w x v):cN φ' (tot E φ' h') w' x v:=
 r.ext m.sub (m.ext.mono λ_ h=>.inr h) λk hk a=>a.elim .inl λo=>.inr (m.own_ k hk o)
theorem ji.keepF {φ φ':PM} {h h':HF} {w w':World} (m:ji φ φ' h h' w w') {E:Nat->Prop} {x:FV} {v:Value} (r:nM (tot E φ h) w x v):nM (tot E φ' h') w' x v:=
 r.ext (m.ext.mono λ_ h=>.inr h) λk hk a=>a.elim .inl λo=>.inr (m.own_ k hk o)
abbrev EF:=Nat->I AV
def NF (φ:PM) (O:Nat->Prop) (w:World) (e:EF) (a:Act):Prop:=∀t x,e t=M x->cN φ O w x (a.tmps.getD t undef)
def CL (e:EF) (dst:I Nat) (x:AV):EF:=λt=>if dst=M t then M x else e t
def eV (h:HF) (wr:ι) (nw:HF):HF:=λi=>if i∈wr then nw i else h i
structure Bz where
 val:AV
 rd:ι
 wr:ι
 nw:HF
 N:ι
def gP (P:Program) (o:Oper) (e:EF) (h:HF) (f:Bz):Prop:=
 ∀(φ:PM) (E:Nat->Prop) (h':HF) (w:World) (a:Act),(∀i∈f.rd,h' i=h i)->(∀i∈f.wr,h' i=h i)->
  (∀t,.tmp t∈o.op.operands->∀y,e t=M y->cN φ (tot E φ h') w y (a.tmps.getD t undef))->re φ E h' w->(∀n∈f.N,φ n=D)->
  o.wp P a w (λa' w'=>∃v φ',a'=a.put o.dst v/\ji φ φ' h' (eV h' f.wr f.nw) w w'/\(∀i k,φ' i=M k->φ i=M k\/i∈f.N)/\
   re φ' E (eV h' f.wr f.nw) w'/\cN φ' (tot E φ' (eV h' f.wr f.nw)) w' f.val v) (λ_ _ _=>False)
def rX:Bz:=⟨.f (.raw undef),[],[],λ_=>D,[]⟩
inductive KW (P:Program) (ops:Array Oper) (o:Oper) (f:Bz) (e:EF) (h:HF):Prop
 |run (hg:o.guard=D) (ht:gP P o e h f)
 |runG (j t:Nat) (want:Bool) (hg:o.guard=M (j,want)) (hj:(ops[j]?).bind (·.dst)=M t) (he:e t=M (.f (.raw (.bool want)))) (ht:gP P o e h f)
 |skip (j t:Nat) (want:Bool) (hg:o.guard=M (j,want)) (hj:(ops[j]?).bind (·.dst)=M t) (v:Value) (he:e t=M (.f (.raw v))) (hv:v≠ .bool want) (hf:f=rX)
inductive Ac (P:Program) (ops:Array Oper):List (Oper×Bz)->EF->HF->EF->HF->Prop
 |nil (e:EF) (h:HF):Ac P ops [] e h e h
 |cons {o:Oper} {f:Bz} {r:List (Oper×Bz)} {e e':EF} {h h':HF} (hs:KW P ops o f e h)
   (hr:Ac P ops r (CL e o.dst f.val) (eV h f.wr f.nw) e' h'):Ac P ops ((o,f)::r) e h e' h'
def Li (S:Nat->Bool):Nat->Y (Oper×Bz)->EF->EF
 |_,[],e=>e
 |k,(o,f)::r,e=>Li S (k+1) r (if S k then CL e o.dst f.val else e)
def Co (S:Nat->Bool):Nat->Y (Oper×Bz)->HF->HF
 |_,[],h=>h
 |k,(_,f)::r,h=>Co S (k+1) r (if S k then eV h f.wr f.nw else h)
theorem Em {S S':Nat->Bool} {t:Nat}:∀(l:Y (Oper×Bz)) (k:Nat) (e e':EF),e t=e' t->
 (∀(j:Nat) o f,l[j]? =M (o,f)->o.dst=M t->S (k+j)=S' (k+j))->Li S k l e t=Li S' k l e' t
 |[],_,_,_,he,_=>he
 |(o,f)::r,k,e,e',he,a=>by
  simp only[Li];refine Em r (k+1) _ _ ?_ (λj o f hj hd=>by have:=a (j+1) o f (by simpa using hj) hd;rwa [show k+(j+1)=k+1+j from by omega]at this);by_cases hd:o.dst=M t
  .rw[show S k=S' k from by simpa using a 0 o f rfl hd];split
   .simp[CL,hd]
   .exact he
  .split<;>split<;>simp[CL,hd,he]
theorem El {S S':Nat->Bool} {t:Nat}:∀(l:Y (Oper×Bz)) (k:Nat) (e e':HF),e t=e' t->
 (∀(j:Nat) o f,l[j]? =M (o,f)->t∈f.wr->S (k+j)=S' (k+j))->Co S k l e t=Co S' k l e' t
 |[],_,_,_,he,_=>he
 |(o,f)::r,k,e,e',he,a=>by
  simp only[Co];refine El r (k+1) _ _ ?_ (λj o f hj hd=>by have:=a (j+1) o f (by simpa using hj) hd;rwa [show k+(j+1)=k+1+j from by omega]at this);by_cases hd:t∈f.wr
  .rw[show S k=S' k from by simpa using a 0 o f rfl hd];split
   .simp[eV,hd]
   .exact he
  .split<;>split<;>simp[eV,hd,he]
theorem CC {S:Nat->Bool} {t:Nat}:∀(l:Y (Oper×Bz)) (k:Nat) (e:EF),(∀(j:Nat) o f,l[j]? =M (o,f)->o.dst=M t->S (k+j)=af)->Li S k l e t=e t
 |[],_,_,_=>rfl
 |(o,f)::r,k,e,a=>by
  simp only[Li];rw[CC r (k+1) _ (λj o f hj hd=>by have:=a (j+1) o f (by simpa using hj) hd;rwa [show k+(j+1)=k+1+j from by omega]at this)];split
  .rename_i h;unfold CL;rw[ax];intro hd;have:=a 0 o f rfl hd;simp_all
  .rfl
theorem CA {S:Nat->Bool} {t:Nat}:∀(l:Y (Oper×Bz)) (k:Nat) (e:HF),(∀(j:Nat) o f,l[j]? =M (o,f)->t∈f.wr->S (k+j)=af)->Co S k l e t=e t
 |[],_,_,_=>rfl
 |(o,f)::r,k,e,a=>by
  simp only[Co];rw[CA r (k+1) _ (λj o f hj hd=>by have:=a (j+1) o f (by simpa using hj) hd;rwa [show k+(j+1)=k+1+j from by omega]at this)];split
  .rename_i h;unfold eV;rw[ax];intro hd;have:=a 0 o f rfl hd;simp_all
  .rfl
theorem Qc {S:Nat->Bool} {t:Nat}:∀(l:Y (Oper×Bz)) (k i:Nat) (e:EF) (o:Oper) (f:Bz),l[i]? =M (o,f)->o.dst=M t->S (k+i)=J->
 (∀(j:Nat) o' f',i<j->l[j]? =M (o',f')->o'.dst=M t->S (k+j)=af)->Li S k l e t=M f.val
 |[],_,_,_,_,_,h,_,_,_=>by simp at h
 |(o',f')::r,k,0,e,o,f,h,hd,a,hl=>by
  simp only[lQ,ah,aD]at h;obtain⟨rfl,rfl⟩:=h;simp only[Li];rw[CC r (k+1) _ (λj o f hj hd=>by have:=hl (j+1) o f (by omega) (by simpa using hj) hd;rwa [show k+(j+1)=k+1+j from by omega]at this)];simp at a;simp[a,CL,hd]
 |(o',f')::r,k,i+1,e,o,f,h,hd,a,hl=>by
  simp only[Li];exact Qc r (k+1) i _ o f (by simpa using h) hd (by rwa [show k+1+i=k+(i+1) from by omega])
   (λj o f hij hj hd=>by have:=hl (j+1) o f (by omega) (by simpa using hj) hd;rwa [show k+(j+1)=k+1+j from by omega]at this)
theorem Qb {S:Nat->Bool} {t:Nat}:∀(l:Y (Oper×Bz)) (k i:Nat) (e:HF) (o:Oper) (f:Bz),l[i]? =M (o,f)->t∈f.wr->S (k+i)=J->
 (∀(j:Nat) o' f',i<j->l[j]? =M (o',f')->t∈f'.wr->S (k+j)=af)->Co S k l e t=f.nw t
 |[],_,_,_,_,_,h,_,_,_=>by simp at h
 |(o',f')::r,k,0,e,o,f,h,hd,a,hl=>by
  simp only[lQ,ah,aD]at h;obtain⟨rfl,rfl⟩:=h;simp only[Co];rw[CA r (k+1) _ (λj o f hj hd=>by have:=hl (j+1) o f (by omega) (by simpa using hj) hd;rwa [show k+(j+1)=k+1+j from by omega]at this)];simp at a;simp[a,eV,hd]
 |(o',f')::r,k,i+1,e,o,f,h,hd,a,hl=>by
  simp only[Co];exact Qb r (k+1) i _ o f (by simpa using h) hd (by rwa [show k+1+i=k+(i+1) from by omega])
   (λj o f hij hj hd=>by have:=hl (j+1) o f (by omega) (by simpa using hj) hd;rwa [show k+(j+1)=k+1+j from by omega]at this)
theorem Ac.step {P:Program} {ops:Array Oper}:∀{l:Y (Oper×Bz)} {e e':EF} {h h':HF} (_:Ac P ops l e h e' h') (k i:Nat) (o:Oper) (f:Bz),l[i]? =M (o,f)->
 KW P ops o f (Li (λj=>decide (j<k+i)) k l e) (Co (λj=>decide (j<k+i)) k l h):=by
 intro l e e' h h' hc;induction hc with
 |nil=>intro k i o f hi;simp at hi
 |@cons o1 a r e e' h h' hs hr c=>
  intro k i o f hi;cases i with
  |zero=>
   simp only[lQ,ah,aD]at hi;obtain⟨rfl,rfl⟩:=hi;have e1:Li (λj=>decide (j<k+0)) k ((o1,a)::r) e=e:=by
    funext t;rw[CC];intro j o f _ _;simp
   have e2:Co (λj=>decide (j<k+0)) k ((o1,a)::r) h=h:=by
    funext t;rw[CA];intro j o f _ _;simp
   rw[e1,e2];exact hs
  |succ i=>
   have:=c (k+1) i o f (by simpa using hi);simp only[Li,Co];rw[show k+(i+1)=k+1+i from by omega];simpa[show k<k+1+i from by omega] using this
theorem Ac.final {P:Program} {ops:Array Oper}:∀{l:Y (Oper×Bz)} {e e':EF} {h h':HF} (_:Ac P ops l e h e' h') (k:Nat) (S:Nat->Bool),(∀j,j<l.length->S (k+j)=J)->
 Li S k l e=e'/\Co S k l h=h':=by
 intro l e e' h h' hc;induction hc with
 |nil=>intro k S _;exact⟨rfl,rfl⟩
 |@cons o1 q r e e' h h' hs hr c=>
  intro k S a;have h0:S k=J:=by simpa using a 0 (by simp)
  simp only[Li,Co,h0,bG];exact c (k+1) S (λj hj=>by have:=a (j+1) (by simpa using hj);rwa [show k+(j+1)=k+1+j from by omega]at this)
theorem P3 {P:Program} {o:Oper} {a:Act} {w:World} {K K':Act->World->Prop} {Q:Exit->Act->World->Prop} (h:∀a w,K a w->K' a w)
 (hh:o.wp P a w K (λ_ _ _=>False)):o.wp P a w K' Q:=by
 unfold HC at*
 generalize (execOp a.eval o).run P w=r at*
 cases r with
 |ok n w'=>
  cases n<;>simp only[Oper.upon]at hh ⊢<;>
   first
    |exact h _ _ hh
    |exact Calls.mono hh (λe w'' he=>by
      cases e with
      |returned v=>exact h _ _ he
      |panicked c=>exact he.elim
      |outgrown=>obtain⟨_,_,h⟩:=he;exact h.elim)
    |exact Rows.mono hh (λ_ _ he=>h _ _ he)
 |halt x w'=>cases x<;>simp only[Oper.upon]at hh ⊢<;>first|exact hh.elim|exact hh
inductive Bef (ops:Array Oper):Nat->Nat->Prop
 |one {j:Nat} {o:Oper} {e:Edge} (h:ops[j]? =M o) (he:e∈o.after) (hb:Ad .any e=J):Bef ops j e.on
 |more {j i:Nat} {o:Oper} {e:Edge} (h:ops[j]? =M o) (he:e∈o.after) (hb:Ad .any e=J) (hi:Bef ops e.on i):Bef ops j i
structure NIP (ops:Array Oper) (l:List (Oper×Bz)):Prop where
 edge:∀(j:Nat) o,ops[j]? =M o->∀e∈o.after,Ad .any e=J->e.on<j
 pair:∀(i j:Nat) oi fi oj fj,i<j->l[i]? =M (oi,fi)->l[j]? =M (oj,fj)->Bef ops j i\/
  (oi.apart ops oj=J/\(∀x∈fi.wr,x∉fj.rd/\x∉fj.wr)/\(∀x∈fj.wr,x∉fi.rd))
 names:∀(i j:Nat) oi fi oj fj,i<j->l[i]? =M (oi,fi)->l[j]? =M (oj,fj)->∀n∈fi.N,n∉fj.N
def FC (ops:Array Oper) (listed:Array Bool):Prop:=∀(j:Nat) o,ops[j]? =M o->listed.getD j af=J->∀e∈o.after,Ad .any e=J->listed.getD e.on af=J
theorem FC.bef {ops:Array Oper} {listed:Array Bool} (hc:FC ops listed) {j i:Nat} (h:Bef ops j i):listed.getD j af=J->listed.getD i af=J:=by
 induction h with
 |one h he hb=>intro hj;exact hc _ _ h hj _ he hb
 |more h he hb hi a=>intro hj;exact a (hc _ _ h hj _ he hb)
theorem XZ {ops:Array Oper} {listed:Array Bool} (hc:FC ops listed) {j i:Nat} {o:Oper} (a:ops[j]? =M o) (hr:∀e∈o.after,Ad .any e=J->listed.getD e.on af=J) (h:Bef ops j i):listed.getD i af=J:=by
 cases h with
 |one h he hb=>rw[h]at a;cases a;exact hr _ he hb
 |more h he hb hi=>rw[h]at a;cases a;exact hc.bef hi (hr _ he hb)
theorem sX {listed:Array Bool} {j:Nat} (h:listed.getD j J=af):listed.getD j af=af/\j<listed.size:=by
 rcases ca j listed.size with h1|h1
 .simp[h1]at h ⊢;exact h
 .simp[Array.getElem?_eq_none h1]at h
def StP (φ0:PM) (E:Nat->Prop) (e0:EF) (h0:HF) (w0:World) (a0:Act) (l:Y (Oper×Bz)) (S:Nat->Bool) (a:Act) (w:World):Prop:=
 ∃φ,ji φ0 φ h0 (Co S 0 l h0) w0 w/\(∀i k,φ i=M k->φ0 i=M k\/∃(j:Nat) (o:Oper) (f:Bz),S j=J/\l[j]? =M (o,f)/\i∈f.N)/\
  re φ E (Co S 0 l h0) w/\NF φ (tot E φ (Co S 0 l h0)) w (Li S 0 l e0) a/\a.defers=a0.defers/\a.tmps.size=a0.tmps.size
theorem Iu {a:Act} {dst:I Tmp} {v:Value} {t:Nat} (hd:∀d,dst=M d->d<a.tmps.size):(a.put dst v).tmps.getD t undef=if dst=M t then v else a.tmps.getD t undef:=by
 cases dst with
 |none=>simp[NQ]
 |some d=>
  by_cases h:d=t
  .subst h;simp[NQ,hd d rfl]
  .simp[NQ,h,p_ h]
theorem Qs {a:Act} {dst:I Tmp} {v:Value}:(a.put dst v).tmps.size=a.tmps.size:=by cases dst<;>simp[NQ]
theorem Iv {a:Act} {dst:I Tmp} {v:Value}:(a.put dst v).defers=a.defers:=by cases dst<;>rfl
theorem aa8 {P:Program} {ops:Array Oper} {l:Y (Oper×Bz)} {e0 e':EF} {h0 h':HF} {φ0:PM} {E:Nat->Prop} {w0:World} {a0:Act}
 (hl:l.map (·.1)=ops.toList) (hc:Ac P ops l e0 h0 e' h') (ni:NIP ops l) (hfr:∀(j:Nat) o f,l[j]? =M (o,f)->∀n∈f.N,φ0 n=D)
 (hsz:∀(j:Nat) o,ops[j]? =M o->∀d,o.dst=M d->d<a0.tmps.size) {listed:Array Bool} (hcl:FC ops listed) {i:Nat} (hi:i∈HB .any ops listed) {Q:Exit->Act->World->Prop} {K:Act->World->Prop}
 (hK:∀a w,StP φ0 E e0 h0 w0 a0 l (λj=>(listed.setIfInBounds i J).getD j af) a w->K a w) {a:Act} {w:World} (hst:StP φ0 E e0 h0 w0 a0 l (λj=>listed.getD j af) a w):
 wpOp P ops Q i K a w:=by
 obtain⟨hun,o,ho,hdeps⟩:=mem_ready.1 hi;obtain⟨hnf,hlt⟩:=sX hun;have hln:∀(j:Nat) o',ops[j]? =M o'->∃f,l[j]? =M (o',f):=λj o' h=>by
  have h1:(l.map (·.1))[j]? =M o':=by rw[hl];simpa using h
  rw[ba]at h1;cases hj:l[j]? with
  |none=>rw[hj]at h1;cases h1
  |some p=>rw[hj]at h1;obtain⟨a,b⟩:=p;simp at h1;subst h1;exact⟨b,rfl⟩
 have hnl:∀(j:Nat) o' f,l[j]? =M (o',f)->ops[j]? =M o':=λj o' f h=>by
  have h1:(l.map (·.1))[j]? =M o':=by rw[ba,h];rfl
  rw[hl]at h1;simpa using h1
 obtain⟨f,hf⟩:=hln i o ho;have hord:∀(j:Nat) oj fj,j≠i->l[j]? =M (oj,fj)->(listed.getD j af=decide (j<i))\/
  (o.apart ops oj=J\/oj.apart ops o=J)/\(∀x∈f.wr,x∉fj.rd/\x∉fj.wr)/\(∀x∈fj.wr,x∉f.rd/\x∉f.wr):=by
  intro j oj fj hji hj;rcases ca j i with h|h
  .rcases ni.pair j i oj fj o f h hj hf with hb|⟨h1,h2,Z⟩
   .left;rw[XZ hcl ho hdeps hb];simp[h]
   .right;exact⟨.inr h1,λx c=>⟨Z x c,λA=>(h2 x A).2 c⟩,λx c=>h2 x c⟩
  .have h:i<j:=by omega
   rcases ni.pair i j o f oj fj h hf hj with hb|⟨h1,h2,Z⟩
   .left;have:listed.getD j af=af:=by
     cases c:listed.getD j af with
     |false=>rfl
     |true=>have:=hcl.bef hb c;rw[hnf]at this;cases this
    rw[this];simp;omega
   .right;exact⟨.inl h1,λx c=>h2 x c,λx c=>⟨Z x c,λA=>(h2 x A).2 c⟩⟩
 have q:∀j,(listed.setIfInBounds i J).getD j af=if j=i then J else listed.getD j af:=λj=>by
  by_cases h:i=j
  .subst h;simp[hlt]
  .rw[getD_set_ne af h,ax (λe=>h e.symm)]
 have hlater:∀(j:Nat) oj fj,i<j->l[j]? =M (oj,fj)->(listed.getD j af=af)\/((o.apart ops oj=J\/oj.apart ops o=J)/\(∀x∈f.wr,x∉fj.rd/\x∉fj.wr)):=by
  intro j oj fj hij hj;rcases hord j oj fj (by omega) hj with h|⟨h1,h2,_⟩
  .left;rw[h];simp;omega
  .right;exact⟨h1,h2⟩
 have hdd:∀{x y:Oper},(x.apart ops y=J\/y.apart ops x=J)->∀d,x.dst=M d->y.dst≠M d:=by
  intro x y h d hd he;rcases h with h|h
  .exact (Oper.apart_spec h).2.1 d hd he
  .exact (Oper.apart_spec h).2.1 d he hd
 have hlook:∀{x y:Oper},(x.apart ops y=J\/y.apart ops x=J)->∀d,y.dst=M d->d∉x.looksAt ops:=by
  intro x y h d hd;rcases h with h|h
  .exact (Oper.apart_spec h).2.2 d hd
  .exact (Oper.apart_spec h).1 d hd
 have heL:∀t,t∈o.looksAt ops->Li (λj=>listed.getD j af) 0 l e0 t=Li (λj=>decide (j<0+i)) 0 l e0 t:=λt ht=>by
  refine Em l 0 e0 e0 rfl λj oj fj hj hd=>?_
  simp only[bI];by_cases hji:j=i
  .subst hji;rw[hnf];simp
  .rcases hord j oj fj hji hj with h|⟨h,_⟩
   .exact h
   .exact bZ ht (hlook h t hd)
 have hhL:∀t,t∈f.rd\/t∈f.wr->Co (λj=>listed.getD j af) 0 l h0 t=Co (λj=>decide (j<0+i)) 0 l h0 t:=λt ht=>by
  refine El l 0 h0 h0 rfl λj oj fj hj hd=>?_
  simp only[bI];by_cases hji:j=i
  .subst hji;rw[hnf];simp
  .rcases hord j oj fj hji hj with h|⟨_,_,h⟩
   .exact h
   .rcases ht with ht|ht
    .exact bZ ht (h t hd).1
    .exact bZ ht (h t hd).2
 have hE':∀t,Li (λj=>(listed.setIfInBounds i J).getD j af) 0 l e0 t=if o.dst=M t then M f.val else Li (λj=>listed.getD j af) 0 l e0 t:=λt=>by
  by_cases hd:o.dst=M t
  .rw[aC hd];refine Qc l 0 i e0 o f hf hd (by simp[q]) λj o' f' hij hj s=>?_
   simp only[bI,q,ax (show ¬j=i by omega)];rcases hlater j o' f' hij hj with h|⟨h,_⟩
   .exact h
   .exact bZ s (hdd h t hd)
  .rw[ax hd];refine Em l 0 e0 e0 rfl λj oj fj hj s=>?_
   simp only[bI,q];rw[ax];intro hji;subst hji;rw[hf]at hj;cases hj;exact hd s
 have L:Co (λj=>(listed.setIfInBounds i J).getD j af) 0 l h0=eV (Co (λj=>listed.getD j af) 0 l h0) f.wr f.nw:=by
  funext t;unfold eV;by_cases hd:t∈f.wr
  .rw[aC hd];refine Qb l 0 i h0 o f hf hd (by simp[q]) λj o' f' hij hj s=>?_
   simp only[bI,q,ax (show ¬j=i by omega)];rcases hlater j o' f' hij hj with h|⟨_,h⟩
   .exact h
   .exact bZ s (h t hd).2
  .rw[ax hd];refine El l 0 h0 h0 rfl λj oj fj hj s=>?_
   simp only[bI,q];rw[ax];intro hji;subst hji;rw[hf]at hj;cases hj;exact hd s
 obtain⟨φ,hm,hdom,hrep,henv,hdef,hsize⟩:=hst;have hfrN:∀n∈f.N,φ n=D:=λn hn=>by
  cases c:φ n with
  |none=>rfl
  |some k=>
   rcases hdom n k c with h|⟨j,oj,fj,hSj,hj,hnj⟩
   .rw[hfr i o f hf n hn]at h;cases h
   .have hji:j≠i:=by intro h;subst h;exact bZ hSj (by simp only[hnf];simp)
    rcases ca j i with h|h
    .exact bZ hn (ni.names j i oj fj o f h hj hf n hnj)
    .exact bZ hnj (ni.names i j o f oj fj (by omega) hf hj n hn)
 have hdsz:∀d,o.dst=M d->d<a.tmps.size:=λd hd=>by rw[hsize];exact hsz i o ho d hd
 have main:∀(v:Value) (φ':PM) (w':World),ji φ φ' (Co (λj=>listed.getD j af) 0 l h0) (eV (Co (λj=>listed.getD j af) 0 l h0) f.wr f.nw) w w'->
  (∀i k,φ' i=M k->φ i=M k\/i∈f.N)->re φ' E (eV (Co (λj=>listed.getD j af) 0 l h0) f.wr f.nw) w'->
  cN φ' (tot E φ' (eV (Co (λj=>listed.getD j af) 0 l h0) f.wr f.nw)) w' f.val v->K (a.put o.dst v) w':=by
  intro v φ' w' m1 d1 r1 v1;refine hK _ _ ⟨φ',?_,?_,?_,?_,?_,?_⟩
  .rw[L];exact hm.trans m1
  .intro i' k h;rcases d1 i' k h with h|h
   .rcases hdom i' k h with h|⟨j,oj,fj,hSj,hj,hnj⟩
    .exact .inl h
    .refine .inr ⟨j,oj,fj,?_,hj,hnj⟩;show (listed.setIfInBounds i J).getD j af=J;rw[q j];split
     .rfl
     .exact hSj
   .exact .inr ⟨i,o,f,(q i).trans (by simp),hf,h⟩
  .rw[L];exact r1
  .rw[L];intro t x c;rw[hE' t]at c;rw[Iu hdsz];by_cases hd:o.dst=M t
   .rw[aC hd]at c ⊢;cases c;exact v1
   .rw[ax hd]at c ⊢;exact m1.keep (henv t x c)
  .rw[Iv];exact hdef
  .rw[Qs];exact hsize
 have hstep:=hc.step 0 i o f hf;have hrun:gP P o (Li (λj=>decide (j<0+i)) 0 l e0) (Co (λj=>decide (j<0+i)) 0 l h0) f->o.wp P a w K Q:=by
  intro ht;refine P3 ?_ (ht φ E (Co (λj=>listed.getD j af) 0 l h0) w a (λt h=>hhL t (.inl h)) (λt h=>hhL t (.inr h)) ?_ hrep hfrN)
  .rintro a' w' ⟨v,φ',rfl,m1,d1,r1,v1⟩;exact main v φ' w' m1 d1 r1 v1
  .intro t ht' y hy;refine henv t y ?_;rw[heL t (lA _ (List.mem_filterMap.2 ⟨.tmp t,by simpa using ht',rfl⟩))];exact hy
 have hyield:∀(j t:Nat) (want b:Bool),o.guard=M (j,want)->(ops[j]?).bind (·.dst)=M t->Li (λj=>decide (j<0+i)) 0 l e0 t=M (.f (.raw (.bool b)))->iS o (yielded ops a.tmps)=(b==want):=by
  intro j t want b hg hj he;rw[<- heL t (nP _ (by rw[hg];simp[hj]))]at he;have h1:=henv t _ he;have h2:a.tmps.getD t undef= .bool b:=by
   generalize U:a.tmps.getD t undef=z at h1;cases h1 with
   |f h=>cases h;rfl
  have Z:a.tmps[t]? =M (.bool b):=by
   rw[gL]at h2;cases U:a.tmps[t]? with
   |none=>rw[U]at h2;simp[undef]at h2
   |some z=>rw[U]at h2;simp at h2;rw[h2]
  unfold iS yielded;rw[hg];simp[hj,Z]
 unfold wpOp;simp only[ho];cases hstep with
 |run hg ht=>
  rw[aC (by unfold iS;rw[hg])];exact .inl (hrun ht)
 |runG j t want hg hj he ht=>
  rw[aC (by rw[hyield j t want want hg hj he];simp)];exact .inl (hrun ht)
 |skip j t want hg hj v he hv hf'=>
  have hnw:iS o (yielded ops a.tmps)=af:=by
   rw[<- heL t (nP _ (by rw[hg];simp[hj]))]at he;have h1:=henv t _ he;have h2:a.tmps.getD t undef=v:=by
    generalize a.tmps.getD t undef=z at h1;cases h1 with
    |f h=>cases h;rfl
   unfold iS yielded;rw[hg];simp only[hj,aF];rw[gL]at h2;cases U:a.tmps[t]? with
   |none=>simp
   |some z=>
    rw[U]at h2;simp at h2;subst h2;cases z<;>simp at hv ⊢;exact hv
  rw[ax (by rw[hnw];simp)];subst hf';have hu:eV (Co (λj=>listed.getD j af) 0 l h0) rX.wr rX.nw=Co (λj=>listed.getD j af) 0 l h0:=by
   funext t;simp[eV,rX]
  refine main undef φ w ?_ (λ_ _ h=>.inl h) ?_ ?_
  .rw[hu];exact ji.refl _ _ _
  .rw[hu];exact hrep
  .exact .f (.raw _)
theorem YN {l:θ}:∀{i:Nat},l[i]? =M af->(l.set i J).countP id=l.countP id+1:=by
 induction l with
 |nil=>intro i h;simp at h
 |cons b l a=>
  intro i h;cases i with
  |zero=>simp at h;subst h;simp
  |succ i=>
   simp only[List.set_cons_succ,List.countP_cons];rw[a (by simpa using h)];omega
theorem Py {l:θ} (h:l.length<=l.countP id):∀(j:Nat),j<l.length->l[j]? =M J:=by
 have h1:l.countP id=l.length:=Nat.le_antisymm List.countP_le_length h;rw[List.countP_eq_length]at h1;intro j hj;rw[ay hj];simpa using h1 _ (uY hj)
theorem V2 {ops:Array Oper} {l:Y (Oper×Bz)} (c:NIP ops l) {listed:Array Bool} (hs:listed.size=ops.size) (hr:HB .any ops listed=[]):
 ∀(n j:Nat),j<n->j<ops.size->listed.getD j af=J:=by
 intro n;induction n with
 |zero=>intro j h;omega
 |succ n q=>
  intro j hj hjs;cases a:listed.getD j af with
  |true=>rfl
  |false=>
   exfalso;have hmem:j∈HB .any ops listed:=by
    refine mem_ready.2 ⟨?_,ops[j],iv hjs,λe he hb=>?_⟩
    .have:j<listed.size:=by omega
     simp[this]at a ⊢;exact a
    .have h1:=c.edge j _ (iv hjs) e he hb;exact q e.on (by omega) (by omega)
   rw[hr]at hmem;cases hmem
theorem Nw {P:Program} {ops:Array Oper} {l:Y (Oper×Bz)} {e0 e':EF} {h0 h':HF} {φ0:PM} {E:Nat->Prop} {w0:World} {a0:Act}
 (hl:l.map (·.1)=ops.toList) (hc:Ac P ops l e0 h0 e' h') (q:NIP ops l) (hfr:∀(j:Nat) o f,l[j]? =M (o,f)->∀n∈f.N,φ0 n=D)
 (hsz:∀(j:Nat) o,ops[j]? =M o->∀d,o.dst=M d->d<a0.tmps.size) {Q:Exit->Act->World->Prop}
 (z:∀a w,StP φ0 E e0 h0 w0 a0 l (λ_=>J) a w->Q .normal a w):
 ∀(fuel:Nat) (listed:Array Bool) (a:Act) (w:World),listed.size=ops.size->FC ops listed->ops.size<=fuel+listed.toList.countP id->
  StP φ0 E e0 h0 w0 a0 l (λj=>listed.getD j af) a w->wpAny P .any ops Q fuel listed a w:=by
 have hlen:l.length=ops.size:=by have:=gR ai hl;simpa using this
 have fin:∀(listed:Array Bool) (a:Act) (w:World),(∀j,j<ops.size->listed.getD j af=J)->StP φ0 E e0 h0 w0 a0 l (λj=>listed.getD j af) a w->Q .normal a w:=by
  intro listed a w hall hst;refine z a w ?_;have h1:=hc.final 0 (λj=>listed.getD j af) (λj hj=>by simp only[bI];exact hall j (by omega));have h2:=hc.final 0 (λ_=>J) (λ_ _=>rfl);unfold StP at hst ⊢;rw[h1.1,h1.2]at hst;rw[h2.1,h2.2];obtain⟨φ,m,d,r⟩:=hst;refine ⟨φ,m,λi k h=>?_,r⟩;rcases d i k h with h|⟨j,o,f,_,hj,hn⟩
  .exact .inl h
  .exact .inr ⟨j,o,f,rfl,hj,hn⟩
 intro fuel;induction fuel with
 |zero=>
  intro listed a w hs hcl hcnt hst;have hall:∀j,j<ops.size->listed.getD j af=J:=λj hj=>by
   have:=Py (l:=listed.toList) (by simp only[iF];omega) j (by simp only[iF];omega);rw[cz]at this;rw[gL,this];rfl
  refine ⟨?_,fin listed a w hall hst⟩;cases hr:HB .any ops listed with
  |nil=>rfl
  |cons i r=>
   have hi:i∈HB .any ops listed:=by rw[hr];simp
   obtain⟨hun,o,c,_⟩:=mem_ready.1 hi;have hnf:=(sX hun).1;rw[hall i (cC.1 c).1]at hnf;cases hnf
 |succ fuel s=>
  intro listed a w hs hcl hcnt hst;refine ⟨λhr=>fin listed a w (λj hj=>V2 q hs hr (j+1) j (by omega) hj) hst,λi hi=>?_⟩;obtain⟨hun,o,c,hdeps⟩:=mem_ready.1 hi;obtain⟨hnf,hlt⟩:=sX hun;refine aa8 hl hc q hfr hsz hcl hi (λa' w' h=>s _ a' w' ?_ ?_ ?_ h) hst
  .simpa using hs
  .intro j oj hoj hj e he hb;by_cases hji:i=j
   .subst hji;rw[c]at hoj;cases hoj;exact getD_set_true (hdeps e he hb)
   .rw[getD_set_ne af hji]at hj;exact getD_set_true (hcl j oj hoj hj e he hb)
  .have h1:listed.toList[i]? =M af:=by
    rw[cz,iv hlt];simp[hlt]at hnf;rw[hnf]
   rw[Array.toList_setIfInBounds,YN h1];omega
def ap6 (φ0:PM) (E:Nat->Prop) (e':EF) (h0 h':HF) (N:ι) (w0:World) (a0:Act) (a:Act) (w:World):Prop:=
 ∃φ,ji φ0 φ h0 h' w0 w/\(∀i k,φ i=M k->φ0 i=M k\/i∈N)/\re φ E h' w/\NF φ (tot E φ h') w e' a/\a.defers=a0.defers/\a.tmps.size=a0.tmps.size
theorem ji.drew {φ:PM} {h:HF} (w:World):ji φ φ h h w {w with drawn:=w.drawn+1}:=
 ⟨λ_ _ h=>h,⟨rfl,rfl,rfl,bP _,λ_ _ _=>rfl,λ_ _=>rfl⟩,λ_ _ h=>h⟩
theorem re.moved {φ:PM} {E:Nat->Prop} {h:HF} {w w':World} (r:re φ E h w) (m:ji φ φ h h w w') (hk:∀k,own φ h k->w'.heap[k]? =w.heap[k]?):re φ E h w':=
 ⟨r.inj,λi b hb=>by
   obtain⟨k,h1,h2,o,c,a⟩:=r.at_ i b hb;exact⟨k,h1,h2,o,by rw[hk k ⟨i,b,hb,h1⟩];exact c,a.mono λ_ _ h=>m.keep h⟩,λk hk=>dD (r.el k hk) m.ext.size,
   λg cells hg=>m.keepF (r.gl g cells hg)⟩
theorem Qq {P:Program} {ops:Array Oper} {l:Y (Oper×Bz)} {e0 e':EF} {h0 h':HF} {φ0:PM} {E:Nat->Prop} {w0:World} {a0:Act} {id:Nat} {draw:Bool}
 (hm:P.follows .mixedOrders=J) (hl:l.map (·.1)=ops.toList) (hc:Ac P ops l e0 h0 e' h') (c:NIP ops l) (hfr:∀n∈l.flatMap (λp=>p.2.N),φ0 n=D)
 (hsz:∀(j:Nat) o,ops[j]? =M o->∀d,o.dst=M d->d<a0.tmps.size) (hrep:re φ0 E h0 w0) (henv:NF φ0 (tot E φ0 h0) w0 e0 a0) {Q:Exit->Act->World->Prop}
 (A:∀a w,ap6 φ0 E e' h0 h' (l.flatMap (λp=>p.2.N)) w0 a0 a w->Q .normal a w):(Code.region id ops draw).wp P Q a0 w0:=by
 have hfr':∀(j:Nat) o f,l[j]? =M (o,f)->∀n∈f.N,φ0 n=D:=λj o f hj n hn=>hfr n (uX.2 ⟨(o,f),aX hj,hn⟩)
 have fin:∀a w,StP φ0 E e0 h0 w0 a0 l (λ_=>J) a w->Q .normal a w:=by
  rintro a w ⟨φ,m,d,r,en,L,sz⟩;have h2:=hc.final 0 (λ_=>J) (λ_ _=>rfl);rw[h2.2]at m r en;rw[h2.1]at en;refine A a w ⟨φ,m,λi k h=>?_,r,en,L,sz⟩;rcases d i k h with h|⟨j,o,f,_,hj,hn⟩
  .exact .inl h
  .exact .inr (uX.2 ⟨(o,f),aX hj,hn⟩)
 have st0:∀(w:World),ji φ0 φ0 h0 h0 w0 w->re φ0 E h0 w->StP φ0 E e0 h0 w0 a0 l (λj=>(oI ops.size af).getD j af) a0 w:=by
  intro w m r;have e1:(λj=>(oI ops.size af).getD j af)=λ_=>af:=by
   funext j;rw[gL,Array.getElem?_replicate];split<;>rfl
  rw[e1];have e2:Li (λ_=>af) 0 l e0=e0:=by funext t;rw[CC];intros;rfl
  have e3:Co (λ_=>af) 0 l h0=h0:=by funext t;rw[CA];intros;rfl
  refine ⟨φ0,by rw[e3];exact m,λ_ _ h=>.inl h,by rw[e3];exact r,?_,rfl,rfl⟩;rw[e2,e3];exact λt x z=>m.keep (henv t x z)
 have cl0:FC ops (oI ops.size af):=by
  intro j o U hj;rw[gL,Array.getElem?_replicate]at hj;split at hj<;>simp at hj
 cases draw with
 |true=>
  refine wp_region_any hm ?_;exact Nw hl hc c hfr' hsz fin ops.size _ a0 _ (by simp) cl0 (by omega) (st0 _ (ji.drew w0) (hrep.moved (ji.drew w0) λ_ _=>rfl))
 |false=>
  have hany:=Nw (E:=E) (w0:=w0) hl hc c hfr' hsz fin ops.size _ a0 w0 (by simp) cl0 (by omega) (st0 _ (ji.refl _ _ _) hrep);refine wp_region ?_;have key:∀(m k:Nat) (listed:Array Bool) (a:Act) (w:World),k+m=ops.size->listed.size=ops.size->(∀j,j<k->listed.getD j af=J)->(∀j,k<=j->j<ops.size->listed.getD j J=af)->
   wpAny P .any ops Q m listed a w->wpOps P ops Q (List.range' k m) a w:=by
   intro m;induction m with
   |zero=>intro k listed a w hk hs h1 h2 h;simpa[wpOps] using h.2
   |succ m s=>
    intro k listed a w hk hs h1 h2 h;rw[List.range'_succ,wpOps_cons];have hkr:k∈HB .any ops listed:=by
     refine mem_ready.2 ⟨h2 k (bP _) (by omega),ops[k]'(by omega),iv (by omega),λe he hb=>?_⟩;exact h1 _ (c.edge k _ (iv (by omega)) e he hb)
    refine wpOp_mono (λa' w' h'=>s (k+1) (listed.setIfInBounds k J) a' w' (by omega) (by simpa using hs) ?_ ?_ h') (h.2 k hkr)
    .intro j hj;by_cases hjk:k=j
     .subst hjk;simp[show k<listed.size by omega]
     .rw[getD_set_ne af hjk];exact h1 j (by omega)
    .intro j hj q;rw[getD_set_ne J (by omega)];exact h2 j (by omega) q
  have:=key ops.size 0 (oI ops.size af) a0 w0 (by omega) (by simp) (by intro j hj;omega) (by
   intro j _ hj;rw[gL,Array.getElem?_replicate,aC hj];rfl) hany
  rwa [List.range_eq_range']
inductive PT (α:Type) where
 |leaf
 |node (v:Option α) (l r:PT α)
namespace PT
variable {α:Type}
def get:PT α->Nat->I α
 |leaf,_=>D
 |node v l r,n=>match n with
  |0=>v
  |m+1=>if aA (m%2) 0 then get l (m/2) else get r (m/2)
def N3:Nat->PT α->Nat->I α->PT α
 |0,t,_,_=>t
 |k+1,t,n,x=>match t with
  |leaf=>(match n with
   |0=>node x leaf leaf
   |m+1=>if aA (m%2) 0 then node D (N3 k leaf (m/2) x) leaf else node D leaf (N3 k leaf (m/2) x))
  |node v l r=>(match n with
   |0=>node x l r
   |m+1=>if aA (m%2) 0 then node v (N3 k l (m/2) x) r else node v l (N3 k r (m/2) x))
def set (t:PT α) (n:Nat) (x:I α):PT α:=N3 (n+1) t n x
theorem zw:∀(k:Nat) (t:PT α) (n:Nat) (x:I α),n<k->∀i,(N3 k t n x).get i=if i=n then x else t.get i
 |0,_,_,_,h,_=>bZ h (xj _)
 |k+1,t,n,x,h,i=>by
  cases n with
  |zero=>
   cases t<;>cases i<;>simp[N3,get]
  |succ m=>
   have hm:m/2<k:=by have:=Nat.div_le_self m 2;omega
   cases t with
   |leaf=>
    simp only[N3];cases hb:aA (m%2) 0 with
    |true=>
     have c:m%2=0:=ar hb;simp only[bG];cases i with
     |zero=>simp[get]
     |succ j=>
      simp only[get];cases hj:aA (j%2) 0 with
      |true=>
       have a:j%2=0:=ar hj;simp only[bG];rw[zw k _ _ _ hm];by_cases he:j/2=m/2
       .rw[aC he,aC (by omega)]
       .rw[ax he,ax (by omega)];rfl
      |false=>
       have a:¬j%2=0:=im hj;simp only[ci,dP];rw[ax (by omega)]
    |false=>
     have c:¬m%2=0:=im hb;simp only[ci,dP];cases i with
     |zero=>simp[get]
     |succ j=>
      simp only[get];cases hj:aA (j%2) 0 with
      |true=>
       have a:j%2=0:=ar hj;simp only[bG];rw[ax (by omega)]
      |false=>
       have a:¬j%2=0:=im hj;simp only[ci,dP];rw[zw k _ _ _ hm];by_cases he:j/2=m/2
       .rw[aC he,aC (by omega)]
       .rw[ax he,ax (by omega)];rfl
   |node v l r=>
    simp only[N3];cases hb:aA (m%2) 0 with
    |true=>
     have c:m%2=0:=ar hb;simp only[bG];cases i with
     |zero=>simp[get]
     |succ j=>
      simp only[get];cases hj:aA (j%2) 0 with
      |true=>
       have a:j%2=0:=ar hj;simp only[bG];rw[zw k _ _ _ hm];by_cases he:j/2=m/2
       .rw[aC he,aC (by omega)]
       .rw[ax he,ax (by omega)]
      |false=>
       have a:¬j%2=0:=im hj;simp only[ci,dP];rw[ax (by omega)]
    |false=>
     have c:¬m%2=0:=im hb;simp only[ci,dP];cases i with
     |zero=>simp[get]
     |succ j=>
      simp only[get];cases hj:aA (j%2) 0 with
      |true=>
       have a:j%2=0:=ar hj;simp only[bG];rw[ax (by omega)]
      |false=>
       have a:¬j%2=0:=im hj;simp only[ci,dP];rw[zw k _ _ _ hm];by_cases he:j/2=m/2
       .rw[aC he,aC (by omega)]
       .rw[ax he,ax (by omega)]
theorem get_set (t:PT α) (n:Nat) (x:I α) (i:Nat):(t.set n x).get i=if i=n then x else t.get i:=zw (n+1) t n x (by omega) i
def mask {β:Type}:PT α->PT β->PT α
 |leaf,_=>leaf
 |node _ _ _,leaf=>leaf
 |node v l r,node u c a=>node (match u with|some _=>v|none=>D) (mask l c) (mask r a)
def mk:I α->PT α->PT α->PT α
 |none,leaf,leaf=>leaf
 |v,l,r=>node v l r
def only (m:Nat):Nat->Nat->PT α->PT α
 |_,_,leaf=>leaf
 |a,b,node v l r=>mk (if aM m b then v else D) (only m (2*a) (a+b) l) (only m (2*a) (2*a+b) r)
def exc (m:Nat):Nat->Nat->PT α->PT α
 |_,_,leaf=>leaf
 |a,b,node v l r=>mk (if aM m b then D else v) (exc m (2*a) (a+b) l) (exc m (2*a) (2*a+b) r)
def merge (m:Nat):Nat->Nat->PT α->PT α->PT α
 |a,b,leaf,t=>only m a b t
 |a,b,node v l r,leaf=>exc m a b (node v l r)
 |a,b,node v l r,node c s q=>mk (if aM m b then c else v) (merge m (2*a) (a+b) l s) (merge m (2*a) (2*a+b) r q)
def all (p:Nat->α->Bool):Nat->Nat->PT α->Bool
 |_,_,leaf=>J
 |a,b,node v l r=>(match v with|some x=>p b x|none=>J)&&all p (2*a) (a+b) l&&all p (2*a) (2*a+b) r
theorem get_all (p:Nat->α->Bool):∀(t:PT α) (a b i:Nat) (x:α),all p a b t=J->t.get i=M x->p (a*i+b) x=J
 |leaf,_,_,_,_,_,h=>by simp[get]at h
 |node v l r,a,b,0,x,h,c=>by
  simp only[get]at c;subst c;simp only[all,al]at h;rw[Nat.mul_zero,bI];exact h.1.1
 |node v l r,a,b,j+1,x,h,c=>by
  simp only[all,al]at h;simp only[get]at c;cases hj:aA (j%2) 0 with
  |true=>
   have q:j%2=0:=ar hj;simp only[hj,bG]at c;have key:=get_all p l _ _ _ x h.1.2 c;have:2*a*(j/2)+(a+b)=a*(j+1)+b:=by
    have e:j=2*(j/2):=by omega
    calc 2*a*(j/2)+(a+b)=a*(2*(j/2))+a+b:=by rw[HE 2 a,Nat.mul_assoc];omega
     _=a*(j+1)+b:=by rw[<- e,Nat.mul_add];omega
   rw[this]at key;exact key
  |false=>
   have q:¬j%2=0:=im hj;simp only[hj,ci,dP]at c;have key:=get_all p r _ _ _ x h.2 c;have:2*a*(j/2)+(2*a+b)=a*(j+1)+b:=by
    have e:j=2*(j/2)+1:=by omega
    have h2:a*(j+1)=a*(2*(j/2))+2*a:=by
     calc a*(j+1)=a*(2*(j/2)+2):=by rw[show j+1=2*(j/2)+2 from by omega]
      _=a*(2*(j/2))+2*a:=by rw[Nat.mul_add];omega
    have s:2*a*(j/2)=a*(2*(j/2)):=by rw[HE 2 a,Nat.mul_assoc]
    omega
   rw[this]at key;exact key
def dom:Nat->Nat->PT α->Nat->Nat
 |_,_,leaf,acc=>acc
 |a,b,node v l r,acc=>dom (2*a) (a+b) l (dom (2*a) (2*a+b) r (match v with|some _=>acc|||(1<<<b)|none=>acc))
def emp:PT α:=leaf
end PT
abbrev Ab:=PT AV
abbrev oq:=PT vT
abbrev NW:=Y (Nat×vT)
def Ab.put (e:Ab):I Nat->AV->Ab
 |none,_=>e
 |some d,x=>e.set d (M x)
def jr:NW->HF
 |[],_=>D
 |(s,x)::r,t=>if aA s t then M x else jr r t
theorem Z' (e:Ab) (d:I Nat) (x:AV):CL e.get d x=(e.put d x).get:=by
 funext t;cases d with
 |none=>simp[CL,Ab.put]
 |some d=>
  simp only[CL,Ab.put,PT.get_set,ah];by_cases h:d=t
  .simp[h]
  .rw[ax h,ax (λe=>h e.symm)]
def H7 (acc:ι) (s:Nat) (e:Edge):Nat:=if Ad .any e then (s|||2^e.on)|||acc.getD e.on 0 else s
def KJ:Y Oper->ι->ι
 |[],acc=>acc
 |o::r,acc=>KJ r (acc++[o.after.toList.foldl (H7 acc) 0])
theorem KK {ops:Array Oper} {o:Oper} {k:Nat} {acc:ι} (c:ops[k]? =M o) (q:∀(j:Nat) B,acc[j]? =M B->∀i,B.testBit i=J->Bef ops j i):
 ∀(es:Y Edge) (s:Nat),(∀e∈es,e∈o.after)->(∀i,s.testBit i=J->Bef ops k i)->∀i,(es.foldl (H7 acc) s).testBit i=J->Bef ops k i
 |[],s,_,hs,i,hi=>hs i hi
 |e::r,s,he,hs,i,hi=>by
  refine KK c q r (H7 acc s e) (λe' h'=>he e' (bV _ h')) (λi hi=>?_) i hi;unfold H7 at hi;split at hi
  .rename_i hb;rw[bp,bp,jb,jb]at hi;rcases hi with (hi|hi)|hi
   .exact hs i hi
   .rw[Nat.testBit_two_pow]at hi;have:e.on=i:=by simpa using hi
    subst this;exact .one c (he e (cQ ..)) hb
   .refine .more c (he e (cQ ..)) hb ?_;rw[au]at hi;cases a:acc[e.on]? with
    |none=>rw[a]at hi;simp at hi
    |some C=>rw[a]at hi;exact q _ C a i hi
  .exact hs i hi
theorem Nv {ops:Array Oper}:∀(rest:Y Oper) (acc:ι),(∀(j:Nat),∀o,rest[j]? =M o->ops[acc.length+j]? =M o)->
 (∀(j:Nat) B,acc[j]? =M B->∀i,B.testBit i=J->Bef ops j i)->∀(j:Nat) B,(KJ rest acc)[j]? =M B->∀i,B.testBit i=J->Bef ops j i
 |[],acc,_,a=>a
 |o::r,acc,c,a=>by
  refine Nv r _ (λj o' hj=>?_) ?_
  .rw[be,dB,show acc.length+1+j=acc.length+(j+1) from by omega];exact c (j+1) o' (by simpa using hj)
  .intro j B hj i hi;rcases ca j acc.length with h|h
   .rw[bQ h]at hj;exact a j B hj i hi
   .rw[cf h]at hj;have q:j-acc.length=0:=by
     rcases Lb (j-acc.length) with h0|h0
     .exact h0
     .rw[bE (by simp;omega)]at hj;cases hj
    have hjl:j=acc.length:=by omega
    subst hjl;simp at hj;subst hj;have hoo:ops[acc.length]? =M o:=by simpa using c 0 o rfl
    rw[<- Array.foldl_toList]at hi;exact KK hoo a _ 0 (λe he=>by simpa using he) (λi hi=>by simp at hi) i hi
inductive Zg where
 |mv (x:Operand)
 |pick (c a b:Operand)
 |alloc (ty:TypeId) (z:ξ)
 |box (ty:TypeId) (x:Operand)
 |build (z:ξ) (parts:List (Nat×Nat×Operand))
 |bsl (ty:TypeId) (sz len:Nat) (z:ξ) (parts:List (Nat×Nat×Operand))
 |load (sz:Nat) (ag:Bool) (x:Operand)
 |store (sz:Nat) (x v:Operand)
 |nilc (x:Operand)
 |bin (op:BinOp) (x y:Operand)
 |eqs (neg:Bool) (ds:List TypeDesc) (x y:Operand)
 |isnil (neg:Bool) (x:Operand)
 |eqb (neg:Bool) (x y:Operand)
 |not (x:Operand)
 |conv (k:IntKind) (x:Operand)
 |mksl (ty:TypeId) (sz bytes:Nat) (z:ξ) (l c:Operand)
 |slc (sz:Nat) (x:Operand) (lo hi mx:Option Operand)
 |fad (off:Nat) (x:Operand)
 |fld (off sz:Nat) (ag:Bool) (x:Operand)
 |iad (sz:Nat) (x i:Operand)
 |iada (n sz:Nat) (x i:Operand)
 |idx (n sz:Nat) (ag:Bool) (x i:Operand)
 |ext (x:Operand) (i:Nat)
 |len (x:Operand)
 |lens (x:Operand)
 |lenm (x:Operand)
 |max (x y:Operand)
 |min (x y:Operand)
 |sidx (x i:Operand)
 |app (ty:TypeId) (sz bytes:Nat) (s x:Operand)
 |copy (sz:Nat) (d x:Operand)
 |clr (sz:Nat) (z:ξ) (x:Operand)
 |mkf (f:FuncId) (caps:List Operand)
 |mkm
 |lku (str ok:Bool) (z:Value) (x k:Operand)
 |mup (str:Bool) (x k v:Operand)
 |rng (x:Operand)
 |nxt (x:Operand)
 |bad
inductive SI where
 |op (s:Zg)
 |call (f:FuncId) (args:List Operand)
 |callv (x:Operand) (args:List Operand)
def Ur (t:Nat):ι->Bool
 |[]=>af
 |x::r=>aA x t||Ur t r
def KE:ξ->Bool
 |[]=>J
 |v::r=>v.oneCell'&&KE r
def Fm:Value->AV
 |.agg vs=>if KE vs.toList then .agg (vs.toList.map λv=>.f (.raw v)) else .f (.raw (.agg vs))
 |v=>.f (.raw v)
def mT (e:Ab):Operand->I AV
 |.tmp t=>e.get t
 |.const v=>M (Fm v)
 |.func g=>M (.clo g [])
 |.global g=>match G g with|some cells=>M (.f (.ptr cells 0))|none=>D
def Xj (e:Ab):Y Operand->I (Y AV)
 |[]=>M []
 |x::xs=>match mT e x with|some y=>(match Xj e xs with|some a=>M (y::a)|none=>D)|none=>D
structure Ck where
 val:AV
 rd:ι
 wr:ι
 nw:NW
 N:ι
def Ck.eff (r:Ck):Bz:=⟨r.val,r.rd,r.wr,jr r.nw,r.N⟩
def rv (x:AV):I Ck:=M ⟨x,[],[],[],[]⟩
def raw (v:Value):AV:=.f (.raw v)
def pkV (ok:Bool) (v:AV) (b:Bool):AV:=match ok with|true=>.tup [v,raw (.bool b)]|false=>v
def xU:Y AV->I (Y FV)
 |[]=>M []
 |.f x::r=>match xU r with|some l=>M (x::l)|none=>D
 |_::_=>D
def pA (l:Y AV):BC:=match xU l with|some fs=>.fz fs|none=>.mx l
def MN (l:Y AV):AV:=match xU l with|some fs=>.f (.agg fs)|none=>.agg l
def splice {α:Type} (l:Y α) (off:Nat) (vs:Y α):Y α:=l.take off++vs++l.drop (off+vs.length)
def BC.toMx:BC->Y AV
 |.fz l=>l.map .f
 |.mx l=>l
 |_=>[]
def gM:Y AV->Bool
 |[]=>J
 |x::r=>x.isCell&&gM r
def BC.put (c:BC) (off:Nat) (vs:Y AV):I BC:=
 if c.isCells&&eO (off+vs.length) c.len&&gM vs then
  match c,xU vs with
  |.fz l,M a=>M (.fz (splice l off a))
  |c,_=>M (.mx (splice c.toMx off vs))
 else D
def BC.sub? (c:BC) (off sz:Nat):Bool->I AV
 |false=>match sz with|1=>c.get off|_=>D
 |true=>match c with
  |.fz l=>if eO (off+sz) l.length then M (.f (.agg ((l.drop off).take sz))) else D
  |.mx l=>if eO (off+sz) l.length then M (.agg ((l.drop off).take sz)) else D
  |_=>D
def AV.cs:AV->Y AV
 |.agg l=>l
 |.f (.agg l)=>l.map .f
 |x=>[x]
def D6 (h:oq) (sz:Nat) (ag:Bool):AV->I Ck
 |.ptr id off=>match h.get id with
  |some b=>(match b.c.sub? off sz ag with|some v=>M ⟨v,[id],[],[],[]⟩|none=>D)
  |none=>D
 |.f (.ptr cells off)=>(match (BC.fz cells).sub? off sz ag with|some v=>rv v|none=>D)
 |_=>D
def KL (h:oq) (sz:Nat) (v:AV):AV->I Ck
 |.ptr id off=>match h.get id with
  |some b=>if v.cs.length==sz then (match b.c.put off v.cs with|some c=>M ⟨raw undef,[id],[id],[(id,⟨b.ty,c⟩)],[]⟩|none=>D) else D
  |none=>D
 |_=>D
def zE (cells:Y AV) (e:Ab):Y (Nat×Nat×Operand)->I (Y AV)
 |[]=>M cells
 |(off,sz,x)::r=>match mT e x with
  |some v=>if v.cs.length==sz&&eO (off+sz) cells.length&&gM v.cs then zE (splice cells off v.cs) e r else D
  |none=>D
def cZ (a b:Int):Bool:=decide (a<=b)
def fJ (a b:Int):Bool:=decide (a<b)
def Mu (k:IntKind) (n:Int):Int:=
 match k with
 |.i64=>if cZ (-9223372036854775808) n&&cZ n 9223372036854775807 then n else o6 .i64 n
 |.u8=>if cZ 0 n&&cZ n 255 then n else o6 .u8 n
 |k=>o6 k n
def nok:Int->Bool
 |.ofNat k=>aA k k
 |.negSucc k=>aA k k
theorem amg (n:Int):nok n=J:=by cases n<;>exact rV _
def bl (k:IntKind) (n:Int):Int:=bif nok n then Mu k n else 0
theorem HH (k:IntKind) (n:Int):bl k n=Mu k n:=by unfold bl;rw[amg];rfl
def sk (a b:ByteArray):Bool:=a.data.toList==b.data.toList
def tP (op:BinOp):Value->Value->I Value
 |.int k a,.int k' b=>if k==k' then
   match op with
   |.add=>M (.int k (bl k (a+b)))
   |.sub=>M (.int k (bl k (a-b)))
   |.mul=>M (.int k (bl k (a*b)))
   |.rem=>if b==0 then D else M (.int k (a.tmod b))
   |.quo=>if b==0 then D else M (.int k (bl k (a.tdiv b)))
   |.eql=>M (.bool (a==b))
   |.neq=>M (.bool (a !=b))
   |.lss=>M (.bool (fJ a b))
   |.leq=>M (.bool (cZ a b))
   |.gtr=>M (.bool (fJ b a))
   |.geq=>M (.bool (cZ b a))
   |_=>D
  else D
 |.string a,.string b=>match op with
   |.eql=>M (.bool (sk a b))
   |.neq=>M (.bool !(sk a b))
   |_=>D
 |_,_=>D
def xK:TypeDesc->FV->FV->I Bool
 |.int _,.raw (.int k a),.raw (.int k' b)=>if k==k' then M (a==b) else D
 |.bool,.raw (.bool a),.raw (.bool b)=>M (a==b)
 |.string,.raw (.string a),.raw (.string b)=>M (sk a b)
 |_,_,_=>D
def pe:Y TypeDesc->Y FV->Y FV->I Bool
 |[],[],[]=>M J
 |d::ds,x::xs,y::a=>match xK d x y with
  |some J=>pe ds xs a
  |some af=>M af
  |none=>D
 |_,_,_=>D
def AV.row? (h:oq) (sz:Nat):AV->I (Y AV×Nat×ι)
 |.f (.sl cells n)=>if eO (n*sz) cells.length then M ((cells.take (n*sz)).map .f,n,[]) else D
 |.f (.raw (.slice D 0 0))=>M ([],0,[])
 |.emp=>M ([],0,[])
 |.row id sz' n=>if sz'==sz then (match h.get id with|some b=>if b.c.isCells&&eO (n*sz) b.c.len then M (b.c.toMx.take (n*sz),n,[id]) else D|none=>D) else D
 |.sl id off n=>match h.get id with|some b=>if b.c.isCells&&eO (off+n*sz) b.c.len then M ((b.c.toMx.drop off).take (n*sz),n,[id]) else D|none=>D
 |_=>D
def AV.slen:AV->I Nat
 |.f (.sl _ n)=>M n
 |.f (.raw (.slice _ n _))=>M n
 |.emp=>M 0
 |.row _ _ n=>M n
 |.sl _ _ n=>M n
 |_=>D
def bc (n bytes:Nat):Bool:=eO n 1099511627776&&eO (n*bytes) 1099511627776
def repl (z:ξ):Nat->Y FV
 |0=>[]
 |n+1=>z.map .raw++repl z n
def tL:Value->Bool
 |.slice D 0 0=>J
 |_=>af
def I2:AV->Bool
 |.emp=>J
 |.f (.raw v)=>tL v
 |_=>af
def tJ (k:Value):Y (Value×AV)->I (I AV)
 |[]=>M D
 |(k',v)::r=>match tP .eql k k' with
  |some (.bool J)=>M (M v)
  |some (.bool af)=>tJ k r
  |_=>D
def zh (k:Value) (v:AV):Y (Value×AV)->I (Y (Value×AV))
 |[]=>M [(k,v)]
 |(k',a)::r=>match tP .eql k k' with
  |some (.bool J)=>M ((k,v)::r)
  |some (.bool af)=>(match zh k v r with|some c=>M ((k',a)::c)|none=>D)
  |_=>D
def told (n:Int):Y (Value×AV)->I AV
 |(.int .i64 k,v)::r=>if k=n then M v else told n r
 |_=>D
def lV (n:Int) (y:AV):Y (Value×AV)->Y (Value×AV)
 |[]=>[]
 |p::r=>(p.1,match p.1 with|.int .i64 k=>if k=n then y else p.2|_=>p.2)::lV n y r
def zk:Bool->Value->Bool
 |false,.int _ _=>J
 |true,.string _=>J
 |_,_=>af
def eL (s:Zg) (e:Ab) (h:oq) (nx:Nat):I Ck:=
 match s with
 |.mv x=>match mT e x with|some v=>rv v|none=>D
 |.pick c a b=>match mT e c with
  |some (.f (.raw (.bool t)))=>(match mT e (if t then a else b) with|some v=>rv v|none=>D)
  |_=>D
 |.alloc ty z=>M ⟨.ptr nx 0,[],[nx],[(nx,⟨ty,.fz (z.map .raw)⟩)],[nx]⟩
 |.box ty x=>match mT e x with
  |some v=>if gM v.cs then M ⟨.ptr nx 0,[],[nx],[(nx,⟨ty,pA v.cs⟩)],[nx]⟩ else D
  |none=>D
 |.build z parts=>match zE (z.map raw) e parts with|some cs=>rv (MN cs)|none=>D
 |.bsl ty sz len z parts=>match zE ((repl z len).map .f) e parts with
  |some cs=>M ⟨if len=0 then .emp else .row nx sz len,[],[nx],[(nx,⟨ty,pA cs⟩)],[nx]⟩
  |none=>D
 |.load sz ag x=>match mT e x with|some p=>D6 h sz ag p|none=>D
 |.store sz x v=>match mT e x,mT e v with|some p,M y=>KL h sz y p|_,_=>D
 |.nilc x=>match mT e x with
  |some (.ptr id off)=>rv (.ptr id off)
  |some (.f (.ptr cells off))=>rv (.f (.ptr cells off))
  |some (.clo g cap)=>rv (.clo g cap)
  |_=>D
 |.bin op x y=>match mT e x,mT e y with
  |some (.f (.raw u)),M (.f (.raw v))=>(match tP op u v with|some r=>rv (raw r)|none=>D)
  |_,_=>D
 |.eqs neg ds x y=>match mT e x,mT e y with
  |some (.f (.agg a)),M (.f (.agg b))=>(match pe ds a b with|some r=>rv (raw (.bool (r !=neg)))|none=>D)
  |_,_=>D
 |.eqb neg x y=>match mT e x,mT e y with
  |some (.f (.raw (.bool a))),M (.f (.raw (.bool b)))=>rv (raw (.bool ((a==b) !=neg)))
  |_,_=>D
 |.isnil neg x=>match mT e x with
  |some (.row _ _ _)=>rv (raw (.bool neg))
  |some (.sl _ _ _)=>rv (raw (.bool neg))
  |some (.f (.sl _ (_+1)))=>rv (raw (.bool neg))
  |some (.f (.sl _ 0))=>rv .anyb
  |some .emp=>rv .anyb
  |some (.f (.raw v))=>if tL v then rv (raw (.bool !neg)) else D
  |_=>D
 |.not x=>match mT e x with|some (.f (.raw (.bool b)))=>rv (raw (.bool !b))|_=>D
 |.conv k x=>match mT e x with|some (.f (.raw (.int _ n)))=>rv (raw (.int k (bl k n)))|_=>D
 |.mksl ty sz bytes z l c=>match mT e l,mT e c with
  |some (.f (.raw (.int _ a))),M (.f (.raw (.int _ b)))=>
   if cZ 0 a&&cZ a b&&bc b.toNat bytes then M ⟨.row nx sz a.toNat,[],[nx],[(nx,⟨ty,.fz (repl z a.toNat)⟩)],[nx]⟩ else D
  |_,_=>D
 |.slc sz x lo hi mx=>match mT e x with
  |some v=>match lo,hi,mx with
   |none,M (.const (.int _ 0)),M (.const (.int _ 0))=>if v.slen.isSome then rv .emp else D
   |none,M b,D=>match v,mT e b with
    |.row id sz' n,M (.f (.raw (.int _ j)))=>if sz'==sz&&cZ 0 j&&cZ j n then (match h.get id with
     |some blk=>if blk.c.isCells&&eO (n*sz) blk.c.len then M ⟨.row nx sz j.toNat,[id],[nx,id],[(nx,⟨blk.ty,pA (blk.c.toMx.take (j.toNat*sz))⟩)],[nx]⟩ else D
     |none=>D) else D
    |.f (.sl cells n),M (.f (.raw (.int _ j)))=>if cZ 0 j&&cZ j n&&eO (n*sz) cells.length then rv (.f (.sl (cells.take (j.toNat*sz)) j.toNat)) else D
    |_,_=>D
   |some b,D,D=>match v,mT e b with
    |.row id sz' n,M (.f (.raw (.int _ j)))=>if sz'==sz&&cZ 0 j&&fJ j n then rv (.sl id (j.toNat*sz) (n-j.toNat)) else D
    |.f (.sl cells n),M (.f (.raw (.int _ j)))=>if cZ 0 j&&cZ j n&&eO (n*sz) cells.length then rv (.f (.sl ((cells.drop (j.toNat*sz)).take ((n-j.toNat)*sz)) (n-j.toNat))) else D
    |_,_=>D
   |_,_,_=>D
  |none=>D
 |.fad off x=>match mT e x with
  |some (.ptr id o)=>rv (.ptr id (o+off))
  |some (.f (.ptr cells o))=>rv (.f (.ptr cells (o+off)))
  |_=>D
 |.fld off sz ag x=>match mT e x with
  |some (.agg l)=>(match (BC.mx l).sub? off sz ag with|some v=>rv v|none=>D)
  |some (.f (.agg l))=>(match (BC.fz l).sub? off sz ag with|some v=>rv v|none=>D)
  |_=>D
 |.iad sz x i=>match mT e x,mT e i with
  |some v,M (.f (.raw (.int _ j)))=>match v with
   |.row id sz' n=>if sz'==sz&&cZ 0 j&&fJ j n then rv (.ptr id (j.toNat*sz)) else D
   |.sl id off n=>if cZ 0 j&&fJ j n then rv (.ptr id (off+j.toNat*sz)) else D
   |.f (.sl cells n)=>if cZ 0 j&&fJ j n then rv (.f (.ptr cells (j.toNat*sz))) else D
   |_=>D
  |_,_=>D
 |.iada n sz x i=>match mT e x,mT e i with
  |some v,M (.f (.raw (.int _ j)))=>if cZ 0 j&&fJ j n then (match v with
   |.ptr id off=>rv (.ptr id (off+j.toNat*sz))
   |.f (.ptr cells off)=>rv (.f (.ptr cells (off+j.toNat*sz)))
   |_=>D) else D
  |_,_=>D
 |.idx n sz ag x i=>match mT e x,mT e i with
  |some v,M (.f (.raw (.int _ j)))=>if cZ 0 j&&fJ j n then (match v with
   |.agg l=>(match (BC.mx l).sub? (j.toNat*sz) sz ag with|some v=>rv v|none=>D)
   |.f (.agg l)=>(match (BC.fz l).sub? (j.toNat*sz) sz ag with|some v=>rv v|none=>D)
   |_=>D) else D
  |_,_=>D
 |.ext x i=>match mT e x with|some (.tup l)=>(match l[i]? with|some v=>rv v|none=>D)|_=>D
 |.len x=>match mT e x with
  |some v=>(match v.slen with|some n=>rv (raw (.int .i64 n))|none=>D)
  |none=>D
 |.lens x=>match mT e x with
  |some (.f (.raw (.string s)))=>rv (raw (.int .i64 s.data.toList.length))
  |_=>D
 |.lenm x=>match mT e x with
  |some (.mp id)=>(match h.get id with|some ⟨0,.mp es⟩=>M ⟨raw (.int .i64 es.length),[id],[],[],[]⟩|_=>D)
  |_=>D
 |.max x y=>match mT e x,mT e y with
  |some (.f (.raw (.int k a))),M (.f (.raw (.int _ b)))=>rv (raw (.int k (if fJ a b then b else a)))
  |_,_=>D
 |.min x y=>match mT e x,mT e y with
  |some (.f (.raw (.int k a))),M (.f (.raw (.int _ b)))=>rv (raw (.int k (if fJ b a then b else a)))
  |_,_=>D
 |.sidx x i=>match mT e x,mT e i with
  |some (.f (.raw (.string s))),M (.f (.raw (.int _ j)))=>if cZ 0 j then (match s.data.toList[j.toNat]? with|some b=>rv (raw (.int .u8 b.toNat))|none=>D) else D
  |_,_=>D
 |.app ty sz bytes s x=>match mT e s,mT e x with
  |some b,M y=>match y.row? h sz with
   |some (src,m,rd)=>match b with
    |.row id sz' n=>match h.get id with
     |some blk=>if sz'==sz&& !(Ur id rd)&&blk.c.isCells&&eO (n*sz) blk.c.len&&blk.ty==ty&&bc (n+m) bytes then
       M ⟨.row nx sz (n+m),id::rd,[nx,id],[(nx,⟨ty,pA (blk.c.toMx.take (n*sz)++src)⟩)],[nx]⟩ else D
     |none=>D
    |b=>if I2 b&&bc m bytes then
      (if m==0 then M ⟨b,rd,[],[],[]⟩ else M ⟨.row nx sz m,rd,[nx],[(nx,⟨ty,pA src⟩)],[nx]⟩) else D
   |none=>D
  |_,_=>D
 |.copy sz d x=>match mT e d,mT e x with
  |some (.row id sz' n),M y=>(match h.get id,y.row? h sz with
   |some blk,M (src,m,rd)=>if sz'==sz&& !(Ur id rd)&&eO (n*sz) blk.c.len then
     (match blk.c.put 0 (src.take (i_ m n*sz)) with
     |some c=>M ⟨raw (.int .i64 (i_ m n)),id::rd,[id],[(id,⟨blk.ty,c⟩)],[]⟩
     |none=>D) else D
   |_,_=>D)
  |_,_=>D
 |.clr _ z x=>match mT e x with
  |some (.sl id off n)=>(match h.get id with
   |some blk=>if gx 0 n then (match blk.c.put off ((repl z n).map .f) with
    |some c=>M ⟨.tup [],[id],[id],[(id,⟨blk.ty,c⟩)],[]⟩
    |none=>D) else D
   |none=>D)
  |_=>D
 |.mkf f caps=>match Xj e caps with|some l=>rv (.clo f l)|none=>D
 |.mkm=>M ⟨.mp nx,[],[nx],[(nx,⟨0,.mp []⟩)],[nx]⟩
 |.lku str ok z x k=>match mT e x,mT e k with
  |some (.mp id),M (.f (.raw key))=>(match h.get id with
   |some ⟨0,.mp es⟩=>if zk str key then (match tJ key es with|some (M v)=>M ⟨pkV ok v J,[id],[],[],[]⟩|some D=>M ⟨pkV ok (raw z) af,[id],[],[],[]⟩|none=>D) else D
   |some ⟨_+1,.mp es⟩=>(match key with
    |.int .i64 n=>if !str&&(!ok&&tL z) then (match told n es with|some v=>M ⟨v,[id],[],[],[]⟩|none=>D) else D
    |_=>D)
   |_=>D)
  |_,_=>D
 |.mup str x k v=>match mT e x,mT e k,mT e v with
  |some (.mp id),M (.f (.raw key)),M y=>(match h.get id with
   |some ⟨0,.mp es⟩=>if zk str key then (match zh key y es with|some es'=>M ⟨raw undef,[id],[id],[(id,⟨0,.mp es'⟩)],[]⟩|none=>D) else D
   |some ⟨ty+1,.mp es⟩=>(match key with
    |.int .i64 n=>if str then D else M ⟨raw undef,[id],[id],[(id,⟨ty+1,.mp (lV n y es)⟩)],[]⟩
    |_=>D)
   |_=>D)
  |_,_,_=>D
 |.rng x=>match mT e x with
  |some (.f (.raw (.string s)))=>M ⟨.ptr nx 0,[],[nx],[(nx,⟨0,.it s 0⟩)],[nx]⟩
  |_=>D
 |.nxt x=>match mT e x with
  |some (.ptr id 0)=>(match h.get id with
   |some ⟨ty,.it s p⟩=>(match s.data.toList[p]? with
    |some b=>if gx b.toNat 128 then M ⟨.tup [raw (.bool J),raw (.int .i64 p),raw (.int .i32 b.toNat)],[id],[id],[(id,⟨ty,.it s (p+1)⟩)],[]⟩ else D
    |none=>M ⟨.tup [raw (.bool af)],[id],[id],[(id,⟨ty,.it s p⟩)],[]⟩)
   |_=>D)
  |_=>D
 |.bad=>D
structure sO where
 dst:Option Nat
 op:SI
 guard:Option (Nat×Bool)
inductive SC where
 |skip
 |reg (ops:List sO) (prs:List (Nat×Nat))
 |seq (a b:SC)
 |cond (c:Nat) (a b:SC)
 |block (id:Nat) (b:SC)
 |loop (b:SC)
 |exit (id:Nat)
 |ret
 |defer (f:FuncId) (caps:List Operand) (t:Nat)
 |bad
structure ap5 where
 val:AV
 h:oq
 nx:Nat
 wr:Nat
abbrev XP:=FuncId->Y AV->oq->Nat->I ap5
mutual
def AV.ids:AV->Nat->Nat
 |.ptr id _,acc=>acc|||(1<<<id)
 |.sl id _ _,acc=>acc|||(1<<<id)
 |.row id _ _,acc=>acc|||(1<<<id)
 |.mp id,acc=>acc|||(1<<<id)
 |.agg l,acc=>AV.idsL l acc
 |.tup l,acc=>AV.idsL l acc
 |.clo _ l,acc=>AV.idsL l acc
 |.f _,acc=>acc
 |.emp,acc=>acc
 |.anyb,acc=>acc
def AV.idsL:Y AV->Nat->Nat
 |[],acc=>acc
 |x::r,acc=>AV.idsL r (AV.ids x acc)
end
mutual
def AV.all (p:Nat->Bool):AV->Bool
 |.ptr id _=>p id
 |.sl id _ _=>p id
 |.row id _ _=>p id
 |.mp id=>p id
 |.agg l=>AV.allL p l
 |.tup l=>AV.allL p l
 |.clo _ l=>AV.allL p l
 |.f _=>J
 |.emp=>J
 |.anyb=>J
def AV.allL (p:Nat->Bool):Y AV->Bool
 |[]=>J
 |x::r=>AV.all p x&&AV.allL p r
end
def BC.ids:BC->Nat->Nat
 |.mx l,acc=>AV.idsL l acc
 |.mp es,acc=>AV.idsL (es.map (·.2)) acc
 |_,acc=>acc
def BC.all (p:Nat->Bool):BC->Bool
 |.mx l=>AV.allL p l
 |.mp es=>AV.allL p (es.map (·.2))
 |_=>J
def oq.all (p:Nat->Bool) (h:oq):Bool:=PT.all (λi b=>p i&&b.c.all p) 1 0 h
def WC:Nat->oq->Nat->Nat->Nat
 |0,_,_,Lr=>Lr
 |n+1,h,todo,Lr=>
  if aA todo 0 then Lr else
  match Nat.log2 todo with
  |id=>if aM Lr id then WC n h (todo ^^^ (1<<<id)) Lr else
   match h.get id with
   |some b=>WC n h (b.c.ids (todo ^^^ (1<<<id))) (Lr|||(1<<<id))
   |none=>WC n h (todo ^^^ (1<<<id)) Lr
section force
variable {α:Type}
def sZ (n:Nat) (k:Nat->α):α:=match n with|0=>k 0|m+1=>k (m+1)
def frcI (n:Int) (k:Int->α):α:=match n with|.ofNat m=>sZ m λm=>k (.ofNat m)|.negSucc m=>sZ m λm=>k (.negSucc m)
def frcB (b:Bool) (k:Bool->α):α:=match b with|true=>k J|false=>k af
def frcV (v:Value) (k:Value->α):α:=match v with
 |.int kd n=>frcI n λn=>k (.int kd n)
 |.bool b=>frcB b λb=>k (.bool b)
 |v=>k v
def amo (x:FV) (k:FV->α):α:=match x with
 |.raw v=>frcV v λv=>k (.raw v)
 |.ptr cells off=>sZ off λoff=>k (.ptr cells off)
 |.sl cells n=>sZ n λn=>k (.sl cells n)
 |.agg l=>k (.agg l)
def abg:Y FV->(Y FV->α)->α
 |[],k=>k []
 |x::r,k=>amo x λx=>abg r λr=>k (x::r)
def amn (x:FV) (k:FV->α):α:=match x with
 |.agg l=>abg l λl=>k (.agg l)
 |x=>amo x k
def ahq (x:AV) (k:AV->α):α:=match x with
 |.f x=>amn x λx=>k (.f x)
 |.ptr id off=>sZ id λid=>sZ off λoff=>k (.ptr id off)
 |.sl id off n=>sZ id λid=>sZ off λoff=>sZ n λn=>k (.sl id off n)
 |.row id sz n=>sZ id λid=>sZ sz λsz=>sZ n λn=>k (.row id sz n)
 |.mp id=>sZ id λid=>k (.mp id)
 |x=>k x
def Rp:Y AV->(Y AV->α)->α
 |[],k=>k []
 |x::r,k=>ahq x λx=>Rp r λr=>k (x::r)
def amp (x:AV) (k:AV->α):α:=match x with
 |.agg l=>Rp l λl=>k (.agg l)
 |.tup l=>Rp l λl=>k (.tup l)
 |.clo f l=>Rp l λl=>k (.clo f l)
 |x=>ahq x k
def frcC (c:BC) (k:BC->α):α:=match c with
 |.fz l=>abg l λl=>k (.fz l)
 |.mx l=>Rp l λl=>k (.mx l)
 |.it s p=>sZ p λp=>k (.it s p)
 |.mp es=>k (.mp es)
def Ro {β:Type}:PT β->(PT β->α)->α
 |.leaf,k=>k .leaf
 |.node v l r,k=>(match v with
  |none=>λ(k:I β->α)=>k D
  |some x=>λk=>k (M x)) λv=>Ro l λl=>Ro r λr=>k (.node v l r)
def T7 {β:Type}:Nat->PT β->Nat->I β->(PT β->α)->α
 |0,t,_,_,k=>k t
 |f+1,t,n,x,k=>match t with
  |.leaf=>(match n with
   |0=>k (.node x .leaf .leaf)
   |m+1=>if aA (m%2) 0 then sZ (m/2) λq=>T7 f .leaf q x λu=>k (.node D u .leaf) else sZ (m/2) λq=>T7 f .leaf q x λu=>k (.node D .leaf u))
  |.node v l r=>(match n with
   |0=>k (.node x l r)
   |m+1=>if aA (m%2) 0 then sZ (m/2) λq=>T7 f l q x λu=>k (.node v u r) else sZ (m/2) λq=>T7 f r q x λu=>k (.node v l u))
theorem OP {β:Type}:∀(x:PT β) (k:PT β->α),Ro x k=k x
 |.leaf,_=>rfl
 |.node v l r,k=>by cases v<;>simp only[Ro,OP l,OP r]
end force
structure IS where
 e:Ab
 h:oq
 nx:Nat
 wr:Nat
structure aib where
 val:AV
 rd:Nat
 wr:Nat
 h:oq
 nx:Nat
def bits:ι->Nat->Nat
 |[],acc=>acc
 |x::r,acc=>bits r (acc|||(1<<<x))
def aim {α:Type} (h:oq) (nw:NW):ι->(oq->α)->α
 |[],k=>k h
 |i::r,k=>match jr nw i with
  |none=>T7 (i+1) h i D λh=>aim h nw r k
  |some ⟨ty,c⟩=>frcC c λc=>T7 (i+1) h i (M ⟨ty,c⟩) λh=>aim h nw r k
def ahy (call:XP) (f:FuncId) (args:Y AV) (h:oq) (nx:Nat):I aib:=
 sZ (WC 1000000 h (AV.idsL args 0) 0) λids=>Ro (PT.only ids 1 0 h) λhc=>
 if AV.allL (gx · nx) args&&oq.all (gx · nx) hc then
  match call f args hc nx with
  |some ⟨val,h',nx',wr⟩=>amp val λval=>sZ nx' λnx'=>sZ wr λwr=>Ro (PT.merge wr 1 0 h h') λhm=>M ⟨val,ids,wr,hm,nx'⟩
  |none=>D
 else D
def opA (call:XP) (o:SI) (e:Ab) (h:oq) (nx:Nat):I aib:=
 match o with
 |.call f args=>match Xj e args with|some l=>ahy call f l h nx|none=>D
 |.callv x args=>match mT e x,Xj e args with|some (.clo f cap),M l=>ahy call f (l++cap) h nx|_,_=>D
 |.op o=>match eL o e h nx with
  |some ⟨val,rd,wr,nw,N⟩=>amp val λval=>sZ (bits rd 0) λrd=>sZ (bits wr 0) λa=>sZ (nx+N.length) λnx'=>aim h nw wr λh=>M ⟨val,rd,a,h,nx'⟩
  |none=>D
def am4 (e:Ab):I (Nat×Bool)->I Bool
 |none=>M J
 |some (t,want)=>match e.get t with
  |some (.f (.raw (.bool b)))=>M (b==want)
  |some (.f (.raw (.tuple _)))=>M af
  |_=>D
def aiy {α:Type} (e:Ab) (dst:I Nat) (v:AV) (k:Ab->α):α:=match dst with
 |none=>k e
 |some d=>T7 (d+1) e d (M v) k
structure FPm where
 rd:Nat
 wr:Nat
def Ua (call:XP):Y sO->IS->I (IS×Y FPm)
 |[],s=>M (s,[])
 |o::r,⟨e,h,nx,wr⟩=>
  match am4 e o.guard with
  |some J=>(match opA call o.op e h nx with
   |some ⟨val,rd,w,h',nx'⟩=>aiy e o.dst val λe'=>sZ (wr|||w) λwr'=>(match Ua call r ⟨e',h',nx',wr'⟩ with
    |some (s',fs)=>M (s',⟨rd,w⟩::fs)
    |none=>D)
   |none=>D)
  |some af=>aiy e o.dst (raw undef) λe'=>(match Ua call r ⟨e',h,nx,wr⟩ with
   |some (s',fs)=>M (s',⟨0,0⟩::fs)
   |none=>D)
  |none=>D
def Yt:Y FPm->Nat->I FPm
 |[],_=>D
 |f::_,0=>M f
 |_::r,n+1=>Yt r n
def DK (a b:Nat):Bool:=aA (a&&&b) 0
def FL (fs:Y FPm):Y (Nat×Nat)->Bool
 |[]=>J
 |(i,j)::r=>(match Yt fs i,Yt fs j with
  |some a,M b=>DK a.wr b.rd&&DK a.wr b.wr&&DK b.wr a.rd
  |_,_=>af)&&FL fs r
inductive Ex where
 |normal
 |exit (id:Nat)
 |ret
def ahn (body:IS->I (Ex×IS)) (e0:Ab):Nat->IS->I (Ex×IS)
 |0,_=>D
 |n+1,s=>match body s with
  |some (.normal,⟨e,h,nx,wr⟩)=>Ro (PT.mask e e0) λe=>ahn body e0 n ⟨e,h,nx,wr⟩
  |r=>r
def run (call:XP) (inert:FuncId->Bool) (fuel:Nat):SC->IS->I (Ex×IS)
 |.skip,s=>M (.normal,s)
 |.reg ops prs,s=>match Ua call ops s with
  |some (s',fs)=>if FL fs prs then M (.normal,s') else D
  |none=>D
 |.seq a b,s=>match run call inert fuel a s with
  |some (.normal,s')=>run call inert fuel b s'
  |r=>r
 |.cond c a b,s=>match s.e.get c with
  |some (.f (.raw (.bool J)))=>run call inert fuel a s
  |some (.f (.raw (.bool af)))=>run call inert fuel b s
  |_=>D
 |.block id b,s=>match run call inert fuel b s with
  |some (.exit i,s')=>if aA i id then M (.normal,s') else M (.exit i,s')
  |r=>r
 |.loop b,s=>ahn (run call inert fuel b) s.e fuel s
 |.exit id,s=>M (.exit id,s)
 |.ret,s=>M (.ret,s)
 |.defer f caps t,⟨e,h,nx,wr⟩=>match Xj e caps with
  |some l=>if inert f then aiy e (M t) (.clo f l) λe'=>M (.normal,⟨e',h,nx,wr⟩) else D
  |none=>D
 |.bad,_=>D
inductive RV where
 |tmp (t:Nat)
 |cell (a:Nat) (sz:Nat) (ag:Bool)
structure SF where
 code:SC
 res:List RV
 nt:Nat
def Ej:Y AV->AV
 |[x]=>x
 |l=>.tup l
def ajk:Value->Value->Bool
 |.bool a,.bool b=>a==b
 |.int k a,.int k' b=>k==k'&&a==b
 |.string a,.string b=>sk a b
 |.slice D n c,.slice D q c'=>aA n q&&aA c c'
 |.pointer D,.pointer D=>J
 |.tuple a,.tuple b=>a.isEmpty&&b.isEmpty
 |_,_=>af
def fx (P:Program) (t:TypeId):I Nat:=(P.info? t).map (·.size)
def Fq (P:Program) (t:TypeId):I Nat:=(P.info? t).map (·.bytes)
def s_ (P:Program) (t:TypeId):I ξ:=((P.info? t).bind (·.zero)).map (·.cells.toList)
def D7 (P:Program) (t:TypeId):I Bool:=(P.underlying t).map λ|.struct _=>J|.array _ _=>J|_=>af
def Ba (P:Program) (t:TypeId):I TypeId:=match P.underlying t with|some (.slice e)=>M e|_=>D
def BI (P:Program) (t:TypeId) (i:Nat):I (Nat×Nat):=match P.underlying t with
 |some (.struct fs)=>(fs[i]?).bind λf=>(fx P f.type).map (f.offset,·)
 |some (.array _ el)=>(fx P el).map λs=>(i*s,s)
 |some (.slice el)=>(fx P el).map λs=>(i*s,s)
 |_=>D
def xr (P:Program) (t:TypeId):Y (Nat×Operand)->I (Y (Nat×Nat×Operand))
 |[]=>M []
 |(i,x)::r=>match BI P t i,xr P t r with|some (o,s),M l=>M ((o,s,x)::l)|_,_=>D
def mP (z:ξ):Bool:=z.all λv=>v.oneCell'
def Iy:TypeDesc->Bool
 |.int _=>J
 |.bool=>J
 |.string=>J
 |_=>af
def rY (P:Program):Nat→Y Field→I (Y TypeDesc)
 |_,[]=>M []
 |k,f::r=>match P.underlying f.type,rY P (k+1) r with
  |some d,M ds=>if f.name != "_" &&f.offset==k&&Iy d then M (d::ds) else D
  |_,_=>D
def aa3 (P:Program) (t:TypeId):I (Y TypeDesc):=match P.underlying t with
 |some (.struct fs)=>if P.stoodInHeld t then D else rY P 0 fs.toList
 |_=>D
def Su (P:Program) (c:Call):I Zg:=
 match c.callee with
 |.builtin .len=>(match c.args.toList,c.argTypes.toList with
  |[x],[t]=>(match P.underlying t with
   |some (.slice _)=>M (.len x)
   |some .string=>M (.lens x)
   |some (.map _ _)=>M (.lenm x)
   |_=>D)
  |_,_=>D)
 |.builtin .max=>(match c.args.toList with
  |[x,y]=>M (.max x y)
  |_=>D)
 |.builtin .min=>(match c.args.toList with
  |[x,y]=>M (.min x y)
  |_=>D)
 |.builtin .copy=>(match c.args.toList,c.argTypes.toList with
  |[d,x],[t,u]=>(match Ba P t,Ba P u with
   |some el,M _=>(fx P el).bind λsz=>if sz !=0 then M (.copy sz d x) else D
   |_,_=>D)
  |_,_=>D)
 |.builtin .clear=>(match c.args.toList,c.argTypes.toList with
  |[x],[t]=>(Ba P t).bind λel=>(s_ P el).bind λz=>(fx P el).bind λsz=>if mP z&&z.length==sz&&sz !=0 then M (.clr sz z x) else D
  |_,_=>D)
 |.builtin .append=>(match c.args.toList,c.argTypes.toList with
  |[s,x],[t,u]=>(match Ba P t,Ba P u with
   |some el,M _=>(fx P el).bind λsz=>(Fq P el).bind λb=>(s_ P el).bind λz=>if sz !=0&&z.length==sz then M (.app el sz b s x) else D
   |_,_=>D)
  |_,_=>D)
 |_=>D
def dw (P:Program):Op->I Zg
 |.move x=>M (.mv x)
 |.assign x=>M (.mv x)
 |.pick c a b=>M (.pick c a b)
 |.alloc t=>(s_ P t).bind λz=>if mP z then M (.alloc t z) else D
 |.box t x=>M (.box t x)
 |.build t ps=>match P.underlying t with
  |some (.struct fs)=>(s_ P t).bind λz=>if mP z&&(fs.toList.all λf=>(fx P f.type).isSome) then (xr P t ps.toList).map (.build z) else D
  |some (.array _ el)=>(s_ P t).bind λz=>if mP z&&(fx P el).isSome then (xr P t ps.toList).map (.build z) else D
  |_=>D
 |.buildSlice t n ps=>(Ba P t).bind λel=>(s_ P el).bind λz=>(fx P el).bind λsz=>if mP z&&z.length==sz&&eO (n*sz) 65536&&sz !=0 then (xr P t ps.toList).map (.bsl el sz n z) else D
 |.load t x=>(fx P t).bind λsz=>(D7 P t).map λag=>.load sz ag x
 |.store t x v=>(fx P t).map λsz=>.store sz x v
 |.nilCheck x=>M (.nilc x)
 |.binOp op t x y _=>match P.underlying t with
  |some (.int _)|some .string=>M (.bin op x y)
  |some .bool=>(match op with|.eql=>M (.eqb af x y)|.neq=>M (.eqb J x y)|_=>D)
  |some (.slice _)=>(match op,y with
   |.eql,.const (.slice D 0 0)=>M (.isnil af x)
   |.neq,.const (.slice D 0 0)=>M (.isnil J x)
   |_,_=>D)
  |some (.struct _)=>(aa3 P t).bind λds=>(match op with|.eql=>M (.eqs af ds x y)|.neq=>M (.eqs J ds x y)|_=>D)
  |_=>D
 |.unOp .not _ x=>M (.not x)
 |.unOp .neg t x=>match P.underlying t with|some (.int k)=>M (.bin .sub (.const (.int k 0)) x)|_=>D
 |.convert s d x=>match P.underlying s,P.underlying d with|some (.int _),M (.int k)=>M (.conv k x)|_,_=>D
 |.makeSlice t l c=>(Ba P t).bind λel=>(s_ P el).bind λz=>(fx P el).bind λsz=>(Fq P el).bind λb=>if mP z&&z.length==sz&&sz !=0 then M (.mksl el sz b z l c) else D
 |.slice t x lo hi mx=>(Ba P t).bind λel=>(fx P el).map λsz=>.slc sz x lo hi mx
 |.fieldAddr t x k=>match P.underlying t with
  |some (.struct fs)=>(fs[k]?).bind λf=>(fx P f.type).bind λsz=>if sz !=0 then M (.fad f.offset x) else D
  |_=>D
 |.field t x k=>match P.underlying t with
  |some (.struct fs)=>(fs[k]?).bind λf=>(fx P f.type).bind λsz=>(D7 P f.type).map λag=>.fld f.offset sz ag x
  |_=>D
 |.indexAddr t x i=>match P.underlying t with
  |some (.slice el)=>(fx P el).map λsz=>.iad sz x i
  |some (.array n el)=>(fx P el).map λsz=>.iada n sz x i
  |_=>D
 |.index t x i=>match P.underlying t with
  |some (.array n el)=>(fx P el).bind λsz=>(D7 P el).map λag=>.idx n sz ag x i
  |some .string=>M (.sidx x i)
  |_=>D
 |.extract x i=>M (.ext x i)
 |.makeFunc (.func f) first caps=>if first.isEmpty then M (.mkf f caps.toList) else D
 |.makeMap t D=>match P.underlying t with|some (.map _ _)=>M .mkm|_=>D
 |.lookup t x k ok=>match P.underlying t with
  |some (.map q el)=>(match P.underlying q,(P.info? el).bind (·.zero) with
   |some (.int _),M z=>if z.oneCell' then M (.lku af ok z x k) else D
   |some .string,M z=>if z.oneCell' then M (.lku J ok z x k) else D
   |_,_=>D)
  |_=>D
 |.mapUpdate t m k v=>match P.underlying t with
  |some (.map q _)=>(match P.underlying q with
   |some (.int _)=>M (.mup af m k v)
   |some .string=>M (.mup J m k v)
   |_=>D)
  |_=>D
 |.range t x=>match P.underlying t with|some .string=>M (.rng x)|_=>D
 |.next x J=>M (.nxt x)
 |.call c=>Su P c
 |_=>D
def Ps:Op->I SI
 |.call c=>(match c.callee with
  |.value (.func f)=>M (.call f c.args.toList)
  |.value (.tmp t)=>M (.callv (.tmp t) c.args.toList)
  |_=>D)
 |_=>D
def yE (P:Program) (op:Op):SI:=match Ps op with
 |some i=>i
 |none=>(match dw P op with|some s=>.op s|none=>.op .bad)
def Zg.still:Zg->Bool
 |.mv _|.pick _ _ _|.build _ _|.nilc _|.bin _ _ _|.eqs _ _ _ _|.isnil _ _|.eqb _ _ _|.not _|.conv _ _|.fad _ _|.fld _ _ _ _|.iad _ _ _|.iada _ _ _ _|.idx _ _ _ _ _|.ext _ _|.max _ _|.min _ _|.sidx _ _|.mkf _ _|.bad=>J
 |_=>af
def SI.still:SI->Bool
 |.op s=>s.still
 |_=>af
def sj (P:Program) (ops:Array Oper):Y Oper->I (Y sO)
 |[]=>M []
 |o::r=>match sj P ops r with
  |some l=>(match o.guard with
   |none=>M (⟨o.dst,yE P o.op,D⟩::l)
   |some (j,want)=>(match (ops[j]?).bind (·.dst) with
    |some t=>M (⟨o.dst,yE P o.op,M (t,want)⟩::l)
    |none=>D))
  |none=>D
def MI (ops:Array Oper) (l:Y sO):I (Y (Nat×Nat)):=
 let B:=KJ ops.toList []
 if (dN ops.size).all λj=>((ops[j]?).all λoj=>oj.after.toList.all λe=> !Ad .any e||decide (e.on<j))&&
     (dN j).all λi=>aM (B.getD j 0) i||(match ops[i]?,ops[j]? with|some oi,M oj=>oi.apart ops oj|_,_=>af)
 then M ((dN ops.size).flatMap λj=>(dN j).filterMap λi=>
  if aM (B.getD j 0) i||(match l[i]?,l[j]? with|some a,M b=>a.op.still||b.op.still|_,_=>af) then D else M (i,j))
 else D
def DO (ops:Array Oper) (a:Bool):I (FuncId×Y Operand×Nat):=match ops.toList,a with
 |[p,q],af=>(match p.op,p.guard,p.dst,q.op,q.guard,q.dst with
  |.makeFunc (.func f) first caps,D,M t,.defer c,D,D=>(match c.callee,c.args.toList with
   |.value (.tmp t'),[]=>if aA t t'&&first.isEmpty then M (f,caps.toList,t) else D
   |_,_=>D)
  |_,_,_,_,_,_=>D)
 |_,_=>D
def cu (P:Program) (nt:Nat):Code->SC
 |.skip=>.skip
 |.region _ ops q=>if ops.toList.all λo=>match o.dst with|some d=>decide (d<nt)|none=>J then
   (match DO ops q with
   |some (f,caps,t)=>.defer f caps t
   |none=>(match sj P ops ops.toList with
    |some l=>(match MI ops l with|some prs=>.reg l prs|none=>.bad)
    |none=>.bad)) else .bad
 |.seq a b=>.seq (cu P nt a) (cu P nt b)
 |.cond (.tmp c) a b=>.cond c (cu P nt a) (cu P nt b)
 |.cond (.const (.bool J)) a _=>cu P nt a
 |.cond (.const (.bool af)) _ b=>cu P nt b
 |.block id b=>.block id (cu P nt b)
 |.loop b=>.loop (cu P nt b)
 |.exit id=>.exit id
 |.ret=>.ret
 |_=>.bad
def vy (P:Program):Y ResultVar->I (Y RV)
 |[]=>M []
 |.tmp t::r=>match vy P r with|some l=>M (.tmp t::l)|none=>D
 |.cell a t::r=>match vy P r,fx P t,D7 P t with|some l,M sz,M ag=>M (.cell a sz ag::l)|_,_,_=>D
def zU (P:Program) (f:FuncId):I SF:=
 match P.funcs[f]? with
 |some fn=>if fn.name== "runtime.NumGoroutine" then D else (match fn.body,vy P fn.results.toList with
  |some c,M r=>M ⟨cu P fn.ntmps c,r,fn.ntmps⟩
  |_,_=>D)
 |none=>D
inductive Xp where
 |mk (op n:Int) (name:ζ) (l:List Xp)
inductive Sx where
 |mk (op line:Int) (name arg:ζ) (index:List Xp) (expr:Xp) (body els:List Sx)
def Xp.op:Xp->Int|.mk a _ _ _=>a
def Xp.n:Xp->Int|.mk _ a _ _=>a
def Xp.name:Xp->ζ|.mk _ _ a _=>a
def Xp.l:Xp->Y Xp|.mk _ _ _ a=>a
def Sx.op:Sx->Int|.mk a _ _ _ _ _ _ _=>a
def Sx.line:Sx->Int|.mk _ a _ _ _ _ _ _=>a
def Sx.name:Sx->ζ|.mk _ _ a _ _ _ _ _=>a
def Sx.arg:Sx->ζ|.mk _ _ _ a _ _ _ _=>a
def Sx.index:Sx->Y Xp|.mk _ _ _ _ a _ _ _=>a
def Sx.expr:Sx->Xp|.mk _ _ _ _ _ a _ _=>a
def Sx.body:Sx->Y Sx|.mk _ _ _ _ _ _ a _=>a
def Sx.els:Sx->Y Sx|.mk _ _ _ _ _ _ _ a=>a
inductive Ty where
 |int (k:IntKind)
 |bool
 |str
 |sl (t:Ty)
 |st (t:Ty)
 |pr (a b:Ty)
 |un
 |ex
 |sm
 deriving DecidableEq
@[reducible] def Ty.den:Ty->Type
  |.int _=>Int
  |.bool=>Bool
  |.str=>ζ
  |.sl t=>Y t.den
  |.st t=>t.den
  |.pr a b=>a.den×b.den
  |.un=>Unit
  |.ex=>Xp
  |.sm=>Sx
def Ty.size:Ty->Nat
 |.st t=>t.size
 |.pr a b=>a.size+b.size
 |.un=>0
 |.ex=>4
 |.sm=>11
 |_=>1
def Ty.zero:(t:Ty)->t.den
 |.int _=>(0:Int)
 |.bool=>af
 |.str=>[]
 |.sl _=>[]
 |.st t=>t.zero
 |.pr a b=>(a.zero,b.zero)
 |.un=>()
 |.ex=>.mk 0 0 [] []
 |.sm=>.mk 0 0 [] [] [] (.mk 0 0 [] []) [] []
def Ty.one:Ty->Bool
 |.int _=>J
 |.bool=>J
 |.str=>J
 |.sl _=>J
 |_=>af
def M6:Ty:=.pr (.int .i64) (.pr (.int .i64) (.pr .str (.sl .ex)))
def MC:Ty:=.pr (.int .i64) (.pr (.int .i64) (.pr .str (.pr .str (.pr (.sl .ex) (.pr .ex (.pr (.sl .sm) (.sl .sm)))))))
def NT (e:Xp):M6.den:=(e.op,e.n,e.name,e.l)
def em (x:M6.den):Xp:=.mk x.1 x.2.1 x.2.2.1 x.2.2.2
def NS (e:Sx):MC.den:=(e.op,e.line,e.name,e.arg,e.index,e.expr,e.body,e.els)
def nY (x:MC.den):Sx:=.mk x.1 x.2.1 x.2.2.1 x.2.2.2.1 x.2.2.2.2.1 x.2.2.2.2.2.1 x.2.2.2.2.2.2.1 x.2.2.2.2.2.2.2
mutual
def wO:Xp->Y FV
 |.mk op n name l=>[.raw (.int .i64 op),.raw (.int .i64 n),.raw (.string ⟨name.toArray⟩),.sl (JK l) l.length]
def JK:Y Xp->Y FV
 |[]=>[]
 |x::r=>wO x++JK r
end
mutual
def yn:Sx->Y FV
 |.mk op line name arg index expr body els=>[.raw (.int .i64 op),.raw (.int .i64 line),.raw (.string ⟨name.toArray⟩),.raw (.string ⟨arg.toArray⟩),.sl (JK index) index.length]++wO expr++[.sl (JJ body) body.length,.sl (JJ els) els.length]
def JJ:Y Sx->Y FV
 |[]=>[]
 |x::r=>yn x++JJ r
end
def bT:(T:Ty)->T.den->Y FV
 |.int k,n=>[.raw (.int k n)]
 |.bool,b=>[.raw (.bool b)]
 |.str,s=>[.raw (.string ⟨s.toArray⟩)]
 |.sl t,xs=>[.sl (List.flatMap (bT t) xs) (ai xs)]
 |.st t,v=>bT t v
 |.pr a b,v=>bT a v.1++bT b v.2
 |.un,_=>[]
 |.ex,v=>wO v
 |.sm,v=>yn v
def gC:(T:Ty)->T.den->FV
 |.int k,n=>.raw (.int k n)
 |.bool,b=>.raw (.bool b)
 |.str,s=>.raw (.string ⟨s.toArray⟩)
 |.sl t,xs=>.sl (List.flatMap (bT t) xs) (ai xs)
 |.st t,v=>.agg (bT t v)
 |.pr a b,v=>.agg (bT a v.1++bT b v.2)
 |.un,_=>.agg []
 |.ex,v=>.agg (wO v)
 |.sm,v=>.agg (yn v)
def PZ:(T:Ty)->T.den->T.den->Bool
 |.int _,a,b=>decide ((a:Int)=b)
 |.bool,a,b=>(a:Bool)==b
 |.str,a,b=>decide ((a:ζ)=b)
 |.st t,a,b=>PZ t a b
 |.pr x y,a,b=>PZ x a.1 b.1&&PZ y a.2 b.2
 |_,_,_=>J
def uK {S:Ty} (T:Ty) (v:S.den):I T.den:=if h:S=T then M (h▸v) else D
def fy (j:Int) (n:Nat):Bool:=cZ 0 j&&fJ j n
def aJ {T:Ty} (xs:Y T.den) (j:Int):T.den:=xs.getD j.toNat T.zero
def cI {α:Type} (xs:Y α) (j:Int) (x:α):Y α:=xs.set j.toNat x
def Nt {α:Type} (xs a:Y α):Y α:=a.take xs.length++xs.drop a.length
def gO (a b:Int):Int:=if fJ a b then b else a
def G' (a b:Int):Int:=if fJ b a then b else a
def AA (s:ζ) (j:Int):Int:=aN (s.getD j.toNat 0).toNat
def aG {R:Type} (b:Bool) (t f:I R):I R:=match b with|true=>t|false=>f
def chk {R:Type} (b:Bool) (k:b=J->I R):I R:=match b,k with|true,k=>k rfl|false,_=>D
open Classical in
def Fr {R:Type} (a b:I R):I R:=if a=b then a else D
open Classical in
def same {α R:Type} (a b:α) (r:I R):I R:=if a=b then r else D
def av {α R:Type} (o:I α) (k:α->I R):I R:=match o with|some x=>k x|none=>D
def lt {α R:Type} (x:α) (k:α->I R):I R:=k x
def jn {α R:Type} (o:I (R⊕α)) (k:α->I R):I R:=match o with|some (.inr x)=>k x|some (.inl r)=>M r|none=>D
def iterN {σ R:Type} (step:σ->I (σ⊕R)):Nat->σ->I R
 |0,_=>D
 |n+1,x=>match step x with
  |some (.inl y)=>iterN step n y
  |some (.inr r)=>M r
  |none=>D
open Classical in
def iter {σ R:Type} (step:σ->I (σ⊕R)) (x:σ):I R:=
 if h:∃n,(iterN step n x).isSome=J then iterN step (Classical.choose h) x else D
def gq {σ R:Type} (step:σ->I (σ⊕R)) (x:σ):I R:=iterN step 18446744073709551616 x
abbrev yQ:Type 1:=∀σ R:Type,(σ->I (σ⊕R))->σ->I R
def lE {R:Type} (a b:I R):Prop:=∀y,a=M y->b=M y
theorem lE.rfl {R:Type} {a:I R}:lE a a:=λ_ h=>h
theorem lE.bcase {R:Type} {b:Bool} {t f t' f':I R} (h1:lE t t') (h2:lE f f'):lE (AI.aG b t f) (AI.aG b t' f'):=by cases b<;>assumption
theorem lE.chk {R:Type} {b:Bool} {k k':I R} (h:lE k k'):lE (AI.chk b λ_=>k) (AI.chk b λ_=>k'):=by
 cases b with
 |true=>exact h
 |false=>exact λ_ h=>by cases h
theorem lE.obind {α R:Type} {o o':I α} {k k':α->I R} (h:lE o o') (hk:∀x,lE (k x) (k' x)):lE (AI.av o k) (AI.av o' k'):=by
 intro y a;cases o with
 |none=>cases a
 |some x=>rw[h x (by exact Eq.refl _)];exact hk x y a
theorem lE.lt {α R:Type} {x:α} {k k':α->I R} (h:∀y,lE (k y) (k' y)):lE (AI.lt x k) (AI.lt x k'):=h x
theorem lE.jn {α R:Type} {o o':I (R⊕α)} {k k':α->I R} (h:lE o o') (hk:∀x,lE (k x) (k' x)):lE (AI.jn o k) (AI.jn o' k'):=by
 intro y c;cases o with
 |none=>cases c
 |some x=>
  rw[h x (by exact Eq.refl _)];cases x with
  |inl r=>exact c
  |inr a=>exact hk a y c
theorem lE.iterN {σ R:Type} {f g:σ->I (σ⊕R)} (h:∀x,lE (f x) (g x)):∀(n:Nat) (x:σ),lE (AI.iterN f n x) (AI.iterN g n x)
 |0,_=>λ_ h=>by cases h
 |n+1,x=>by
  intro y a;cases hf:f x with
  |none=>rw[AI.iterN,hf]at a;cases a
  |some s=>
   rw[AI.iterN,hf]at a;rw[AI.iterN,h x s hf];cases s with
   |inl z=>exact lE.iterN h n z y a
   |inr r=>exact a
theorem I1 {σ R:Type} {f:σ->I (σ⊕R)}:∀{n:Nat} {x:σ} {r:R},iterN f n x=M r->iterN f (n+1) x=M r
 |0,x,r,h=>by cases h
 |n+1,x,r,h=>by
  cases hf:f x with
  |none=>rw[iterN,hf]at h;cases h
  |some s=>
   cases s with
   |inl y=>rw[iterN,hf]at h;rw[iterN,hf];exact I1 h
   |inr q=>rw[iterN,hf]at h;rw[iterN,hf];exact h
theorem zn {σ R:Type} {f:σ->I (σ⊕R)} {n m:Nat} {x:σ} {r:R} (h:iterN f n x=M r) (hle:n<=m):iterN f m x=M r:=by
 induction hle with
 |refl=>exact h
 |step _ a=>exact I1 a
theorem zl {σ R:Type} {f:σ->I (σ⊕R)} {n:Nat} {x:σ} {r:R} (h:iterN f n x=M r):iter f x=M r:=by
 have c:∃n,(iterN f n x).isSome=J:=⟨n,by rw[h];exact Eq.refl _⟩
 unfold iter;rw[dif_pos c];have hc:=Classical.choose_spec c;obtain⟨q,a⟩:=iT.1 hc;rw[a];rcases Nat.le_total n (Classical.choose c) with hl|hl
 .rw[zn h hl]at a;exact a.symm
 .rw[zn a hl]at h;exact h
theorem lE.iter {σ R:Type} {f g:σ->I (σ⊕R)} {x:σ} (h:∀x,lE (f x) (g x)):lE (gq f x) (AI.iter g x):=λy a=>zl (lE.iterN h _ x y a)
def orE {R:Type} (a b:I R):I R:=match a with|some y=>M y|none=>b
def fuel:Nat:=Classical.choose (⟨100000,rfl⟩:∃n:Nat,n=100000)
theorem j7:fuel=100000:=Classical.choose_spec (⟨100000,rfl⟩:∃n:Nat,n=100000)
def G4 (a:Ty):Ty->Ty
 |.un=>a
 |.int k=>.pr a (.int k)
 |.bool=>.pr a .bool
 |.str=>.pr a .str
 |.sl t=>.pr a (.sl t)
 |.st t=>.pr a (.st t)
 |.pr x y=>.pr a (.pr x y)
 |.ex=>.pr a .ex
 |.sm=>.pr a .sm
def spr:Ty->Ty->Ty
 |.un,b=>b
 |.int k,b=>G4 (.int k) b
 |.bool,b=>G4 .bool b
 |.str,b=>G4 .str b
 |.sl t,b=>G4 (.sl t) b
 |.st t,b=>G4 (.st t) b
 |.pr x y,b=>G4 (.pr x y) b
 |.ex,b=>G4 .ex b
 |.sm,b=>G4 .sm b
def QF (a:Ty):(b:Ty)->a.den->b.den->(G4 a b).den
 |.un,x,_=>x
 |.int _,x,y=>(x,y)
 |.bool,x,y=>(x,y)
 |.str,x,y=>(x,y)
 |.sl _,x,y=>(x,y)
 |.st _,x,y=>(x,y)
 |.pr _ _,x,y=>(x,y)
 |.ex,x,y=>(x,y)
 |.sm,x,y=>(x,y)
def fsN (a:Ty):(b:Ty)->(G4 a b).den->a.den
 |.un,z=>z
 |.int _,z=>z.1
 |.bool,z=>z.1
 |.str,z=>z.1
 |.sl _,z=>z.1
 |.st _,z=>z.1
 |.pr _ _,z=>z.1
 |.ex,z=>z.1
 |.sm,z=>z.1
def snN (a:Ty):(b:Ty)->(G4 a b).den->b.den
 |.un,_=>()
 |.int _,z=>z.2
 |.bool,z=>z.2
 |.str,z=>z.2
 |.sl _,z=>z.2
 |.st _,z=>z.2
 |.pr _ _,z=>z.2
 |.ex,z=>z.2
 |.sm,z=>z.2
def Uq:(a b:Ty)->a.den->b.den->(spr a b).den
 |.un,_,_,y=>y
 |.int k,b,x,y=>QF (.int k) b x y
 |.bool,b,x,y=>QF .bool b x y
 |.str,b,x,y=>QF .str b x y
 |.sl t,b,x,y=>QF (.sl t) b x y
 |.st t,b,x,y=>QF (.st t) b x y
 |.pr u v,b,x,y=>QF (.pr u v) b x y
 |.ex,b,x,y=>QF .ex b x y
 |.sm,b,x,y=>QF .sm b x y
def OO:(a b:Ty)->(spr a b).den->a.den
 |.un,_,_=>()
 |.int k,b,z=>fsN (.int k) b z
 |.bool,b,z=>fsN .bool b z
 |.str,b,z=>fsN .str b z
 |.sl t,b,z=>fsN (.sl t) b z
 |.st t,b,z=>fsN (.st t) b z
 |.pr u v,b,z=>fsN (.pr u v) b z
 |.ex,b,z=>fsN .ex b z
 |.sm,b,z=>fsN .sm b z
def Lp:(a b:Ty)->(spr a b).den->b.den
 |.un,_,z=>z
 |.int k,b,z=>snN (.int k) b z
 |.bool,b,z=>snN .bool b z
 |.str,b,z=>snN .str b z
 |.sl t,b,z=>snN (.sl t) b z
 |.st t,b,z=>snN (.st t) b z
 |.pr u v,b,z=>snN (.pr u v) b z
 |.ex,b,z=>snN .ex b z
 |.sm,b,z=>snN .sm b z
theorem tN (a b:Ty) (x:a.den) (y:b.den):OO a b (Uq a b x y)=x:=by cases a<;>cases b<;>rfl
theorem u_ (a b:Ty) (x:a.den) (y:b.den):Lp a b (Uq a b x y)=y:=by cases a<;>cases b<;>rfl
inductive TV where
 |f (T:Ty) (v:T.den)
 |fel (T:Ty) (xs:List T.den) (j:Int) (h:fy j xs.length=J) (off:Nat)
 |pel (id sz:Nat) (j:Int) (off:Nat)
 |ptr (id off:Nat)
 |row (id:Nat)
 |csl (id sz n:Nat)
 |emp
 |nil
 |mp (id:Nat)
 |agg (l:List TV)
 |tup (l:List TV)
 |clo (g:FuncId) (l:List TV)
 |undef
 |np
 |anyb
 |rtl (id:Nat) (j:Int)
instance cty (n:Nat):OfNat (I TypeId) n:=⟨M n⟩
inductive iu where
 |rows (ty:TypeId) (p:Bool) (T:Ty) (xs:List T.den)
 |cells (ty:Option TypeId) (l:List TV)
 |dead (p:Bool) (sz n:Nat)
 |mp (K V:Ty) (es:List (K.den×V.den))
abbrev iX:=PT TV
abbrev bi:=PT iu
def cst:Value->I TV
 |.int k n=>M (.f (.int k) n)
 |.bool b=>M (.f .bool b)
 |.string s=>M (.f .str s.data.toList)
 |.slice D 0 0=>M .nil
 |.pointer D=>M .np
 |_=>D
def Kj:ξ->I (Y TV)
 |[]=>M []
 |v::r=>match cst v,Kj r with|some x,M l=>M (x::l)|_,_=>D
def ajc:Value->I TV
 |.agg vs=>if KE vs.toList then (match Kj vs.toList with|some l=>M (.agg l)|none=>D) else D
 |v=>cst v
def cellsOf:Nat->(T:Ty)->T.den->I (Y TV)
 |0,_,_=>D
 |n+1,.st t,v=>cellsOf n t v
 |n+1,.pr a b,v=>match cellsOf n a v.1,cellsOf n b v.2 with|some x,M y=>M (x++y)|_,_=>D
 |_+1,.un,_=>M []
 |n+1,.ex,v=>cellsOf n M6 (NT v)
 |n+1,.sm,v=>cellsOf n MC (NS v)
 |_+1,.int k,v=>M [.f (.int k) v]
 |_+1,.bool,v=>M [.f .bool v]
 |_+1,.str,v=>M [.f .str v]
 |_+1,.sl t,v=>M [.f (.sl t) v]
def TV.isC:TV->Bool
 |.f T _=>T.one
 |.fel _ _ _ _ _=>J
 |.pel _ _ _ _=>J
 |.ptr _ _=>J
 |.row _=>J
 |.csl _ _ _=>J
 |.emp=>J
 |.nil=>J
 |.np=>J
 |.mp _=>J
 |.clo _ _=>J
 |_=>af
def kK:Y TV->Bool
 |[]=>J
 |x::r=>x.isC&&kK r
def TV.cs (v:TV):I (Y TV):=match v with
 |.agg l=>if kK l then M l else D
 |.f T x=>cellsOf 40 T x
 |x=>if x.isC then M [x] else D
def kE (i:Nat):Nat:=1<<<i
def iR (h:bi) (T:Ty):TV->I (T.den×Nat)
 |.f _ v=>match uK T v with|some x=>M (x,0)|none=>D
 |.emp=>(match T with|.sl _=>M ([],0)|_=>D)
 |.nil=>(match T with|.sl _=>M ([],0)|_=>D)
 |.row id=>match h.get id with
  |some (.rows _ _ S xs)=>(match uK (S:=.sl S) T xs with|some x=>M (x,kE id)|none=>D)
  |_=>D
 |_=>D
def e9 (h:bi):Nat->(T:Ty)->Y TV->I (T.den×Nat×Y TV)
 |0,_,_=>D
 |n+1,.st t,l=>e9 h n t l
 |n+1,.pr a b,l=>match e9 h n a l with
  |some (x,m,r)=>(match e9 h n b r with|some (y,m',q)=>M ((x,y),m|||m',q)|none=>D)
  |none=>D
 |_+1,.un,l=>M ((),0,l)
 |n+1,.ex,l=>match e9 h n M6 l with|some (x,m,r)=>M (em x,m,r)|none=>D
 |n+1,.sm,l=>match e9 h n MC l with|some (x,m,r)=>M (nY x,m,r)|none=>D
 |_+1,.int k,l=>match l with|c::r=>(match iR h (.int k) c with|some (x,m)=>M (x,m,r)|none=>D)|[]=>D
 |_+1,.bool,l=>match l with|c::r=>(match iR h .bool c with|some (x,m)=>M (x,m,r)|none=>D)|[]=>D
 |_+1,.str,l=>match l with|c::r=>(match iR h .str c with|some (x,m)=>M (x,m,r)|none=>D)|[]=>D
 |_+1,.sl t,l=>match l with|c::r=>(match iR h (.sl t) c with|some (x,m)=>M (x,m,r)|none=>D)|[]=>D
def D5 (h:bi) (T:Ty) (v:TV):I (T.den×Nat):=match v with
 |.agg l=>if T.one then D else (match e9 h 40 T l with|some (x,m,[])=>M (x,m)|_=>D)
 |x=>iR h T x
def ov:Nat->(T:Ty)->T.den->Nat->Nat->Bool->I TV
 |0,_,_,_,_,_=>D
 |n+1,.st t,v,off,sz,ag=>if aA off 0&&aA sz t.size&&ag then M (.f (.st t) v) else ov n t v off sz ag
 |n+1,.pr a b,v,off,sz,ag=>if gx off a.size then ov n a v.1 off sz ag else ov n b v.2 (off-a.size) sz ag
 |_+1,.un,_,_,_,_=>D
 |n+1,.ex,v,off,sz,ag=>if aA off 0&&aA sz 4&&ag then M (.f .ex v) else ov n M6 (NT v) off sz ag
 |n+1,.sm,v,off,sz,ag=>if aA off 0&&aA sz 11&&ag then M (.f .sm v) else ov n MC (NS v) off sz ag
 |_+1,.int k,v,off,sz,ag=>if aA off 0&&aA sz 1&& !ag then M (.f (.int k) v) else D
 |_+1,.bool,v,off,sz,ag=>if aA off 0&&aA sz 1&& !ag then M (.f .bool v) else D
 |_+1,.str,v,off,sz,ag=>if aA off 0&&aA sz 1&& !ag then M (.f .str v) else D
 |_+1,.sl t,v,off,sz,ag=>if aA off 0&&aA sz 1&& !ag then M (.f (.sl t) v) else D
def gW (h:bi) (x:TV):Nat->(T:Ty)->T.den->Nat->Nat->I (T.den×Nat)
 |0,_,_,_,_=>D
 |n+1,.st t,v,off,sz=>match (if aA off 0&&aA sz t.size then D5 h (.st t) x else D) with
  |some y=>M y
  |none=>gW h x n t v off sz
 |n+1,.pr a b,v,off,sz=>if gx off a.size then (match gW h x n a v.1 off sz with|some (y,m)=>M ((y,v.2),m)|none=>D) else (match gW h x n b v.2 (off-a.size) sz with|some (y,m)=>M ((v.1,y),m)|none=>D)
 |_+1,.un,_,_,_=>D
 |n+1,.ex,v,off,sz=>match (if aA off 0&&aA sz 4 then D5 h .ex x else D) with
  |some y=>M y
  |none=>(match gW h x n M6 (NT v) off sz with|some (y,m)=>M (em y,m)|none=>D)
 |n+1,.sm,v,off,sz=>match (if aA off 0&&aA sz 11 then D5 h .sm x else D) with
  |some y=>M y
  |none=>(match gW h x n MC (NS v) off sz with|some (y,m)=>M (nY y,m)|none=>D)
 |_+1,.int k,_,off,sz=>if aA off 0&&aA sz 1 then iR h (.int k) x else D
 |_+1,.bool,_,off,sz=>if aA off 0&&aA sz 1 then iR h .bool x else D
 |_+1,.str,_,off,sz=>if aA off 0&&aA sz 1 then iR h .str x else D
 |_+1,.sl t,_,off,sz=>if aA off 0&&aA sz 1 then iR h (.sl t) x else D
def yY (h:bi) (T:Ty):Nat->Y TV->I (Y T.den×Nat)
 |0,[]=>M ([],0)
 |0,_::_=>D
 |n+1,l=>match e9 h 40 T l with
  |some (x,m,r)=>(match yY h T n r with|some (xs,m')=>M (x::xs,m|||m')|none=>D)
  |none=>D
def s9:Ty->ξ
 |.int k=>[.int k 0]
 |.bool=>[.bool af]
 |.str=>[.string ⟨#[]⟩]
 |.sl _=>[.slice D 0 0]
 |.st t=>s9 t
 |.pr a b=>s9 a++s9 b
 |.un=>[]
 |.ex=>[.int .i64 0,.int .i64 0,.string ⟨#[]⟩,.slice D 0 0]
 |.sm=>[.int .i64 0,.int .i64 0,.string ⟨#[]⟩,.string ⟨#[]⟩,.slice D 0 0,.int .i64 0,.int .i64 0,.string ⟨#[]⟩,.slice D 0 0,.slice D 0 0,.slice D 0 0]
def SK:ξ->ξ->Bool
 |[],[]=>J
 |x::xs,y::a=>ajk x y&&SK xs a
 |_,_=>af
def Ty.flat:Ty->Bool
 |.int _=>J
 |.bool=>J
 |.str=>J
 |.st t=>t.flat
 |.pr a b=>a.flat&&b.flat
 |.un=>J
 |_=>af
def q_:Y TypeDesc->I Ty
 |[]=>M .un
 |.int k::r=>match q_ r with|some t=>M (.pr (.int k) t)|none=>D
 |.bool::r=>match q_ r with|some t=>M (.pr .bool t)|none=>D
 |.string::r=>match q_ r with|some t=>M (.pr .str t)|none=>D
 |_=>D
inductive PV where
 |d (T:Ty)
 |ptr (id off:Nat)
 |row (id:Nat)
 |csl (id sz n:Nat)
 |mp (id:Nat)
 |nil
 |emp
 |clo (q:FuncId) (id off:Nat)
 |agg (l:List PV)
inductive PB where
 |rows (ty:TypeId) (p:Bool) (T:Ty)
 |rowsP (ty:TypeId) (T:Ty)
 |cells (ty:Option TypeId) (l:List PV)
 |mp (K V:Ty)
 |gone
mutual
def PV.ty:PV->Ty
 |.d T=>T
 |.agg l=>PV.tyL l
 |.ptr _ _=>.un
 |.row _=>.un
 |.csl _ _ _=>.un
 |.clo _ _ _=>.un
 |.mp _=>.un
 |.nil=>.un
 |.emp=>.un
def PV.tyL:Y PV->Ty
 |[]=>.un
 |p::r=>spr p.ty (PV.tyL r)
end
def PB.ty:PB->Ty
 |.rows _ _ T=>.sl T
 |.rowsP _ T=>.pr .bool (.sl T)
 |.cells _ l=>PV.tyL l
 |.mp K V=>.sl (.pr K V)
 |.gone=>.un
def PB.tyL:Y PB->Ty
 |[]=>.un
 |p::r=>spr p.ty (PB.tyL r)
structure Tm where
 vs:List PV
 bs:List PB
def Tm.ty (t:Tm):Ty:=spr (PV.tyL t.vs) (PB.tyL t.bs)
mutual
def pE (g:Nat->Nat) (h:bi):(p:PV)->Y TV->I (p.ty.den×Nat×Y TV)
 |.d T,l=>e9 h 40 T l
 |.ptr i o,l=>match l with|.ptr i' o'::r=>if aA (g i) i'&&aA o o' then M ((),0,r) else D|_=>D
 |.row i,l=>match l with|.row i'::r=>if aA (g i) i' then M ((),0,r) else D|_=>D
 |.csl i s n,l=>match l with|.csl i' s' n'::r=>if aA (g i) i'&&aA s s'&&aA n n' then M ((),0,r) else D|_=>D
 |.clo q i o,l=>match l with|.clo q' [.ptr i' o']::r=>if aA q q'&&aA (g i) i'&&aA o o' then M ((),0,r) else D|_=>D
 |.mp i,l=>match l with|.mp i'::r=>if aA (g i) i' then M ((),0,r) else D|_=>D
 |.nil,l=>match l with|.nil::r=>M ((),0,r)|_=>D
 |.emp,l=>match l with|.nil::r=>M ((),0,r)|.emp::r=>M ((),0,r)|_=>D
 |.agg ps,l=>zA g h ps l
def zA (g:Nat->Nat) (h:bi):(ps:Y PV)->Y TV->I ((PV.tyL ps).den×Nat×Y TV)
 |[],l=>M ((),0,l)
 |p::r,l=>match pE g h p l with
  |some (x,m,l')=>(match zA g h r l' with|some (y,m',l'')=>M (Uq p.ty (PV.tyL r) x y,m|||m',l'')|none=>D)
  |none=>D
end
def xE (g:Nat->Nat) (h:bi):(p:PV)->TV->I (p.ty.den×Nat)
 |.d T,v=>D5 h T v
 |.agg ps,v=>if v.isC then D else (match v.cs with
  |some l=>(match zA g h ps l with|some (x,m,[])=>M (x,m)|_=>D)
  |none=>D)
 |.ptr i o,v=>match pE g h (.ptr i o) [v] with|some (x,m,_)=>M (x,m)|none=>D
 |.row i,v=>match pE g h (.row i) [v] with|some (x,m,_)=>M (x,m)|none=>D
 |.csl i s n,v=>match pE g h (.csl i s n) [v] with|some (x,m,_)=>M (x,m)|none=>D
 |.clo q i o,v=>match pE g h (.clo q i o) [v] with|some (x,m,_)=>M (x,m)|none=>D
 |.mp i,v=>match pE g h (.mp i) [v] with|some (x,m,_)=>M (x,m)|none=>D
 |.nil,v=>match pE g h .nil [v] with|some (x,m,_)=>M (x,m)|none=>D
 |.emp,v=>match pE g h .emp [v] with|some (x,m,_)=>M (x,m)|none=>D
def yi (g:Nat->Nat) (h:bi):(ps:Y PV)->Y TV->I ((PV.tyL ps).den×Nat)
 |[],[]=>M ((),0)
 |p::r,v::vs=>match xE g h p v with
  |some (x,m)=>(match yi g h r vs with|some (y,m')=>M (Uq p.ty (PV.tyL r) x y,m|||m')|none=>D)
  |none=>D
 |[],_::_=>D
 |_::_,[]=>D
def E5 (g:Nat->Nat) (h:bi) (i:Nat):(b:PB)->I (b.ty.den×Nat)
 |.rows ty p T=>match h.get (g i) with
  |some (.rows ty' a S xs)=>if ty==ty'&&p==a then (match uK (S:=.sl S) (.sl T) xs with|some x=>M (x,0)|none=>D) else D
  |_=>D
 |.rowsP ty T=>match h.get (g i) with
  |some (.rows ty' a S xs)=>if ty==ty' then (match uK (S:=.sl S) (.sl T) xs with|some x=>M ((a,x),0)|none=>D) else D
  |_=>D
 |.cells ty ps=>match h.get (g i) with
  |some (.cells ty' l)=>if ty==ty' then (match zA g h ps l with|some (x,m,[])=>M (x,m)|_=>D) else D
  |_=>D
 |.mp K V=>match h.get (g i) with
  |some (.mp K' V' es)=>(match uK (S:=.sl (.pr K' V')) (.sl (.pr K V)) es with|some x=>M (x,0)|none=>D)
  |_=>D
 |.gone=>M ((),0)
def A_ (g:Nat->Nat) (h:bi):Nat->(bs:Y PB)->I ((PB.tyL bs).den×Nat)
 |_,[]=>M ((),0)
 |i,b::r=>match E5 g h i b with
  |some (x,m)=>(match A_ g h (i+1) r with|some (y,m')=>M (Uq b.ty (PB.tyL r) x y,m|||m')|none=>D)
  |none=>D
mutual
def qa (g:Nat->Nat):(p:PV)->p.ty.den->I (Y TV)
 |.d T,x=>cellsOf 40 T x
 |.ptr i o,_=>M [.ptr (g i) o]
 |.row i,_=>M [.row (g i)]
 |.csl i s n,_=>M [.csl (g i) s n]
 |.mp i,_=>M [.mp (g i)]
 |.clo q i o,_=>M [.clo q [.ptr (g i) o]]
 |.nil,_=>M [.nil]
 |.emp,_=>M [.emp]
 |.agg ps,x=>qY g ps x
def qY (g:Nat->Nat):(ps:Y PV)->(PV.tyL ps).den->I (Y TV)
 |[],_=>M []
 |p::r,x=>match qa g p (OO p.ty (PV.tyL r) x) with
  |some a=>(match qY g r (Lp p.ty (PV.tyL r) x) with|some b=>M (a++b)|none=>D)
  |none=>D
end
def tG (g:Nat->Nat):(p:PV)->p.ty.den->I TV
 |.d T,x=>M (.f T x)
 |.ptr i o,_=>M (.ptr (g i) o)
 |.row i,_=>M (.row (g i))
 |.csl i s n,_=>M (.csl (g i) s n)
 |.mp i,_=>M (.mp (g i))
 |.clo q i o,_=>M (.clo q [.ptr (g i) o])
 |.nil,_=>M .nil
 |.emp,_=>M .emp
 |.agg ps,x=>match qY g ps x with|some l=>M (.agg l)|none=>D
def qh (g:Nat->Nat):(ps:Y PV)->(PV.tyL ps).den->I (Y TV)
 |[],_=>M []
 |p::r,x=>match tG g p (OO p.ty (PV.tyL r) x) with
  |some a=>(match qh g r (Lp p.ty (PV.tyL r) x) with|some b=>M (a::b)|none=>D)
  |none=>D
def CO (g:Nat->Nat):(b:PB)->b.ty.den->I (I iu)
 |.rows ty p T,x=>M (M (.rows ty p T x))
 |.rowsP ty T,x=>M (M (.rows ty x.1 T x.2))
 |.cells ty ps,x=>match qY g ps x with|some l=>M (M (.cells ty l))|none=>D
 |.mp K V,x=>M (M (.mp K V x))
 |.gone,_=>M D
def vj:iu->iu
 |.rows _ p T xs=>.dead p T.size xs.length
 |.cells _ _=>.dead J 0 0
 |.mp _ _ _=>.dead J 0 0
 |.dead p sz n=>.dead p sz n
def kill (h:bi) (i:Nat):bi:=match h.get i with
 |some b=>h.set i (M (vj b))
 |none=>h
def oK (g:Nat->Nat):(bs:Y PB)->(PB.tyL bs).den->I (Y (I iu))
 |[],_=>M []
 |b::r,x=>match CO g b (OO b.ty (PB.tyL r) x) with
  |some c=>(match oK g r (Lp b.ty (PB.tyL r) x) with|some l=>M (c::l)|none=>D)
  |none=>D
def AG (g:Nat->Nat):Nat->Y (I iu)->bi->bi
 |_,[],h=>h
 |i,M c::r,h=>AG g (i+1) r (h.set (g i) (M c))
 |i,D::r,h=>AG g (i+1) r (kill h (g i))
def MH (g:Nat->Nat) (bs:Y PB) (x:(PB.tyL bs).den) (h:bi):I bi:=match oK g bs x with
 |some l=>M (AG g 0 l h)
 |none=>D
def wz {K V:Ty} (k:K.den):Y (K.den×V.den)->I V.den
 |[]=>D
 |(k',v)::r=>if PZ K k k' then M v else wz k r
def ED {K V:Ty} (k:K.den) (v:V.den):Y (K.den×V.den)->Y (K.den×V.den)
 |[]=>[(k,v)]
 |(k',a)::r=>if PZ K k k' then (k,v)::r else (k',a)::ED k v r
def aj1 {K V:Ty} (k:K.den) (es:Y (K.den×V.den)):Bool:=match wz k es with|some _=>J|none=>af
def wy {K V:Ty} (k:K.den) (es:Y (K.den×V.den)) (z:V.den):V.den:=match wz k es with|some v=>v|none=>z
def amb (T:Ty):Nat->Ty
 |0=>.un
 |1=>T
 |n+2=>.pr T (amb T (n+1))
def kwT:Ty:=.st (amb .str 22)
def kwV:kwT.den:=([118,97,114],[118,111,108,97,116,105,108,101],[109,117,116,101,120],[114,119,108,111,99,107],[99,111,110,100],[102,117,116,117,114,101],[116,104,114,101,97,100],[105,102],[101,108,115,101],[119,104,105,108,101],[108,111,99,107],[114,101,97,100],[119,114,105,116,101],[116,114,97,110,115,97,99,116,105,111,110],[97,116,111,109,105,99],[119,97,105,116],[110,111,116,105,102,121],[110,111,116,105,102,121,97,108,108],[115,112,97,119,110],[106,111,105,110],[115,101,116],[103,101,116])
@[simp] theorem dO {R:Type} (t f:I R):aG J t f=t:=Eq.trans rfl rfl
@[simp] theorem eA {R:Type} (t f:I R):aG af t f=f:=Eq.trans rfl rfl
@[simp] theorem chk_t {R:Type} (k:J=J->I R):chk J k=k rfl:=Eq.trans rfl rfl
theorem cM {R:Type} {b:Bool} (h:b=J) (k:I R):chk b (λ_=>k)=k:=by cases b with|true=>rfl|false=>cases h
@[simp] theorem dG {α R:Type} (x:α) (k:α->I R):av (M x) k=k x:=Eq.trans rfl rfl
@[simp] theorem mF {α R:Type} (x:α) (k:α->I R):jn (M (.inr x)) k=k x:=Eq.trans rfl rfl
@[simp] theorem jn_l {α R:Type} (r:R) (k:α->I R):jn (M (.inl r)) k=M r:=Eq.trans rfl rfl
theorem aex {σ R:Type} {f:σ->I (σ⊕R)} {n:Nat} {x:σ} {r:R} (h:iterN f n x=M r) (hn:n<=18446744073709551616):gq f x=M r:=zn h hn
theorem zm {σ R:Type} {f:σ->I (σ⊕R)} (n:Nat) (hn:n<18446744073709551616) (st:Nat->σ) {r:R} (h0:∀i,i<n->f (st i)=M (.inl (st (i+1)))) (h1:f (st n)=M (.inr r)):gq f (st 0)=M r:=by
 have key:∀k i,i+k=n->iterN f (k+1) (st i)=M r:=by
  intro k;induction k with
  |zero=>intro i hi;have:i=n:=by omega
         subst this;simp only[iterN,h1]
  |succ k a=>intro i hi;rw[iterN,h0 i (by omega)];exact a (i+1) (by omega)
 exact aex (key n 0 (by omega)) (by omega)
@[simp] theorem aay {a b:Int}:cZ a b=J↔a<=b:=by unfold cZ;simp
@[simp] theorem aax {a b:Int}:fJ a b=J↔a<b:=by unfold fJ;simp
theorem qZ {a b:Int} (h:a<=b):cZ a b=J:=aay.2 h
theorem wI {a b:Int} (h:a<b):fJ a b=J:=aax.2 h
theorem aaz {a b:Int} (h:b<a):cZ a b=af:=by unfold cZ;simp;omega
theorem zo {a b:Int} (h:b<=a):fJ a b=af:=by unfold fJ;simp;omega
theorem amj {j:Int} {n:Nat} (h0:0<=j) (h1:j<n):fy j n=J:=by unfold fy;rw[qZ h0,wI h1];rfl
theorem db {j n:Nat} (h1:j<n):fy (j:Int) n=J:=amj (by omega) (by omega)
theorem xo {n b:Nat} (h0:n<=1099511627776) (h1:n*b<=1099511627776):bc n b=J:=by
 unfold bc;rw[bD h0,bD h1];rfl
theorem ah7 {n:Int} (h0: -9223372036854775808<=n) (h1:n<=9223372036854775807):bl .i64 n=n:=by
 rw[HH];unfold Mu;simp only[];rw[qZ h0,qZ h1];rfl
theorem rh {i n:Nat} (h:i<n) (hn:n<=1099511627776):bl .i64 ((i:Int)+1)=((i+1:Nat):Int):=by
 rw[ah7 (by omega) (by omega)];omega
theorem qD (a b:Nat):gO (aN a) (aN b)=((max a b:Nat):Int):=by
 unfold gO;by_cases h:a<b
 .rw[wI (by simp;omega),aC rfl];simp;omega
 .rw[zo (by simp;omega)];simp;omega
theorem uA {T:Ty} (xs:Y T.den) (i:Nat):aJ xs (i:Int)=xs.getD i T.zero:=by unfold aJ;simp
theorem rN (xs:Y η) (i:Nat):aJ (T:=.sl (.int .i64)) xs (i:Int)=xs.getD i []:=uA (T:=.sl (.int .i64)) xs i
theorem aj5 (xs:η) (i:Nat):aJ (T:=.int .i64) xs (i:Int)=xs.getD i 0:=uA (T:=.int .i64) xs i
theorem dY {α:Type} (xs:Y α) (i:Nat) (x:α):cI xs (i:Int) x=xs.set i x:=by unfold cI;simp
structure cA where
 pre:Tm
 post:Tm
 m:pre.ty.den->Option post.ty.den
mutual
def ai0:PV->Y TV->PT Nat->PT Nat×Y TV
 |.d T,l,σ=>(σ,l.drop T.size)
 |.ptr i _,l,σ=>match l with|.ptr a _::r=>(σ.set i (M a),r)|l=>(σ,l.drop 1)
 |.row i,l,σ=>match l with|.row a::r=>(σ.set i (M a),r)|l=>(σ,l.drop 1)
 |.csl i _ _,l,σ=>match l with|.csl a _ _::r=>(σ.set i (M a),r)|l=>(σ,l.drop 1)
 |.mp i,l,σ=>match l with|.mp a::r=>(σ.set i (M a),r)|l=>(σ,l.drop 1)
 |.clo _ i _,l,σ=>match l with|.clo _ [.ptr a _]::r=>(σ.set i (M a),r)|l=>(σ,l.drop 1)
 |.nil,l,σ=>(σ,l.drop 1)
 |.emp,l,σ=>(σ,l.drop 1)
 |.agg ps,l,σ=>VX ps l σ
def VX:Y PV->Y TV->PT Nat->PT Nat×Y TV
 |[],l,σ=>(σ,l)
 |p::r,l,σ=>match ai0 p l σ with|(σ',l')=>VX r l' σ'
end
def an3 (p:PV) (v:TV) (σ:PT Nat):PT Nat:=match p with
 |.d _=>σ
 |p=>match v.cs with|some l=>(ai0 p l σ).1|none=>σ
def ac9:Y PV->Y TV->PT Nat->PT Nat
 |p::r,v::vs,σ=>ac9 r vs (an3 p v σ)
 |_,_,σ=>σ
def VY (h:bi):Nat->Y PB->PT Nat->PT Nat
 |_,[],σ=>σ
 |i,b::r,σ=>VY h (i+1) r (match b with
  |.cells _ ps=>(match σ.get i with
   |some a=>(match h.get a with|some (.cells _ l)=>(VX ps l σ).1|_=>σ)
   |none=>σ)
  |_=>σ)
def ip (σ:PT Nat) (i:Nat):Nat:=match σ.get i with|some a=>a|none=>0
def Z1 (σ:PT Nat):Nat->Nat->Nat->I Nat
 |0,_,acc=>M acc
 |n+1,i,acc=>match σ.get i with
  |some a=>if aM acc a then D else Z1 σ n (i+1) (acc|||kE a)
  |none=>D
def idn:Nat->PT Nat
 |0=>.leaf
 |n+1=>(idn n).set n (M n)
def Xf (σ:PT Nat):Nat->Bool
 |0=>J
 |n+1=>(match σ.get n with|some a=>aA a n|none=>af)&&Xf σ n
structure aid (t:Tm) where
 x:t.ty.den
 m:Nat
 σ:PT Nat
 sm:Nat
def EE (np:Nat) (t:Tm) (vs:Y TV) (h:bi):I (aid t):=
 Ro (VY h 0 t.bs (VY h 0 t.bs (ac9 t.vs vs (idn np)))) λσ=>
 match Z1 σ t.bs.length 0 0 with
 |some sm=>(match yi (ip σ) h t.vs vs with
  |some (x,m)=>(match A_ (ip σ) h 0 t.bs with
   |some (y,m')=>if DK (m|||m') sm&&Xf σ np then M ⟨Uq _ _ x y,m|||m',σ,sm⟩ else D
   |none=>D)
  |none=>D)
 |none=>D
def PT.updI {α:Type} (f:Nat->α->α):Nat->Nat->PT α->PT α
 |_,_,.leaf=>.leaf
 |a,b,.node v l r=>.node (match v with|some x=>M (f b x)|none=>D) (PT.updI f (2*a) (a+b) l) (PT.updI f (2*a) (2*a+b) r)
def eB (m:Nat) (h:bi):bi:=if aA m 0 then h else PT.updI (λi b=>if aM m i then vj b else b) 1 0 h
def Uy:Operand->Bool
 |.const (.agg _)=>J
 |_=>af
def fR (e:iX):Operand->I TV
 |.tmp t=>e.get t
 |.const v=>ajc v
 |.func g=>M (.clo g [])
 |.global g=>match G g with|some _=>M (.fel kwT [kwV] 0 (Eq.refl J) 0)|none=>D
def FM (e:iX):Y Operand->I (Y TV)
 |[]=>M []
 |x::xs=>match fR e x with|some y=>(match FM e xs with|some a=>M (y::a)|none=>D)|none=>D
def JA (cells:Y TV) (e:iX):Y (Nat×Nat×Operand)->I (Y TV)
 |[]=>M cells
 |(off,sz,x)::r=>match fR e x with
  |some v=>(match v.cs with
   |some cs=>if cs.length==sz&&eO (off+sz) cells.length then JA (splice cells off cs) e r else D
   |none=>D)
  |none=>D
def T2 (l:Y TV) (off sz:Nat):Bool->I TV
 |false=>if aA sz 1 then l[off]? else D
 |true=>if eO (off+sz) l.length then M (.agg ((l.drop off).take sz)) else D
def eH (h:bi) (id:Nat):I (Bool×Nat×Nat):=match h.get id with
 |some (.rows _ p T xs)=>M (p,T.size,xs.length)
 |some (.dead p sz n)=>M (p,sz,n)
 |_=>D
def lenOf (h:bi):TV->I Nat
 |.f (.sl _) xs=>M (ai xs)
 |.emp=>M 0
 |.nil=>M 0
 |.row id=>match eH h id with|some (_,_,n)=>M n|none=>D
 |.csl _ _ n=>M n
 |_=>D
mutual
def Lx (h:bi):TV->Bool
 |.row id=>(eH h id).isSome
 |.rtl id _=>(eH h id).isSome
 |.agg l=>kX h l
 |.tup l=>kX h l
 |.clo _ l=>kX h l
 |.f _ _=>J
 |.fel _ _ _ _ _=>J
 |.pel _ _ _ _=>J
 |.ptr _ _=>J
 |.csl _ _ _=>J
 |.emp=>J
 |.nil=>J
 |.mp _=>J
 |.undef=>J
 |.np=>J
 |.anyb=>J
def kX (h:bi):Y TV->Bool
 |[]=>J
 |x::r=>Lx h x&&kX h r
end
mutual
def Lz (n:Nat):TV->Bool
 |.row id=>gx id n
 |.rtl id _=>gx id n
 |.pel id _ _ _=>gx id n
 |.ptr id _=>gx id n
 |.csl id _ _=>gx id n
 |.mp id=>gx id n
 |.agg l=>rH n l
 |.tup l=>rH n l
 |.clo _ l=>rH n l
 |.f _ _=>J
 |.fel _ _ _ _ _=>J
 |.emp=>J
 |.nil=>J
 |.undef=>J
 |.np=>J
 |.anyb=>J
def rH (n:Nat):Y TV->Bool
 |[]=>J
 |x::r=>Lz n x&&rH n r
end
def C5 (t:Tm) (x:t.ty.den):I (Y TV×bi):=
 match qh (λi=>i) t.vs (OO _ _ x) with
 |some vs=>(match MH (λi=>i) t.bs (Lp _ _ x) PT.leaf with
  |some h=>if kX h vs&&rH t.bs.length vs&&PT.all (λ_ b=>match b with|.cells _ l=>kX h l&&rH t.bs.length l|_=>J) 1 0 h then M (vs,h) else D
  |none=>D)
 |none=>D
abbrev KO (R:Type):=TV->Nat->Nat->bi->Nat->I R
def Qo:Y TV->TV
 |[x]=>x
 |l=>.tup l
def BQ:Y PB->Bool
 |[]=>J
 |.gone::_=>af
 |_::r=>BQ r
def H9:Y PB->Bool
 |[]=>J
 |.rows _ _ _::r=>H9 r
 |_::_=>af
def ub (h h2:bi) (g:Nat->Nat):Nat->Bool
 |0=>J
 |n+1=>(match eH h (g n) with
  |some (p,s,k)=>(match eH h2 (g n) with|some (a,s',k')=>(p==a)&&aA s s'&&aA k k'|none=>af)
  |none=>J)&&ub h h2 g n
def Xy {R:Type} (con:FuncId->I cA) (f:FuncId) (l:Y TV) (h:bi) (nx:Nat) (K:KO R):I R:=
 match con f with
 |some c=>(match EE 0 c.pre l h with
  |some ⟨x,m,σ,sm⟩=>(match C5 c.pre x with
   |some _=>av (c.m x) λy=>(match C5 c.post y with
    |some _=>if eO c.pre.bs.length c.post.bs.length&&BQ c.pre.bs then
      let np:=c.pre.bs.length
      let a:=c.post.bs.length-np
      let g:=λi=>if gx i np then ip σ i else nx+(i-np)
      (match qh g c.post.vs (OO _ _ y) with
      |some rs=>if !(aA m 0)&&aA c.post.bs.length 0&&(PV.tyL c.post.vs).flat then K (Qo rs) m 0 h nx else
       (match MH g c.post.bs (Lp _ _ y) (eB m h) with
       |some h2=>chk (ub h h2 g np) λ_=>K (Qo rs) (sm|||m) (sm|||m|||(((1<<<a)-1)<<<nx)) h2 (nx+a)
       |none=>D)
      |none=>D) else if aA c.post.bs.length 0&&H9 c.pre.bs then
      let np:=c.pre.bs.length
      let g:=λi=>if gx i np then ip σ i else nx+(i-np)
      (match qh g c.post.vs (OO _ _ y) with
      |some rs=>(match MH g c.pre.bs (Lp _ _ x) (eB m h) with
       |some h2=>K (Qo rs) (sm|||m) m h2 nx
       |none=>D)
      |none=>D) else D
    |none=>D)
   |none=>D)
  |none=>D)
 |none=>D
def ajj {R:Type} (op:BinOp) (x y:TV) (q:TV->I R):I R:=
 match x,y with
 |.f (.int k) a,.f (.int k') b=>if k==k' then
   (match op with
   |.add=>q (.f (.int k) (bl k (a+b)))
   |.sub=>q (.f (.int k) (bl k (a-b)))
   |.mul=>q (.f (.int k) (bl k (a*b)))
   |.rem=>chk (!decide ((b:Int)=0)) λ_=>q (.f (.int k) (Ag a b))
   |.quo=>chk (!decide ((b:Int)=0)) λ_=>q (.f (.int k) (bl k (Int.tdiv a b)))
   |.eql=>q (.f .bool (decide ((a:Int)=b)))
   |.neq=>q (.f .bool (!decide ((a:Int)=b)))
   |.lss=>q (.f .bool (fJ a b))
   |.leq=>q (.f .bool (cZ a b))
   |.gtr=>q (.f .bool (fJ b a))
   |.geq=>q (.f .bool (cZ b a))
   |_=>D)
  else D
 |.f .str a,.f .str b=>match op with
   |.eql=>q (.f .bool (decide ((a:ζ)=b)))
   |.neq=>q (.f .bool (!decide ((a:ζ)=b)))
   |_=>D
 |_,_=>D
def X6:Bool->Ty->Bool
 |false,.int _=>J
 |true,.str=>J
 |_,_=>af
abbrev itK:Ty:=.st (.pr .str (.int .i64))
def isIt:Ty->Bool
 |.st (.pr .str (.int .i64))=>J
 |_=>af
def Up (K:Ty):Bool:= !isIt K
def PW:Y ((ζ×Int)×Unit)->ζ
 |[]=>[]
 |e::_=>e.1.1
def Oj:Y ((ζ×Int)×Unit)->Nat
 |[]=>0
 |e::_=>aQ e.1.2
def itE:(K V:Ty)->Y (K.den×V.den)->I (ζ×Nat)
 |.st (.pr .str (.int .i64)),.un,es=>M (PW es,Oj es)
 |_,_,_=>D
def mpE:(K V:Ty)->Y (K.den×V.den)->Bool
 |.un,.un,[]=>J
 |_,_,_=>af
def yN (T:Ty):Y TV->I (Y T.den)
 |[]=>M []
 |.f S v::r=>match uK (S:=S) T v with
  |some x=>(match yN T r with|some l=>M (x::l)|none=>D)
  |none=>D
 |_::_=>D
def ace:Y TV->I ((T:Ty)×Y T.den)
 |.f T v::r=>match yN T (.f T v::r) with|some l=>M ⟨T,l⟩|none=>D
 |_=>D
def aml (n sz:Nat) (v:TV):Bool->I ((T:Ty)×Y T.den)
 |true=>D
 |false=>if aA sz 1&& !v.isC then (match v.cs with|some l=>if aA l.length n then ace l else D|none=>D) else D
def arrB (n sz off:Nat):I iu->I ((T:Ty)×Y T.den)
 |some (.cells (M _) l)=>if aA sz 1&&aA off 0&&aA l.length n then ace l else D
 |_=>D
def aht:Ty->Nat
 |.pr .un t=>aht t+1
 |_=>0
def DV:I Ty->I Nat
 |some (.pr .un t)=>M (aht t)
 |_=>D
def ahx {R:Type} (ty:TypeId) (sz bytes:Nat) (b y:TV) (h:bi) (nx:Nat) (K:KO R):I R:=match y with
 |.csl id2 sz2 m=>(match h.get id2 with
  |some (.cells (M _) l2)=>if aA sz2 sz&&aA l2.length (m*sz)&& !(aA m 0) then (match b with
   |.csl id sz1 n=>(match h.get id with
    |some (.cells (M ty1) l)=>if aA sz1 sz&&ty1==ty&&aA l.length (n*sz)&& !(aA id id2) then
      chk (bc (n+m) bytes) λ_=>K (.csl nx sz (n+m)) (kE id|||kE id2) (kE id|||kE nx) ((h.set id (M (.dead J 0 0))).set nx (M (.cells (M ty) (l++l2)))) (nx+1) else D
    |_=>D)
   |.nil=>chk (bc m bytes) λ_=>K (.csl nx sz m) (kE id2) (0|||kE nx) ((eB 0 h).set nx (M (.cells (M ty) l2))) (nx+1)
   |_=>D) else D
  |_=>D)
 |_=>D
def pkT (ok:Bool) (v b:TV):TV:=match ok with|true=>.tup [v,b]|false=>v
def dX {R:Type} (con:FuncId->I cA) (b9:TypeId->I Ty) (o:SI) (e:iX) (h:bi) (nx:Nat) (K:KO R):I R:=
 match o with
 |.call f args=>match FM e args with|some l=>Xy con f l h nx K|none=>D
 |.callv x args=>match fR e x,FM e args with
  |some (.clo f cap),M l=>Xy con f (l++cap) h nx K
  |_,_=>D
 |.op s=>match s with
  |.mksl ty sz bytes z l c=>match DV (b9 ty) with
   |some n=>(match Kj z,fR e l,fR e c with
    |some L,M (.f (.int _) a),M (.f (.int _) b)=>chk (cZ 0 a&&cZ a b&&bc (aQ b) bytes&&decide ((a:Int)=aN n)) λ_=>K (.csl nx sz n) 0 (0|||kE nx) ((eB 0 h).set nx (M (.cells (M ty) (aB n L).flatten))) (nx+1)
    |_,_,_=>D)
   |none=>match b9 ty,fR e l,fR e c with
   |some T,M (.f (.int _) a),M (.f (.int _) b)=>if aA sz T.size&&SK z (s9 T) then
     chk (cZ 0 a&&cZ a b&&bc (aQ b) bytes) λ_=>K (.row nx) 0 (kE nx) (h.set nx (M (.rows ty af T (aB (aQ a) T.zero)))) (nx+1) else D
   |_,_,_=>D
  |.bsl ty sz len z parts=>match DV (b9 ty) with
   |some _=>(match Kj z with
    |some L=>(match JA ((aB len L).flatten) e parts with
     |some cs=>if aA len 0 then D else K (.csl nx sz len) 0 (0|||kE nx) ((eB 0 h).set nx (M (.cells (M ty) cs))) (nx+1)
     |none=>D)
    |none=>D)
   |none=>match b9 ty,Kj z with
   |some T,M L=>if aA sz T.size then (match JA ((aB len L).flatten) e parts with
    |some cs=>(match yY h T len cs with
     |some (xs,m)=>K (.row nx) m (m|||kE nx) ((eB m h).set nx (M (.rows ty (aA len 0) T xs))) (nx+1)
     |none=>D)
    |none=>D) else D
   |_,_=>D
  |.app ty sz bytes s x=>match DV (b9 ty) with
   |some _=>(match fR e s,fR e x with
    |some b,M y=>ahx ty sz bytes b y h nx K
    |_,_=>D)
   |none=>match b9 ty,fR e s,fR e x with
   |some T,M b,M y=>if aA sz T.size then (match D5 h (.sl T) y with
    |some (q,m)=>(match b with
     |.row id=>(match h.get id with
      |some (.rows ty' p S xs)=>(match uK (S:=.sl S) (.sl T) xs with
       |some xs=>if ty'==ty&& !(aM m id) then
         chk (bc (ai xs+ai q) bytes) λ_=>K (.row nx) (kE id|||m) (kE id|||kE nx) ((h.set id (M (.dead p sz (ai xs)))).set nx (M (.rows ty p T (xs++q)))) (nx+1)
        else D
       |none=>D)
      |_=>D)
     |.emp=>chk (bc (ai q) bytes) λ_=>K (.row nx) m (kE nx) (h.set nx (M (.rows ty J T q))) (nx+1)
     |.nil=>chk (bc (ai q) bytes) λ_=>K (.row nx) m (kE nx) (h.set nx (M (.rows ty J T q))) (nx+1)
     |_=>D)
    |none=>D) else D
   |_,_,_=>D
  |.copy sz d x=>match fR e d,fR e x with
   |some (.row id),M y=>(match h.get id with
    |some (.rows ty p T xs)=>if aA sz T.size then (match D5 h (.sl T) y with
     |some (q,m)=>if !(aM m id)&& !p then
       K (.f (.int .i64) (aN (i_ (ai q) (ai xs)))) (kE id|||m) (kE id) (h.set id (M (.rows ty p T (Nt xs q)))) nx else D
     |none=>D) else D
    |_=>D)
   |_,_=>D
  |.clr sz z x=>match fR e x with
   |some (.rtl id j)=>(match h.get id with
    |some (.rows ty p T xs)=>if (aA sz T.size&&SK z (s9 T))&&mP z then
      chk (cZ 0 j&&fJ j (ai xs)) λ_=>K (.tup []) (kE id) (0|||kE id) ((eB 0 h).set id (M (.rows ty p T (dJ (aQ j) xs++aB (ai xs-aQ j) T.zero)))) nx
     else D
    |_=>D)
   |_=>D
  |.mv x=>match fR e x with|some v=>K v 0 0 h nx|none=>D
  |.pick c a b=>match fR e c with
   |some (.f .bool t)=>aG t (match fR e a with|some v=>K v 0 0 h nx|none=>D) (match fR e b with|some v=>K v 0 0 h nx|none=>D)
   |_=>D
  |.alloc ty z=>match Kj z with
   |some l=>K (.ptr nx 0) 0 (kE nx) (h.set nx (M (.cells (M ty) l))) (nx+1)
   |none=>D
  |.box ty x=>match fR e x with
   |some v=>(match v.cs with|some l=>K (.ptr nx 0) 0 (kE nx) (h.set nx (M (.cells (M ty) l))) (nx+1)|none=>D)
   |none=>D
  |.build z parts=>match Kj z with
   |some l=>(match JA l e parts with|some cs=>K (.agg cs) 0 0 h nx|none=>D)
   |none=>D
  |.load sz ag x=>match fR e x with
   |some (.ptr id off)=>(match h.get id with
    |some (.cells (M _) l)=>(match T2 l off sz ag with|some v=>K v (kE id) 0 h nx|none=>D)
    |_=>D)
   |some (.pel id sz' j off)=>(match h.get id with
    |some (.rows _ _ T xs)=>if aA sz' T.size then chk (fy j xs.length) λ_=>(match ov 40 T (aJ xs j) off sz ag with|some v=>K v (kE id) 0 h nx|none=>D) else D
    |some (.cells (M _) l)=>(match ag with
     |true=>D
     |false=>if aA sz 1&&aA sz' 1&&aA off 0 then (match ace l with
      |some ⟨T,xs⟩=>chk (fy j l.length) λ_=>K (.f T (aJ xs j)) (kE id) 0 h nx
      |none=>D) else D)
    |_=>D)
   |some (.fel T xs j _ off)=>(match ov 40 T (aJ xs j) off sz ag with|some v=>K v 0 0 h nx|none=>D)
   |_=>D
  |.store sz x v=>match fR e x,fR e v with
   |some (.ptr id off),M y=>(match h.get id with
    |some (.cells (M ty) l)=>(match y.cs with
     |some cs=>if cs.length==sz&&eO (off+sz) l.length then K .undef (kE id) (kE id) (h.set id (M (.cells (M ty) (splice l off cs)))) nx else D
     |none=>D)
    |_=>D)
   |some (.pel id sz' j off),M y=>(match h.get id with
    |some (.rows ty p T xs)=>if aA sz' T.size then chk (fy j xs.length) λ_=>(match gW h y 40 T (aJ xs j) off sz with
     |some (z,m)=>if aM m id then D else K .undef (m|||kE id) (m|||kE id) ((eB m h).set id (M (.rows ty p T (cI xs j z)))) nx
     |none=>D) else D
    |some (.cells (M ty) l)=>if aA sz 1&&(aA sz' 1&&aA off 0) then chk (fy j l.length) λ_=>(match y.cs with
     |some cs=>if aA cs.length 1 then K .undef (kE id) (kE id) (h.set id (M (.cells (M ty) (splice l j.toNat cs)))) nx else D
     |none=>D) else D
    |_=>D)
   |_,_=>D
  |.nilc x=>match fR e x with
   |some (.ptr id off)=>K (.ptr id off) 0 0 h nx
   |some (.pel id sz j off)=>K (.pel id sz j off) 0 0 h nx
   |some (.fel T xs j hj off)=>K (.fel T xs j hj off) 0 0 h nx
   |some (.clo g cap)=>K (.clo g cap) 0 0 h nx
   |_=>D
  |.bin op x y=>match fR e x,fR e y with
   |some u,M v=>ajj op u v λr=>K r 0 0 h nx
   |_,_=>D
  |.eqs neg ds x y=>match q_ ds,fR e x,fR e y with
   |some T,M u,M v=>if u.isC||v.isC||Uy x||Uy y then D else (match u.cs,v.cs with
    |some lu,M lv=>(match e9 PT.leaf 40 T lu,e9 PT.leaf 40 T lv with
     |some (a,_,[]),M (b,_,[])=>K (.f .bool (PZ T a b !=neg)) 0 0 h nx
     |_,_=>D)
    |_,_=>D)
   |_,_,_=>D
  |.isnil neg x=>match fR e x with
   |some .nil=>K (.f .bool (!neg)) 0 0 h nx
   |some .emp=>K .anyb 0 0 h nx
   |some (.f (.sl _) xs)=>aG (aA (ai xs) 0) (K .anyb 0 0 h nx) (K (.f .bool neg) 0 0 h nx)
   |some (.row id)=>(match h.get id with
    |some (.rows _ af _ _)=>K (.f .bool neg) 0 0 h nx
    |_=>D)
   |_=>D
  |.eqb neg x y=>match fR e x,fR e y with
   |some (.f .bool a),M (.f .bool b)=>K (.f .bool ((a==b) !=neg)) 0 0 h nx
   |_,_=>D
  |.not x=>match fR e x with|some (.f .bool b)=>K (.f .bool (!b)) 0 0 h nx|_=>D
  |.conv k x=>match fR e x with|some (.f (.int _) n)=>K (.f (.int k) (bl k n)) 0 0 h nx|_=>D
  |.slc sz x lo hi mx=>match fR e x with
   |some v=>(match lo,hi,mx with
    |none,M (.const (.int _ 0)),M (.const (.int _ 0))=>if (lenOf h v).isSome then K .emp 0 0 h nx else D
    |none,M b,D=>(match v,fR e b with
     |.f (.sl T) xs,M (.f (.int _) j)=>if aA sz T.size then chk (cZ 0 j&&cZ j (ai xs)) λ_=>K (.f (.sl T) (dJ (aQ j) xs)) 0 0 h nx else D
     |.row id,M (.f (.int _) j)=>(match h.get id with
      |some (.rows ty p T xs)=>if aA sz T.size then
        chk (cZ 0 j&&fJ j (ai xs)) λ_=>K (.row nx) (kE id) (kE id|||kE nx) ((h.set id (M (.dead p sz (ai xs)))).set nx (M (.rows ty af T (dJ (aQ j) xs)))) (nx+1)
       else D
      |_=>D)
     |_,_=>D)
    |some b,D,D=>(match v,fR e b with
     |.f (.sl T) xs,M (.f (.int _) j)=>if aA sz T.size then chk (cZ 0 j&&cZ j (ai xs)) λ_=>K (.f (.sl T) (List.drop (aQ j) xs)) 0 0 h nx else D
     |.row id,M (.f (.int _) j)=>(match h.get id with
      |some (.rows _ _ T xs)=>if aA sz T.size then chk (cZ 0 j&&fJ j (ai xs)) λ_=>K (.rtl id j) 0 0 h nx else D
      |_=>D)
     |_,_=>D)
    |_,_,_=>D)
   |none=>D
  |.fad off x=>match fR e x with
   |some (.ptr id o)=>K (.ptr id (o+off)) 0 0 h nx
   |some (.pel id sz j o)=>K (.pel id sz j (o+off)) 0 0 h nx
   |some (.fel T xs j hj o)=>K (.fel T xs j hj (o+off)) 0 0 h nx
   |_=>D
  |.fld off sz ag x=>match fR e x with
   |some (.agg l)=>(match T2 l off sz ag with|some v=>K v 0 0 h nx|none=>D)
   |some (.f T v)=>if T.one then D else (match ov 40 T v off sz ag with|some v=>K v 0 0 h nx|none=>D)
   |_=>D
  |.iad sz x i=>match fR e x,fR e i with
   |some (.row id),M (.f (.int _) j)=>(match h.get id with
    |some (.rows _ _ T xs)=>if aA sz T.size then chk (fy j xs.length) λ_=>K (.pel id sz j 0) 0 0 h nx else D
    |_=>D)
   |some (.f (.sl T) xs),M (.f (.int _) j)=>if aA sz T.size then chk (fy j (ai xs)) λhj=>K (.fel T xs j hj 0) 0 0 h nx else D
   |some (.csl id sz' n),M (.f (.int _) j)=>if aA sz' sz then chk (cZ 0 j&&fJ j n) λ_=>K (.ptr id (aQ j*sz)) 0 0 h nx else D
   |_,_=>D
  |.iada n sz x i=>match fR e x,fR e i with
   |some (.ptr id off),M (.f (.int _) j)=>(match arrB n sz off (h.get id) with
    |some _=>chk (cZ 0 j&&fJ j n) λ_=>K (.pel id sz j off) 0 0 h nx
    |none=>chk (cZ 0 j&&fJ j n) λ_=>K (.ptr id (off+aQ j*sz)) 0 0 h nx)
   |_,_=>D
  |.idx n sz ag x i=>match fR e x,fR e i with
   |some v,M (.f (.int _) j)=>(match aml n sz v ag with
    |some ⟨T,xs⟩=>chk (cZ 0 j&&fJ j n) λ_=>K (.f T (aJ xs j)) 0 0 h nx
    |none=>(match v with
     |.agg l=>chk (cZ 0 j&&fJ j n) λ_=>(match T2 l (aQ j*sz) sz ag with|some v=>K v 0 0 h nx|none=>D)
     |.f T v=>if T.one then D else chk (cZ 0 j&&fJ j n) λ_=>(match ov 40 T v (aQ j*sz) sz ag with|some v=>K v 0 0 h nx|none=>D)
     |_=>D))
   |_,_=>D
  |.ext x i=>match fR e x with|some (.tup l)=>(match l[i]? with|some v=>K v 0 0 h nx|none=>D)|_=>D
  |.len x=>match fR e x with
   |some v=>(match lenOf h v with|some n=>K (.f (.int .i64) (aN n)) 0 0 h nx|none=>D)
   |none=>D
  |.lens x=>match fR e x with
   |some (.f .str s)=>K (.f (.int .i64) (aN (ai s))) 0 0 h nx
   |_=>D
  |.max x y=>match fR e x,fR e y with
   |some (.f (.int k) a),M (.f (.int k') b)=>if k==k' then K (.f (.int k) (gO a b)) 0 0 h nx else D
   |_,_=>D
  |.min x y=>match fR e x,fR e y with
   |some (.f (.int k) a),M (.f (.int k') b)=>if k==k' then K (.f (.int k) (G' a b)) 0 0 h nx else D
   |_,_=>D
  |.sidx x i=>match fR e x,fR e i with
   |some (.f .str s),M (.f (.int _) j)=>chk (fy j (ai s)) λ_=>K (.f (.int .u8) (AA s j)) 0 0 h nx
   |_,_=>D
  |.rng x=>match fR e x with
   |some (.f .str s)=>K (.ptr nx 0) 0 (0|||kE nx) ((eB 0 h).set nx (M (.mp itK .un [((s,0),())]))) (nx+1)
   |_=>D
  |.nxt x=>match fR e x with
   |some (.ptr id 0)=>(match h.get id with
    |some (.mp K' V es)=>(match itE K' V es with
     |some (s,p)=>aG (gx p (ai s)) (chk (fJ (AA s (aN p)) 128) λ_=>K (.tup [.f .bool J,.f (.int .i64) (aN p),.f (.int .i32) (AA s (aN p))]) (kE id) (0|||kE id) ((eB 0 h).set id (M (.mp itK .un [((s,aN (p+1)),())]))) nx)
       (K (.tup [.f .bool af]) (kE id) (0|||kE id) ((eB 0 h).set id (M (.mp itK .un [((s,aN p),())]))) nx)
     |none=>D)
    |_=>D)
   |_=>D
  |.mkm=>K (.mp nx) 0 (0|||kE nx) ((eB 0 h).set nx (M (.mp .un .un []))) (nx+1)
  |.lku str ok z x k=>match fR e x,fR e k with
   |some (.mp id),M (.f KT A)=>(match h.get id with
    |some (.mp K' V es)=>if X6 str KT&&Up K' then (match mpE K' V es with
     |true=>(match cst z with|some v=>K (pkT ok v (.f .bool af)) (kE id) 0 h nx|none=>D)
     |false=>(match uK (S:=KT) K' A,cst z with
      |some kv',M (.f Z zv)=>(match uK (S:=Z) V zv with
       |some zv'=>K (pkT ok (.f V (wy kv' es zv')) (.f .bool (aj1 kv' es))) (kE id) 0 h nx
       |none=>D)
      |_,_=>D)) else D
    |some (.cells D l)=>(match uK (S:=KT) (.int .i64) A with
     |some n=>if !str&&(!ok&&tL z)&&(cZ 0 n&&fJ n l.length) then (match l[aQ n]? with|some v=>K v (kE id) 0 h nx|none=>D) else D
     |none=>D)
    |_=>D)
   |_,_=>D
  |.mup str x k v=>match fR e x,fR e k,fR e v with
   |some (.mp id),M (.f KT A),M (.f VT U)=>(match h.get id with
    |some (.mp K' V es)=>if (X6 str KT&&VT.one)&&Up K' then (match mpE K' V es with
     |true=>K .undef (kE id) (0|||kE id) ((eB 0 h).set id (M (.mp KT VT [(A,U)]))) nx
     |false=>(match uK (S:=KT) K' A,uK (S:=VT) V U with
      |some kv',M vv'=>K .undef (kE id) (0|||kE id) ((eB 0 h).set id (M (.mp K' V (ED kv' vv' es)))) nx
      |_,_=>D)) else D
    |_=>D)
   |some (.mp id),M (.f KT A),M (.row i)=>(match h.get id with
    |some (.cells D l)=>(match uK (S:=KT) (.int .i64) A with
     |some n=>if !str&&(cZ 0 n&&fJ n l.length) then K .undef (kE id) (0|||kE id) ((eB 0 h).set id (M (.cells D (splice l (aQ n) [.row i])))) nx else D
     |none=>D)
    |_=>D)
   |_,_,_=>D
  |.lenm x=>match fR e x with
   |some (.mp id)=>(match h.get id with
    |some (.mp K' _ es)=>if Up K' then K (.f (.int .i64) (aN es.length)) (kE id) 0 h nx else D
    |_=>D)
   |_=>D
  |.mkf f caps=>match FM e caps with|some l=>K (.clo f l) 0 0 h nx|none=>D
  |_=>D
def ZO {R:Type} (e:iX) (g:I (Nat×Bool)) (K:Bool->iX->I R):I R:=match g with
 |none=>K J e
 |some (t,want)=>match e.get t with
  |some (.f .bool b)=>(match want with
   |true=>aG b (K J (e.set t (M (.f .bool J)))) (K af (e.set t (M (.f .bool af))))
   |false=>aG b (K af (e.set t (M (.f .bool J)))) (K J (e.set t (M (.f .bool af)))))
  |some .undef=>K af e
  |_=>D
def Et (e:iX) (d:I Nat) (v:TV):iX:=match d with
 |none=>e
 |some d=>e.set d (M v)
structure TS where
 e:iX
 h:bi
 nx:Nat
def Lu {R:Type} (con:FuncId->I cA) (b9:TypeId->I Ty):Y sO->TS->Y FPm->(TS->Y FPm->I R)->I R
 |[],s,fs,K=>K s fs.reverse
 |o::r,s,fs,K=>ZO s.e o.guard λrun e=>match run with
  |true=>dX con b9 o.op e s.h s.nx λv rd wr h nx=>if Lx h v then Lu con b9 r ⟨Et e o.dst v,h,nx⟩ (⟨rd,wr⟩::fs) K else D
  |false=>Lu con b9 r ⟨Et e o.dst .undef,s.h,s.nx⟩ (⟨0,0⟩::fs) K
inductive Adj where
 |nil (k:Nat) (ty:TypeId) (T:Ty)
 |cel (k:Nat) (off:Nat) (ty:TypeId) (T:Ty)
 |mpt (k:Nat) (K V:Ty)
 |mz (k n:Nat)
 |pk (k:Nat) (off:Nat) (T:Ty)
 |ren (k:Nat) (off:Nat)
mutual
def Lo (id sz n:Nat):TV->TV
 |.csl i s m=>if aA i id&&aA s sz&&aA m n then .row id else .csl i s m
 |.agg l=>.agg (Cz id sz n l)
 |.tup l=>.tup (Cz id sz n l)
 |.clo g l=>.clo g (Cz id sz n l)
 |.f T v=>.f T v
 |.fel T xs j h off=>.fel T xs j h off
 |.pel a b c d=>.pel a b c d
 |.ptr a b=>.ptr a b
 |.row a=>.row a
 |.rtl a j=>.rtl a j
 |.emp=>.emp
 |.nil=>.nil
 |.mp a=>.mp a
 |.undef=>.undef
 |.np=>.np
 |.anyb=>.anyb
def Cz (id sz n:Nat):Y TV->Y TV
 |[]=>[]
 |x::r=>Lo id sz n x::Cz id sz n r
end
def XU (id sz n:Nat):iu->iu
 |.cells ty l=>.cells ty (Cz id sz n l)
 |.rows ty p T xs=>.rows ty p T xs
 |.dead p s m=>.dead p s m
 |.mp K V es=>.mp K V es
def an2 (s:TS) (k off:Nat):I (Nat×Nat×Nat):=match s.e.get k with
 |some (.csl id sz n)=>M (id,sz,n)
 |some (.agg l)=>(match l[off]? with|some (.csl id sz n)=>M (id,sz,n)|_=>D)
 |some (.ptr a o)=>(match s.h.get a with
  |some (.cells (M _) l)=>(match l[o+off]? with|some (.csl id sz n)=>M (id,sz,n)|_=>D)
  |_=>D)
 |_=>D
def pkS (s:TS) (T:Ty) (id sz n:Nat):I TS:=match s.h.get id with
 |some (.cells (M ty) l)=>if aA sz T.size then (match yY s.h T n l with
  |some (xs,m)=>if aM m id then D else M ⟨PT.updI (λ_ v=>Lo id sz n v) 1 0 s.e,(PT.updI (λ_ b=>XU id sz n b) 1 0 (eB m s.h)).set id (M (.rows ty af T xs)),s.nx⟩
  |none=>D) else D
 |_=>D
def aey:TV->Bool
 |.nil=>J
 |.emp=>J
 |_=>af
def ama:I TV->I (Nat×Nat)
 |some (.ptr id o)=>M (id,o)
 |some (.csl id _ _)=>M (id,0)
 |some (.mp id)=>M (id,0)
 |_=>D
def Ml (s:TS):Adj->I TS
 |.nil k ty T=>match s.e.get k with
  |some v=>if aey v then M ⟨s.e.set k (M (.row s.nx)),s.h.set s.nx (M (.rows ty J T [])),s.nx+1⟩ else M s
  |none=>D
 |.cel k off ty T=>match ama (s.e.get k) with
  |some (id,o)=>(match s.h.get id with
   |some (.cells cty l)=>(match l[o+off]? with
    |some v=>if aey v then M ⟨s.e,(s.h.set s.nx (M (.rows ty J T []))).set id (M (.cells cty (splice l (o+off) [.row s.nx]))),s.nx+1⟩ else M s
    |none=>D)
   |_=>D)
  |_=>D
 |.mpt k K V=>match s.e.get k with
  |some (.mp id)=>(match s.h.get id with
   |some (.mp K' V' es)=>(match mpE K' V' es&&Up K with
    |true=>M ⟨s.e,s.h.set id (M (.mp K V [])),s.nx⟩
    |false=>M s)
   |_=>D)
  |_=>D
 |.mz k n=>match s.e.get k with
  |some (.mp id)=>(match s.h.get id with
   |some (.mp K' V' es)=>(match mpE K' V' es with
    |true=>M ⟨s.e,s.h.set id (M (.cells D (aB n .nil))),s.nx⟩
    |false=>D)
   |_=>M s)
  |_=>D
 |.pk k off T=>match an2 s k off with
  |some (id,sz,n)=>pkS s T id sz n
  |none=>D
 |.ren k off=>match s.e.get k with
  |some (.ptr b o)=>(match s.h.get b with
   |some (.cells (M cty) l)=>(match l[o+off]? with
    |some (.row id)=>(match s.h.get id with
     |some (.rows ty p T xs)=>M ⟨s.e,((s.h.set id (M (.dead p T.size xs.length))).set s.nx (M (.rows ty p T xs))).set b (M (.cells (M cty) (splice l (o+off) [.row s.nx]))),s.nx+1⟩
     |_=>D)
    |_=>D)
   |_=>D)
  |some (.row id)=>(match s.h.get id with
   |some (.rows ty p T xs)=>M ⟨s.e.set k (M (.row s.nx)),(s.h.set id (M (.dead p T.size xs.length))).set s.nx (M (.rows ty p T xs)),s.nx+1⟩
   |_=>D)
  |_=>D
def Y1 (s:TS):Y Adj->I TS
 |[]=>M s
 |a::r=>match Ml s a with|some s'=>Y1 s' r|none=>D
structure ZG where
 keep:ι
 ks:ι
 t:Tm
 pre:List Adj
abbrev ZG.D (A:ZG):Type:=A.t.ty.den
mutual
def ut:TV->Bool
 |.f _ _=>J
 |.fel _ _ _ _ _=>J
 |.emp=>J
 |.nil=>J
 |.undef=>J
 |.np=>J
 |.anyb=>J
 |.agg l=>qE l
 |.tup l=>qE l
 |.pel _ _ _ _=>af
 |.ptr _ _=>af
 |.csl _ _ _=>af
 |.row _=>af
 |.rtl _ _=>af
 |.mp _=>af
 |.clo _ _=>af
def qE:Y TV->Bool
 |[]=>J
 |x::r=>ut x&&qE r
end
def C3 (am:Nat) (e:iX):ι->iX
 |[]=>PT.leaf
 |k::r=>match e.get k with|some v=>if ut v&& !(aM am k) then (C3 am e r).set k (M v) else C3 am e r|none=>C3 am e r
def og (e:iX):ι->I (Y TV)
 |[]=>M []
 |k::r=>match e.get k with|some v=>(match og e r with|some l=>M (v::l)|none=>D)|none=>D
def XW (e:iX):ι->Y TV->iX
 |k::r,v::l=>(XW e r l).set k (M v)
 |_,_=>e
def HU (am:Nat) (e0 e:iX):ι->Bool
 |[]=>J
 |k::r=>(match e0.get k with
  |some v=> !(ut v)||aM am k||(match e.get k with|some _=>J|none=>af)
  |none=>J)&&HU am e0 e r
def LY (np:Nat) (A:ZG) (am:Nat) (a s:TS):I A.D:=if eO np A.t.bs.length&&HU am a.e s.e A.keep then (match Y1 s A.pre with
 |some s=>(match og s.e A.ks with
  |some vs=>(match EE np A.t vs s.h with
   |some ⟨x,_,_,_⟩=>M x
   |none=>D)
  |none=>D)
 |none=>D) else D
def G5 (A:ZG) (am:Nat) (s:TS) (x:A.D):I TS:=match C5 A.t x with
 |some (vs,h)=>if aA vs.length A.ks.length then M ⟨XW (C3 am s.e A.keep) A.ks vs,h,A.t.bs.length⟩ else D
 |none=>D
inductive TC where
 |skip
 |reg (ops:List sO) (prs:List (Nat×Nat))
 |seq (a b:TC)
 |jseq (A:ZG) (a b:TC)
 |cond (c:Nat) (a b:TC)
 |block (id:Nat) (b:TC)
 |jblock (A:ZG) (id:Nat) (b:TC)
 |loop (A:ZG) (b:TC)
 |exit (id:Nat)
 |ret
 |defer (f:FuncId) (caps:List Operand) (t:Nat)
 |adj (l:List Adj) (c:TC)
 |split (k off lo n:Nat) (c:TC)
 |unl (n:Nat) (b:TC)
 |bad
def Pv:Y sO->Nat->Nat
 |[],acc=>acc
 |o::r,acc=>Pv r (match o.dst with|some d=>acc|||kE d|none=>acc)
def LA:ι->Nat->Nat
 |[],acc=>acc
 |k::r,acc=>LA r (acc|||kE k)
def mG:Y Adj->Nat->Nat
 |[],acc=>acc
 |.nil k _ _::r,acc=>mG r (acc|||kE k)
 |.cel _ _ _ _::r,acc=>mG r acc
 |.mpt _ _ _::r,acc=>mG r acc
 |.mz _ _::r,acc=>mG r acc
 |.pk _ _ _::r,acc=>mG r acc
 |.ren k _::r,acc=>mG r (acc|||kE k)
def TC.asg:TC->Nat->Nat
 |.reg ops _,acc=>Pv ops acc
 |.seq a b,acc=>b.asg (a.asg acc)
 |.jseq A a b,acc=>b.asg (a.asg (LA A.ks acc))
 |.cond _ a b,acc=>b.asg (a.asg acc)
 |.block _ b,acc=>b.asg acc
 |.jblock A _ b,acc=>b.asg (LA A.ks acc)
 |.loop A b,acc=>b.asg (LA A.ks acc)
 |.defer _ _ t,acc=>acc|||kE t
 |.adj l c,acc=>c.asg (mG l acc)
 |.split _ _ _ _ c,acc=>c.asg acc
 |.unl _ b,acc=>b.asg acc
 |.skip,acc=>acc
 |.exit _,acc=>acc
 |.ret,acc=>acc
 |.bad,acc=>acc
inductive adb where
 |j (A:ZG)
 |a (l:List Adj)
 |s (k off lo n:Nat)
 |u (n:Nat)
def If (H:PT adb) (n:Nat) (c:TC):TC:=match H.get n with|some (.a l)=>.adj l c|some (.s k off lo m)=>.split k off lo m c|_=>c
def DP (H:PT adb):SC->Nat->TC×Nat
 |.skip,n=>(If H n .skip,n+1)
 |.reg o p,n=>(If H n (.reg o p),n+1)
 |.seq a b,n=>match DP H a (n+1) with
  |(a',k)=>(match DP H b k with|(b',k')=>((match H.get n with|some (.j A)=>.jseq A a' b'|_=>.seq a' b'),k'))
 |.cond c a b,n=>match DP H a (n+1) with
  |(a',k)=>(match DP H b k with|(b',k')=>(If H n (.cond c a' b'),k'))
 |.block id b,n=>match DP H b (n+1) with|(b',k)=>((match H.get n with|some (.j A)=>.jblock A id b'|_=>.block id b'),k)
 |.loop b,n=>match DP H b (n+1) with|(b',k)=>((match H.get n with|some (.j A)=>.loop A b'|some (.u m)=>.unl m b'|_=>.bad),k)
 |.exit id,n=>(If H n (.exit id),n+1)
 |.ret,n=>(If H n .ret,n+1)
 |.defer f c t,n=>(.defer f c t,n+1)
 |.bad,n=>(.bad,n+1)
def aat (s:TS) (k off:Nat):I (IntKind×Int):=match s.e.get k with
 |some (.f (.int kd) v)=>M (kd,v)
 |some (.ptr a o)=>(match s.h.get a with
  |some (.cells (M _) l)=>(match l[o+off]? with|some (.f (.int kd) v)=>M (kd,v)|_=>D)
  |_=>D)
 |_=>D
def T8 (s:TS) (k off:Nat) (kd:IntKind) (v:Int):I TS:=match s.e.get k with
 |some (.f (.int _) _)=>M ⟨s.e.set k (M (.f (.int kd) v)),s.h,s.nx⟩
 |some (.ptr a o)=>(match s.h.get a with
  |some (.cells (M ty) l)=>M ⟨s.e,s.h.set a (M (.cells (M ty) (splice l (o+off) [.f (.int kd) v]))),s.nx⟩
  |_=>D)
 |_=>D
def spl {R:Type} (v:Int) (f:Nat->I R):Nat->Nat->I R
 |_,0=>D
 |i,m+1=>aG (decide ((v:Int)=aN i)) (f i) (spl v f (i+1) m)
def ae3 {R:Type} (f:TS->(Ex->TS->I R)->I R):Nat->TS->(Ex->TS->I R)->I R
 |0,_,_=>D
 |m+1,s,K=>f s λex s'=>match ex with
  |.normal=>ae3 f m s' K
  |ex=>K ex s'
def pg {R:Type} (np:Nat) (con:FuncId->I cA) (b9:TypeId->I Ty) (inert:FuncId->Bool):TC->TS->(Ex->TS->I R)->I R
 |.skip,s,K=>K .normal s
 |.reg ops prs,s,K=>Lu con b9 ops s [] λs' fs=>if FL fs prs then K .normal s' else D
 |.seq a b,s,K=>pg np con b9 inert a s λex s'=>match ex with|.normal=>pg np con b9 inert b s' K|ex=>K ex s'
 |.jseq A a b,s,K=>jn (pg np con b9 inert a s λex s'=>match ex with
   |.normal=>av (LY np A (a.asg 0) s s') λx=>M (.inr x)
   |ex=>av (K ex s') λr=>M (.inl r)) λx=>(match G5 A (a.asg 0) s x with|some s'=>pg np con b9 inert b s' K|none=>D)
 |.cond c a b,s,K=>match s.e.get c with
  |some (.f .bool t)=>aG t (pg np con b9 inert a s K) (pg np con b9 inert b s K)
  |some .anyb=>Fr (pg np con b9 inert a s K) (pg np con b9 inert b s K)
  |_=>D
 |.block id b,s,K=>pg np con b9 inert b s λex s'=>match ex with
  |.exit i=>if aA i id then K .normal s' else K (.exit i) s'
  |ex=>K ex s'
 |.jblock A id b,s,K=>jn (pg np con b9 inert b s λex s'=>match ex with
   |.normal=>av (LY np A (b.asg 0) s s') λx=>M (.inr x)
   |.exit i=>if aA i id then av (LY np A (b.asg 0) s s') λx=>M (.inr x) else av (K (.exit i) s') λr=>M (.inl r)
   |.ret=>av (K .ret s') λr=>M (.inl r)) λx=>(match G5 A (b.asg 0) s x with|some s'=>K .normal s'|none=>D)
 |.loop A b,s,K=>av (LY np A (b.asg 0) s s) λx=>iter (λx=>match G5 A (b.asg 0) s x with
   |some s'=>pg np con b9 inert b s' λex s'=>(match ex with
    |.normal=>av (LY np A (b.asg 0) s s') λy=>M (.inl y)
    |ex=>av (K ex s') λr=>M (.inr r))
   |none=>D) x
 |.exit id,s,K=>K (.exit id) s
 |.ret,s,K=>K .ret s
 |.defer f caps t,s,K=>match FM s.e caps with
  |some l=>if inert f then K .normal ⟨s.e.set t (M (.clo f l)),s.h,s.nx⟩ else D
  |none=>D
 |.adj l c,s,K=>match Y1 s l with|some s'=>pg np con b9 inert c s' K|none=>D
 |.split k off lo n c,s,K=>match aat s k off with
  |some (kd,v)=>spl v (λi=>match T8 s k off kd (aN i) with|some s'=>pg np con b9 inert c s' K|none=>D) lo n
  |none=>D
 |.unl n b,s,K=>ae3 (λs K=>pg np con b9 inert b s K) n s K
 |.bad,_,_=>D
def KP:Nat->Y TV->iX
 |_,[]=>PT.leaf
 |k,x::r=>(KP (k+1) r).set k (M x)
def rvT (s:TS):RV->I TV
 |.tmp t=>s.e.get t
 |.cell a sz ag=>match s.e.get a with
  |some (.ptr id off)=>(match s.h.get id with|some (.cells (M _) l)=>T2 l off sz ag|_=>D)
  |_=>D
def T_ (s:TS):Y RV->I (Y TV)
 |[]=>M []
 |x::r=>match rvT s x with|some v=>(match T_ s r with|some l=>M (v::l)|none=>D)|none=>D
structure FT where
 pre:Tm
 post:Tm
 hints:PT adb
def ZX (con:FuncId->I cA) (b9:TypeId->I Ty) (inert:FuncId->Bool) (F:I SF) (z:FT) (x:z.pre.ty.den):I z.post.ty.den:=
 match F with
 |some a=>(match C5 z.pre x with
  |some (args,h)=>if eO args.length a.nt&&eO z.pre.bs.length z.post.bs.length then
    pg z.pre.bs.length con b9 inert (DP z.hints a.code 0).1 ⟨KP 0 args,h,z.pre.bs.length⟩ λex s=>(match ex with
    |.exit _=>D
    |_=>(match T_ s a.res with
     |some l=>(match EE z.pre.bs.length z.post l s.h with
      |some ⟨y,_,_,_⟩=>(match C5 z.post y with|some _=>M y|none=>D)
      |none=>D)
     |none=>D)) else D
  |none=>D)
 |none=>D
abbrev aL:Ty:=(.int .i64)
abbrev kO:Ty:=(.st (.pr .str (.pr aL (.pr aL (.pr .bool aL)))))
abbrev rT:Ty:=(.st (.pr .str .bool))
abbrev mn:Ty:=(.st (.pr .str aL))
abbrev pI:Ty:=(.st (.pr aL (.pr aL aL)))
abbrev oG:Ty:=(.st (.pr (.sl kO) (.pr (.sl rT) (.pr (.sl mn) (.pr (.sl .str) (.pr (.sl .str) (.sl pI)))))))
abbrev vR:Ty:=(.sl (.sl aL))
abbrev eX:Ty:=(.st (.pr aL (.pr (.sl aL) (.pr vR aL))))
abbrev qW:Ty:=(.st (.pr aL (.pr aL (.pr aL (.pr aL (.pr aL aL))))))
abbrev eh:Ty:=(.st (.pr aL (.sl aL)))
abbrev qd:Ty:=(.sl .bool)
abbrev ik:Ty:=(.st (.pr aL (.pr aL .bool)))
abbrev Hy:Ty:=(.st (.pr (.sl eh) (.pr aL (.pr qd (.sl ik)))))
abbrev jE:Ty:=(.st (.pr aL (.pr aL (.pr aL (.pr aL (.pr aL (.pr (.sl aL) (.sl aL))))))))
abbrev G2:Ty:=(.st (.pr aL (.pr aL (.pr .str (.pr aL (.pr aL .str))))))
abbrev s7:Ty:=(.st (.pr .str (.pr aL (.pr (.sl .str) (.sl .sm)))))
abbrev ND:Ty:=(.st (.pr (.sl G2) (.sl s7)))
abbrev xd:Ty:=(.st (.pr aL (.sl qW)))
abbrev uL:Ty:=(.st (.pr oG (.sl xd)))
abbrev vS:Ty:=(.st (.pr Hy (.pr (.sl aL) (.pr (.sl aL) (.sl eX)))))
abbrev iY:Ty:=(.st (.pr Hy (.pr (.sl aL) (.pr (.sl aL) (.sl aL)))))
abbrev D':Ty:=(.sl (.int .u8))
abbrev yO:Ty:=(.st (.pr D' aL))
abbrev il:Ty:=(.st (.pr aL aL))
abbrev mH:Ty:=(.st (.pr oG (.sl jE)))
abbrev S6:=(ζ×Int×Int×Bool×Int)
abbrev oo:=(Y S6)
abbrev mQ:=(Y (ζ×Bool))
abbrev jX:=(ζ×Int)
abbrev dl:=(Y ζ)
abbrev fD:=(oo×mQ×(Y jX)×dl×dl×Y π)
abbrev sr:=(oo×mQ×(Y jX)×dl×dl×(Y π)×dl×Int×Int)
abbrev jt:=(Y (Int×η))
abbrev ef:=(Int×Int×Bool)
abbrev sQ:=(jt×Int×(θ)×Y ef)
abbrev vO:=(Int×(η)×(Y η)×Int)
abbrev ly:=(ω)
abbrev jB:=(Int×Int×Int×Int×Int×(η)×η)
abbrev ajt:=(Int×Int×(ζ)×Int×Int×ζ)
abbrev w_:=(Y ajt)
abbrev w9:=(ζ×Int×dl×Y Sx)
abbrev Cq:=(Int×Int×Bool×Bool×Bool×Bool)
abbrev Cp:=(fD×Y (Int×Y ly))
abbrev D9:=(υ)
abbrev gk:=(sQ×(η)×(η)×η)
abbrev g_:=(η×Int)
abbrev xV:=(sQ×(η)×(η)×Y vO)
abbrev V5:=(Int×Int×(ζ)×(ζ)×Int×Int×ζ)
abbrev xa:=(w_×(Y w9)×Int)
abbrev S7:=(Bool×Y ζ)
abbrev Ya23:=(Int×Int×vO×vO×Int×(η)×(Y η)×Int)
abbrev Ya24:=(vO×Int×Int×vO×Int×(η)×(Y η)×Int)
abbrev Ya25:=(vO×vO×Int×Int×Int×(η)×(Y η)×Int)
abbrev acn:=((Y Sx)×Cq×g_×Bool×Y ζ)
abbrev Ya27:=(Int×Int×vO×Int×(η)×(Y η)×Int)
abbrev Ya28:=(vO×Int×Int×Int×(η)×(Y η)×Int)
abbrev Ya29:=(Int×Int×Int×(η)×(Y η)×Int)
abbrev Y4:=(Int×Cq×g_×Bool×Y ζ)
abbrev acm:=(Sx×Cq×g_×Bool×Y ζ)
abbrev aga:=(ν×xa×(Bool×Y Sx)×dl×Y ζ)
abbrev Mm:=(Sx×sr×Y ly)
abbrev D8:=(xV×jB×Bool)
abbrev acl:=((Sx×Int×Int×Int)×sr×Y ly)
abbrev ag9:=(ν×Cq×g_×Bool×Y ζ)
abbrev ag8:=(jX×Cq×g_×Bool×Y ζ)
abbrev Y3:=(Cq×g_×S7×Y Sx)
abbrev ag7:=(Xp×Cq×g_×Bool×Y ζ)
abbrev Ya42:=(vO×vO×vO×Int×Int)
abbrev ack:=((Y Sx)×sr×Y ly)
abbrev aV {α:Type} (l:Y α):Int:=aN (ai l)
abbrev cG (n:Int):Int:=bl .i64 (n+1)
abbrev aE {R α:Type} (x:α):I (R⊕α):=M (bX x)
abbrev cP {R α:Type} (x:R):I (R⊕α):=M (oX x)
abbrev bM {R:Type} (T:Ty) (l:Y T.den) (j:Int) (k:T.den->I R):I R:=chk (fy j (ai l)) λ_=>lt (aJ (T:=T) l j) k
abbrev lG {R:Type} (T:Ty) (l:Y T.den) (j:Int) (k:T.den->I R):I R:=chk (fy j (ai l)) λ_=>chk (fy j (ai l)) λ_=>lt (aJ (T:=T) l j) k
abbrev xi {R α:Type} (j:Int) (l:Y α) (k:I R):I R:=chk (fy j (ai l)) λ_=>k
abbrev bH {R:Type} (b:Bool) (k:I R):I R:=chk b λ_=>k
abbrev bg {R:Type} (a b:Int) (t f:I R):I R:=aG (decide (a=b)) t f
abbrev iU {R:Type} (a b:Int) (t f:I R):I R:=aG (!decide (a=b)) t f
abbrev bx {R:Type} (a b:Int) (t f:I R):I R:=aG (fJ a b) t f
abbrev jI {R:Type} (a b:Int) (t f:I R):I R:=aG (cZ a b) t f
def ck {R:Type} (b:Bool) (k:I R):I R:=chk b λ_=>chk b λ_=>k
def eo (s:Sx):Sx:=nY (Sx.op s,Sx.line s,Sx.name s,Sx.arg s,Sx.index s,em (Xp.op (Sx.expr s),Xp.n (Sx.expr s),Xp.name (Sx.expr s),Xp.l (Sx.expr s)),Sx.body s,Sx.els s)
def kG (x:Unit):I dl:=
 (M ([[118,97,114],[118,111,108,97,116,105,108,101],[109,117,116,101,120],[114,119,108,111,99,107],[99,111,110,100],[102,117,116,117,114,101],[116,104,114,101,97,100],[105,102],[101,108,115,101],[119,104,105,108,101],[108,111,99,107],[114,101,97,100],[119,114,105,116,101],[116,114,97,110,115,97,99,116,105,111,110],[97,116,111,109,105,99],[119,97,105,116],[110,111,116,105,102,121],[110,111,116,105,102,121,97,108,108],[115,112,97,119,110],[106,111,105,110],[115,101,116],[103,101,116]]))
def jN (x:ζ):I (Bool):=
 (av (kG ()) λc=>(iter (σ:=Int) (λa=>(bx a (aV c) (bM (.str) c a λq=>(aG (decide ((q:ζ)=x)) (aE J) (cP (cG a)))) (aE af))) 0))
def lJ (x:Int):I (Bool):=
 (jn (jI 97 x (jI x 122 (aE J) (jI 65 x (aE (cZ x 90)) (aE af))) (jI 65 x (aE (cZ x 90)) (aE af))) λa=>(M a))
def rB (x:Int):I (Bool):=
 (jn (jI 48 x (aE (cZ x 57)) (aE af)) λa=>(M a))
def px (x:Int):I (Bool):=
 (jn (av (lJ x) λc=>(aG c (aE J) (av (rB x) λa=>(aG a (aE J) (aE (decide ((x:Int)=95))))))) λq=>(M q))
def fh (x:ζ):I (Bool):=
 (jn (bx (aV x) 1 (aE J) (bx 12 (aV x) (aE J) (xi 0 x (av (lJ (AA x 0)) λs=>(aG (!s) (aE J) (av (jN x) λq=>(aE q))))))) λz=>(aG z (M af) (iter (σ:=Int) (λa=>(bx a (aV x) (xi a x (av (px (AA x a)) λc=>(aG (!c) (aE af) (cP (cG a))))) (aE J))) 0)))
def f_ (x:Bool):I (Int):=
 (aG x (M 1) (M 0))
def ul (x:ν):I (Int×Bool):=
 (bg x.1 4 (M ((bl .i64 (0-x.2)),J)) (bg x.1 5 (av (f_ (decide ((x.2:Int)=0))) λa=>(M (a,J))) (M (0,af))))
def sB (x:π):I (Int×Bool):=
 (bg x.1 6 (M ((bl .i64 (x.2.1+x.2.2)),J)) (bg x.1 7 (M ((bl .i64 (x.2.1-x.2.2)),J)) (bg x.1 8 (M ((bl .i64 (x.2.1*x.2.2)),J)) (bg x.1 9 (bg x.2.2 0 (M (0,J)) (bH (!decide ((x.2.2:Int)=0)) (M ((bl .i64 (Int.tdiv x.2.1 x.2.2)),J)))) (bg x.1 10 (bg x.2.2 0 (M (0,J)) (bH (!decide ((x.2.2:Int)=0)) (M ((Ag x.2.1 x.2.2),J)))) (bg x.1 11 (av (f_ (decide ((x.2.1:Int)=x.2.2))) λy1=>(M (y1,J))) (bg x.1 12 (av (f_ (!decide ((x.2.1:Int)=x.2.2))) λy2=>(M (y2,J))) (bg x.1 13 (av (f_ (fJ x.2.1 x.2.2)) λZ=>(M (Z,J))) (bg x.1 14 (av (f_ (cZ x.2.1 x.2.2)) λU=>(M (U,J))) (bg x.1 15 (av (f_ (fJ x.2.2 x.2.1)) λL=>(M (L,J))) (bg x.1 16 (av (f_ (cZ x.2.2 x.2.1)) λA=>(M (A,J))) (bg x.1 17 (jn (iU x.2.1 0 (av (f_ (!decide ((x.2.2:Int)=0))) λz=>(aE (z,J))) (av (f_ af) λs=>(aE (s,J)))) λx7=>(M x7)) (bg x.1 18 (jn (iU x.2.1 0 (av (f_ J) λc=>(aE (c,J))) (av (f_ (!decide ((x.2.2:Int)=0))) λa=>(aE (a,J)))) λq=>(M q)) (M (0,af)))))))))))))))
def rz (x:ν):I (Int):=
 (bx x.2 1 (M 0) (bH (!decide ((x.2:Int)=0)) (jn (bx (Ag x.1 x.2) 0 (aE (bl .i64 ((Ag x.1 x.2)+x.2))) (aE (Ag x.1 x.2))) λa=>(M a))))
def mB (x:Int):I (Int):=
 (jn (bg x 1 (aE J) (aE (decide ((x:Int)=2)))) λq=>(aG q (M 0) (jn (jI 3 x (aE (cZ x 5)) (aE af)) λc=>(aG c (M 1) (jn (jI 6 x (aE (cZ x 18)) (aE af)) λa=>(aG a (M 2) (M (-1))))))))
def ml (rr02_ShapedExpr:Xp->I (Bool)) (x:Xp):I (Bool):=
 (jn (bg (Xp.op x) 2 (aE (J,em ((Xp.op x),(Xp.n x),(Xp.name x),(Xp.l x)))) (aE ((decide (((Xp.op x):Int)=3)),em ((Xp.op x),(Xp.n x),(Xp.name x),(Xp.l x))))) λa=>(jn (α:=Bool×Xp) (av (mB (Xp.op a.2)) λL=>(iU L (aN (ai (Xp.l a.2))) (aE (J,em ((Xp.op a.2),(Xp.n a.2),(Xp.name a.2),(Xp.l a.2)))) (aG ((a.1==(!decide (((Xp.name a.2):ζ)=([])))) !=J) (aE (J,em ((Xp.op a.2),(Xp.n a.2),(Xp.name a.2),(Xp.l a.2)))) (aG a.1 (av (fh (Xp.name a.2)) λA=>(aG (!A) (aE (J,em ((Xp.op a.2),(Xp.n a.2),(Xp.name a.2),(Xp.l a.2)))) (bx (Xp.n a.2) 0 (aE (J,em ((Xp.op a.2),(Xp.n a.2),(Xp.name a.2),(Xp.l a.2)))) (iU (Xp.op a.2) 1 (aE ((!decide (((Xp.n a.2):Int)=0)),em ((Xp.op a.2),(Xp.n a.2),(Xp.name a.2),(Xp.l a.2)))) (aE (af,em ((Xp.op a.2),(Xp.n a.2),(Xp.name a.2),(Xp.l a.2)))))))) (bx (Xp.n a.2) 0 (aE (J,em ((Xp.op a.2),(Xp.n a.2),(Xp.name a.2),(Xp.l a.2)))) (iU (Xp.op a.2) 1 (aE ((!decide (((Xp.n a.2):Int)=0)),em ((Xp.op a.2),(Xp.n a.2),(Xp.name a.2),(Xp.l a.2)))) (aE (af,em ((Xp.op a.2),(Xp.n a.2),(Xp.name a.2),(Xp.l a.2)))))))))) λq=>(aG q.1 (M af) (iter (σ:=Int×Xp) (λc=>(bx c.1 (aN (ai (Xp.l c.2))) (bM (.ex) (Xp.l c.2) c.1 λs=>(av (rr02_ShapedExpr s) λz=>(aG (!z) (aE af) (cP ((cG c.1),em ((Xp.op c.2),(Xp.n c.2),(Xp.name c.2),(Xp.l c.2))))))) (aE J))) (0,em ((Xp.op q.2),(Xp.n q.2),(Xp.name q.2),(Xp.l q.2)))))))
def ij:Nat->Xp->I (Bool)
 |0,_=>D
 |n+1,x=>ml (ij n) x
theorem sI (n:Nat) (x:Xp):ij (n+1) x=ml (ij n) x:=rfl
def jk (x:Xp):I (Bool):=ij fuel x
def pw (x:Xp):I (Bool):=
 (jn (α:=Bool) (bg (Xp.op x) 0 (bg (Xp.n x) 0 (aG (decide (((Xp.name x):ζ)=([]))) (aE (decide (((aN (ai (Xp.l x))):Int)=0))) (aE af)) (aE af)) (aE af)) λa=>(M a))
def km (rr02_ShapedStmt:Sx->I (Bool)) (rr02_ShapedStmts:(Y Sx)->I (Bool)) (x:Sx):I (Bool):=
 (jn (bx (Sx.op x) 1 (aE (J,eo x)) (aE ((fJ 15 (Sx.op x)),eo x))) λU=>(aG U.1 (M af) (jn (bg (Sx.op U.2) 2 (aE (J,eo U.2)) (bg (Sx.op U.2) 3 (aE (J,eo U.2)) (bg (Sx.op U.2) 7 (aE (J,eo U.2)) (aE ((decide (((Sx.op U.2):Int)=8)),eo U.2))))) λz=>(jn (α:=Bool×Sx) (aG z.1 (aG (!decide (((Sx.name z.2):ζ)=([]))) (aE (J,eo z.2)) (aG (!z.1) (av (fh (Sx.name z.2)) λy4=>(aE ((!y4),eo z.2))) (aE (af,eo z.2)))) (aG (!z.1) (av (fh (Sx.name z.2)) λy5=>(aE ((!y5),eo z.2))) (aE (af,eo z.2)))) λs=>(aG s.1 (M af) (jn (α:=Bool×Sx) (bg (Sx.op s.2) 15 (av (fh (Sx.arg s.2)) λy7=>(aG (!y7) (aE (J,eo s.2)) (iU (Sx.op s.2) 15 (aE ((!decide (((Sx.arg s.2):ζ)=([]))),eo s.2)) (aE (af,eo s.2))))) (iU (Sx.op s.2) 15 (aE ((!decide (((Sx.arg s.2):ζ)=([]))),eo s.2)) (aE (af,eo s.2)))) λq=>(aG q.1 (M af) (jn (bx 1 (aN (ai (Sx.index q.2))) (aE (J,eo q.2)) (iU (Sx.op q.2) 1 (bx 0 (aN (ai (Sx.index q.2))) (aE (J,eo q.2)) (bg (aN (ai (Sx.index q.2))) 1 (bM (.ex) (Sx.index q.2) 0 λz9=>(av (jk z9) λy10=>(aE ((!y10),eo q.2)))) (aE (af,eo q.2)))) (bg (aN (ai (Sx.index q.2))) 1 (bM (.ex) (Sx.index q.2) 0 λz11=>(av (jk z11) λy12=>(aE ((!y12),eo q.2)))) (aE (af,eo q.2))))) λL=>(aG L.1 (M af) (jn (bg (Sx.op L.2) 1 (aE (J,eo L.2)) (bg (Sx.op L.2) 2 (aE (J,eo L.2)) (bg (Sx.op L.2) 3 (aE (J,eo L.2)) (aE ((decide (((Sx.op L.2):Int)=14)),eo L.2))))) λa=>(jn (aG a.1 (av (jk (em ((Xp.op (Sx.expr a.2)),(Xp.n (Sx.expr a.2)),(Xp.name (Sx.expr a.2)),(Xp.l (Sx.expr a.2))))) λy15=>(aG (!y15) (aE (J,eo a.2)) (aG (!a.1) (av (pw (em ((Xp.op (Sx.expr a.2)),(Xp.n (Sx.expr a.2)),(Xp.name (Sx.expr a.2)),(Xp.l (Sx.expr a.2))))) λy16=>(aE ((!y16),eo a.2))) (aE (af,eo a.2))))) (aG (!a.1) (av (pw (em ((Xp.op (Sx.expr a.2)),(Xp.n (Sx.expr a.2)),(Xp.name (Sx.expr a.2)),(Xp.l (Sx.expr a.2))))) λy17=>(aE ((!y17),eo a.2))) (aE (af,eo a.2)))) λA=>(aG A.1 (M af) (jn (jI 2 (Sx.op A.2) (aE ((cZ (Sx.op A.2) 8),eo A.2)) (aE (af,eo A.2))) λc=>(jn (aG (!c.1) (bx 0 (aN (ai (Sx.body c.2))) (aE (J,eo c.2)) (iU (Sx.op c.2) 2 (aE ((fJ 0 (aN (ai (Sx.els c.2)))),eo c.2)) (aE (af,eo c.2)))) (iU (Sx.op c.2) 2 (aE ((fJ 0 (aN (ai (Sx.els c.2)))),eo c.2)) (aE (af,eo c.2)))) λZ=>(aG Z.1 (M af) (jn (av (rr02_ShapedStmts (Sx.body Z.2)) λy21=>(aG y21 (av (rr02_ShapedStmts (Sx.els Z.2)) λy22=>(aE y22)) (aE af))) λx20=>(M x20)))))))))))))))))
def jC (rr02_ShapedStmt:Sx->I (Bool)) (rr02_ShapedStmts:(Y Sx)->I (Bool)) (x:Y Sx):I (Bool):=
 (iter (σ:=Int) (λa=>(bx a (aV x) (xi a x (av (rr02_ShapedStmt (aJ (T:=.sm) x a)) λc=>(aG (!c) (aE af) (cP (cG a))))) (aE J))) 0)
mutual
def eE:Nat->Sx->I (Bool)
 |0,_=>D
 |n+1,x=>km (eE n) (dF n) x
def dF:Nat->(Y Sx)->I (Bool)
 |0,_=>D
 |n+1,x=>jC (eE n) (dF n) x
end
theorem zC (n:Nat) (x:Sx):eE (n+1) x=km (eE n) (dF n) x:=rfl
theorem yK (n:Nat) (x:Y Sx):dF (n+1) x=jC (eE n) (dF n) x:=rfl
def nW (x:Y Sx):I (Bool):=dF fuel x
def ki (x:Int×Int×(ζ)×Int×Int×ζ):I (Bool):=
 (jn (bx x.1 1 (aE (J,x)) (bx 6 x.1 (aE (J,x)) (av (fh x.p2) λs=>(aG (!s) (aE (J,x)) (bx x.p3 0 (aE (J,x)) (iU x.1 1 (aE ((!decide ((x.p3:Int)=0)),x)) (aE (af,x)))))))) λa=>(aG a.1 (M af) (jn (α:=Bool×Int×Int×(ζ)×Int×Int×ζ) (bg a.2.1 5 (av (fh a.q6) λq=>(aG (!q) (aE (J,a.2)) (iU a.2.1 5 (aE ((!decide ((a.q6:ζ)=([]))),a.2)) (aE (af,a.2))))) (iU a.2.1 5 (aE ((!decide ((a.q6:ζ)=([]))),a.2)) (aE (af,a.2)))) λc=>(aG c.1 (M af) (jn (α:=Bool) (bx (-9223372036854775808) c.p5 (bg c.p5 0 (aE J) (bg c.2.1 1 (aE J) (aE (decide ((c.2.1:Int)=2))))) (aE af)) λz=>(M z))))))
def pQ (x:w_×Y w9):I (Bool):=
 (iter (σ:=Int×w_×Y w9) (λq=>(bx q.1 (aV q.2.1) (bM G2 q.2.1 q.1 λZ=>(av (ki Z) λy3=>(aG (!y3) (aE af) (cP ((cG q.1),q.2))))) (av (iter (σ:=Int×w_×Y w9) (λc=>(bx c.1 (aV c.2.2) (bM s7 c.2.2 c.1 λU=>(iter (σ:=Int×(w_×Y w9)×(ζ)×Int×dl×Y Sx) (λa=>(bx a.1 (aV a.p4) (bM (.str) a.p4 a.1 λL=>(av (fh L) λy8=>(aG (!y8) (aE (bX af)) (cP ((cG a.1),a.2))))) (av (jn (av (fh a.p2) λz=>(aG (!z) (aE (J,a.2.1)) (av (nW a.q5) λs=>(aE ((!s),a.2.1))))) λA=>(aG A.1 (aE af) (cP ((cG c.1),A.2)))) λr=>M (bX r)))) (0,c.2,U))) (aE (fJ 0 (aV c.2.2))))) (0,q.2)) λr=>M (bX r)))) (0,x))
def jf (x:dl×ζ):I (Int):=
 (iter (σ:=Int) (λa=>(bx a (aV x.1) (bM (.str) x.1 a λc=>(aG (decide ((c:ζ)=x.2)) (aE a) (cP (cG a)))) (aE (-1)))) 0)
def ii (x:w_×ζ):I (Int):=
 (iter (σ:=Int) (λa=>(bx a (aV x.1) (bM G2 x.1 a λc=>(aG (decide ((c.2.2.1:ζ)=x.2)) (aE a) (cP (cG a)))) (aE (-1)))) 0)
def gU (x:(Y w9)×ζ):I (Int):=
 (iter (σ:=Int) (λa=>(bx a (aV x.1) (bM s7 x.1 a λc=>(aG (decide ((c.1:ζ)=x.2)) (aE a) (cP (cG a)))) (aE (-1)))) 0)
def pP (x:(w_×Y w9)×Int×ζ):I (Int):=
 (jn (jI 0 x.2.1 (bx x.2.1 (aV x.1.2) (bM s7 x.1.2 x.2.1 λL=>(av (jf (L.2.2.1,x.2.2)) λZ=>(aE ((cZ 0 Z),x.1)))) (aE (af,x.1))) (aE (af,x.1))) λa=>(aG a.1 (M 8) (av (ii (a.2.1,x.2.2)) λq=>(bx q 0 (av (gU (a.2.2,x.2.2)) λU=>(jI 0 U (M 7) (M 0))) (xi q a.2.1 (lt ((aJ (T:=G2) a.2.1 q).1) λc=>(bg c 1 (bM G2 a.2.1 q λA=>(iU A.2.2.2.1 0 (M 2) (M 1))) (bg c 2 (M 1) (jn (bg c 3 (aE ((decide ((c:Int)=3)),a.2)) (bg c 4 (aE ((decide ((c:Int)=4)),a.2)) (bg c 5 (aE ((decide ((c:Int)=5)),a.2)) (aE ((decide ((c:Int)=6)),a.2))))) λs=>(aG s.1 (bM G2 s.2.1 q λz=>(M z.1)) (M 9)))))))))))
def gI (x:(w_×Y w9)×Int×(ζ)×Int×Int):I (Int):=
 (av (pP (x.1,x.2.1,x.p2)) λa=>(bg a 0 (M 5) (jn (iU a x.p3 (aE (!decide ((a:Int)=x.q4))) (aE af)) λc=>(aG c (M 6) (M 0)))))
def uy (rr04_Nodes:Xp->I ν) (x:Xp):I ν:=
 (iter (σ:=(π)×Xp) (λa=>(bx a.1.2.2 (aN (ai (Xp.l a.2))) (bM (.ex) (Xp.l a.2) a.1.2.2 λq=>(av (rr04_Nodes q) λc=>(cP (((bl .i64 (a.1.1+c.1)),(gO a.1.2.1 c.2),(cG a.1.2.2)),em ((Xp.op a.2),(Xp.n a.2),(Xp.name a.2),(Xp.l a.2)))))) (aE (a.1.1,(cG a.1.2.1))))) ((1,0,0),em ((Xp.op x),(Xp.n x),(Xp.name x),(Xp.l x))))
def nH:Nat->Xp->I ν
 |0,_=>D
 |n+1,x=>uy (nH n) x
theorem yl (n:Nat) (x:Xp):nH (n+1) x=uy (nH n) x:=rfl
def BX (x:Xp):I ν:=nH fuel x
def ux (rr04_names:((w_×Y w9)×Int×Xp)->I (Int)) (x:(w_×Y w9)×Int×Xp):I (Int):=
 (jn (α:=Int×(w_×Y w9)×Xp) (bg (Xp.op x.2.2) 2 (av (gI (x.1,x.2.1,(Xp.name x.2.2),8,1)) λL=>(aE (L,x.1,em ((Xp.op x.2.2),(Xp.n x.2.2),(Xp.name x.2.2),(Xp.l x.2.2))))) (bg (Xp.op x.2.2) 3 (av (gI (x.1,x.2.1,(Xp.name x.2.2),2,2)) λA=>(aE (A,x.1,em ((Xp.op x.2.2),(Xp.n x.2.2),(Xp.name x.2.2),(Xp.l x.2.2))))) (aE (0,x.1,em ((Xp.op x.2.2),(Xp.n x.2.2),(Xp.name x.2.2),(Xp.l x.2.2)))))) λq=>(iter (σ:=(ν)×(w_×Y w9)×Xp) (λa=>(jn (bx a.1.2 (aN (ai (Xp.l a.2.2))) (aE ((decide ((a.1.1:Int)=0)),a.2.1,em ((Xp.op a.2.2),(Xp.n a.2.2),(Xp.name a.2.2),(Xp.l a.2.2)))) (aE (af,a.2.1,em ((Xp.op a.2.2),(Xp.n a.2.2),(Xp.name a.2.2),(Xp.l a.2.2))))) λc=>(aG c.1 (bM (.ex) (Xp.l c.2.2) a.1.2 λs=>(av (rr04_names (c.2.1,x.2.1,s)) λz=>(cP ((z,(cG a.1.2)),c.2.1,em ((Xp.op c.2.2),(Xp.n c.2.2),(Xp.name c.2.2),(Xp.l c.2.2)))))) (aE a.1.1)))) ((q.1,0),q.2.1,em ((Xp.op q.2.2),(Xp.n q.2.2),(Xp.name q.2.2),(Xp.l q.2.2)))))
def nG:Nat->((w_×Y w9)×Int×Xp)->I (Int)
 |0,_=>D
 |n+1,x=>ux (nG n) x
theorem yk (n:Nat) (x:(w_×Y w9)×Int×Xp):nG (n+1) x=ux (nG n) x:=rfl
def BW (x:(w_×Y w9)×Int×Xp):I (Int):=nG fuel x
def mA (x:(w_×Y w9)×Int×Xp):I (Int):=
 (av (jk (em ((Xp.op x.2.2),(Xp.n x.2.2),(Xp.name x.2.2),(Xp.l x.2.2)))) λs=>(aG (!s) (M 3) (av (BX (em ((Xp.op x.2.2),(Xp.n x.2.2),(Xp.name x.2.2),(Xp.l x.2.2)))) λc=>(jn (bx 24 c.1 (aE (J,x.1,em ((Xp.op x.2.2),(Xp.n x.2.2),(Xp.name x.2.2),(Xp.l x.2.2)))) (aE ((fJ 6 c.2),x.1,em ((Xp.op x.2.2),(Xp.n x.2.2),(Xp.name x.2.2),(Xp.l x.2.2))))) λa=>(aG a.1 (M 2) (av (BW (a.2.1,x.2.1,em ((Xp.op a.2.2),(Xp.n a.2.2),(Xp.name a.2.2),(Xp.l a.2.2)))) λq=>(M q)))))))
def c5 (x:Bool):I (Int):=
 (aG x (M 7) (M 0))
def je (x:ν):I (Int):=
 (iU x.1 0 (M x.1) (M x.2))
def dW (x:(Int×Int×ζ)×xa×(Bool×Y Sx)×dl×Y ζ):I (Bool×xa×(Bool×Y Sx)×dl×Y ζ):=
 (iter (σ:=Int×xa×(Bool×Y Sx)×dl×Y ζ) (λa=>(bx a.1 (aV a.p2.2) (lG (.sm) a.p2.2 a.1 λc=>(jn (α:=Bool×xa×(Bool×Y Sx)×dl×Y ζ) (bg (Sx.op c) x.1.1 (aG (decide ((x.1.2.2:ζ)=([]))) (aE (J,a.2)) (aE ((decide (((Sx.name c):ζ)=x.1.2.2)),a.2))) (bg (Sx.op c) x.1.2.1 (aG (decide ((x.1.2.2:ζ)=([]))) (aE (J,a.2)) (aE ((decide (((Sx.name c):ζ)=x.1.2.2)),a.2))) (aE (af,a.2)))) λq=>(aG q.1 (aE (J,q.2)) (cP ((cG a.1),q.2))))) (aE (af,a.2)))) (0,x.2))
def my (x:Sx×xa×(Bool×Y Sx)×dl×Y ζ):I (Int×xa×(Bool×Y Sx)×dl×Y ζ):=
 (av (dW ((7,7,[]),x.2)) λZ=>(bH (aA (ai x.q4) (ai Z.q4)&&(aA (ai x.p3) (ai Z.p3)&&(((x.p2.1==Z.p2.1)&&J)&&aA (ai x.p2.2) (ai Z.p2.2)&&J))) (av (dW ((8,8,[]),Z.2)) λy2=>(bH (aA (ai Z.q4) (ai y2.q4)&&(aA (ai Z.p3) (ai y2.p3)&&(((Z.p2.1==y2.p2.1)&&J)&&aA (ai Z.p2.2) (ai y2.p2.2)&&J))) (av (dW ((3,3,[]),y2.2)) λy3=>(bH (aA (ai y2.q4) (ai y3.q4)&&(aA (ai y2.p3) (ai y3.p3)&&(((y2.p2.1==y3.p2.1)&&J)&&aA (ai y2.p2.2) (ai y3.p2.2)&&J))) (bg (Sx.op x.1) 1 (bg (aN (ai (Sx.index x.1))) 0 (av (gI ((x.2.1.1,x.2.1.2.1),x.2.1.2.2,(Sx.name x.1),8,1)) λy4=>(av (mA ((x.2.1.1,x.2.1.2.1),x.2.1.2.2,em ((Xp.op (Sx.expr x.1)),(Xp.n (Sx.expr x.1)),(Xp.name (Sx.expr x.1)),(Xp.l (Sx.expr x.1))))) λy5=>(av (je (y4,y5)) λy6=>(M (y6,y3.2))))) (av (gI ((x.2.1.1,x.2.1.2.1),x.2.1.2.2,(Sx.name x.1),2,2)) λy7=>(bM (.ex) (Sx.index x.1) 0 λz8=>(av (mA ((x.2.1.1,x.2.1.2.1),x.2.1.2.2,z8)) λy9=>(av (mA ((x.2.1.1,x.2.1.2.1),x.2.1.2.2,em ((Xp.op (Sx.expr x.1)),(Xp.n (Sx.expr x.1)),(Xp.name (Sx.expr x.1)),(Xp.l (Sx.expr x.1))))) λy10=>(av (je (y9,y10)) λy11=>(av (je (y7,y11)) λy12=>(M (y12,y3.2))))))))) (jn (bg (Sx.op x.1) 2 (aE ((decide (((Sx.op x.1):Int)=2)),y3.2.1,y3.p2,eo x.1,(x.2.1.1,x.2.1.2.1),y3.q3)) (aE ((decide (((Sx.op x.1):Int)=3)),y3.2.1,y3.p2,eo x.1,(x.2.1.1,x.2.1.2.1),y3.q3))) λq=>(aG q.1 (av (mA (q.p4,x.2.1.2.2,em ((Xp.op (Sx.expr q.p3)),(Xp.n (Sx.expr q.p3)),(Xp.name (Sx.expr q.p3)),(Xp.l (Sx.expr q.p3))))) λy14=>(M (y14,q.2.1,q.p2,q.q5))) (bg (Sx.op x.1) 4 (jn (α:=Int×xa×(Bool×Y Sx)×dl×Y ζ) (av (gI (q.p4,x.2.1.2.2,(Sx.name q.p3),3,3)) λy16=>(aG Z.1 (av (c5 J) λy17=>(av (je (y16,y17)) λy18=>(aE (y18,q.2.1,q.p2,q.q5)))) (av (dW ((4,4,(Sx.name q.p3)),q.2.1,q.p2,q.q5)) λy19=>(bH (aA (ai q.q6) (ai y19.q4)&&(aA (ai q.p5) (ai y19.p3)&&(((q.p2.1==y19.p2.1)&&J)&&aA (ai q.p2.2) (ai y19.p2.2)&&J))) (av (c5 y19.1) λy20=>(av (je (y16,y20)) λy21=>(aE (y21,y19.2)))))))) λx15=>(M x15)) (jn (bg (Sx.op x.1) 5 (aE ((decide (((Sx.op x.1):Int)=5)),q.2.1,q.p2,eo q.p3,q.q4)) (aE ((decide (((Sx.op x.1):Int)=6)),q.2.1,q.p2,eo q.p3,q.q4))) λc=>(aG c.1 (jn (α:=Int×xa×(Bool×Y Sx)×dl×Y ζ) (av (gI (c.p4,x.2.1.2.2,(Sx.name c.p3),4,4)) λy24=>(aG Z.1 (av (c5 J) λy25=>(av (je (y24,y25)) λy26=>(aE (y26,c.2.1,c.p2,c.q5)))) (av (dW ((5,6,(Sx.name c.p3)),c.2.1,c.p2,c.q5)) λy27=>(bH (aA (ai c.q6) (ai y27.q4)&&(aA (ai c.p5) (ai y27.p3)&&(((c.p2.1==y27.p2.1)&&J)&&aA (ai c.p2.2) (ai y27.p2.2)&&J))) (av (c5 y27.1) λy28=>(av (je (y24,y28)) λy29=>(aE (y29,y27.2)))))))) λx23=>(M x23)) (bg (Sx.op x.1) 7 (av (c5 Z.1) λy30=>(M (y30,c.2.1,c.p2,c.q5))) (bg (Sx.op x.1) 8 (jn (aG Z.1 (av (c5 J) λy32=>(aE (y32,c.2.1,c.p2,c.q5))) (av (c5 y2.1) λy33=>(aE (y33,c.2.1,c.p2,c.q5)))) λx31=>(M x31)) (jn (bg (Sx.op x.1) 9 (aE ((decide (((Sx.op x.1):Int)=9)),c.2.1,c.p2,eo c.p3,c.q4)) (bg (Sx.op x.1) 10 (aE ((decide (((Sx.op x.1):Int)=10)),c.2.1,c.p2,eo c.p3,c.q4)) (aE ((decide (((Sx.op x.1):Int)=11)),c.2.1,c.p2,eo c.p3,c.q4)))) λa=>(aG a.1 (av (gI (a.p4,x.2.1.2.2,(Sx.name a.p3),5,5)) λy35=>(iU y35 0 (M (y35,a.2.1,a.p2,a.q5)) (av (ii (a.p4.1,(Sx.name a.p3))) λy36=>(bM G2 a.p4.1 y36 λz37=>(av (dW ((4,4,z37.2.2.2.2.2),a.2.1,a.p2,a.q5)) λL=>(bH (aA (ai a.q6) (ai L.q4)&&(aA (ai a.p5) (ai L.p3)&&(((a.p2.1==L.p2.1)&&J)&&aA (ai a.p2.2) (ai L.p2.2)&&J))) (jn (aG Z.1 (av (c5 J) λy40=>(aE (y40,L.2))) (aG (!L.1) (av (c5 J) λy41=>(aE (y41,L.2))) (bg (Sx.op a.p3) 9 (av (c5 y2.1) λy42=>(aE (y42,L.2))) (av (c5 af) λy43=>(aE (y43,L.2)))))) λx39=>(M x39)))))))) (bg (Sx.op x.1) 12 (av (gI (a.p4,x.2.1.2.2,(Sx.name a.p3),7,7)) λy44=>(iU y44 0 (M (y44,a.2.1,a.p2,a.q5)) (av (gU (a.p4.2,(Sx.name a.p3))) λy45=>(jn (aG Z.1 (aE (J,a.2.1,a.p2,eo a.p3,a.q5)) (aG y2.1 (aE (J,a.2.1,a.p2,eo a.p3,a.q5)) (aG y3.1 (aE (J,a.2.1,a.p2,eo a.p3,a.q5)) (bg y45 x.2.1.2.2 (aE (J,a.2.1,a.p2,eo a.p3,a.q5)) (aE ((decide ((y45:Int)=0)),a.2.1,a.p2,eo a.p3,a.q5)))))) λs=>(aG s.1 (M (7,s.2.1,s.p2,s.q4)) (av (jf (s.p4,(Sx.name s.p3))) λy47=>(jI 0 y47 (M (8,s.2.1,s.p2,s.q4)) (bH (bc (ai s.p4+ai ([(Sx.name s.p3)])) 16) (M (0,s.2.1,s.p2,(s.p4++([(Sx.name s.p3)])),s.q5)))))))))) (bg (Sx.op x.1) 13 (jn (α:=Int×xa×(Bool×Y Sx)×dl×Y ζ) (av (gI (a.p4,x.2.1.2.2,(Sx.name a.p3),7,7)) λy49=>(aG Z.1 (av (c5 J) λy50=>(av (je (y49,y50)) λy51=>(aE (y51,a.2.1,a.p2,a.q5)))) (aG y2.1 (av (c5 J) λy52=>(av (je (y49,y52)) λy53=>(aE (y53,a.2.1,a.p2,a.q5)))) (av (gU (a.p4.2,(Sx.name a.p3))) λy54=>(av (c5 (decide ((y54:Int)=x.2.1.2.2))) λy55=>(av (je (y49,y55)) λy56=>(aE (y56,a.2.1,a.p2,a.q5)))))))) λx48=>(M x48)) (bg (Sx.op x.1) 14 (jn (α:=Int×xa×(Bool×Y Sx)×Sx×(w_×Y w9)×dl×Y ζ) (av (gI (a.p4,x.2.1.2.2,(Sx.name a.p3),6,6)) λy58=>(aG Z.1 (av (c5 J) λy59=>(av (je (y58,y59)) λy60=>(aE (y60,a.2.1,a.p2,eo a.p3,a.q4)))) (av (c5 y3.1) λy61=>(av (je (y58,y61)) λy62=>(aE (y62,a.2.1,a.p2,eo a.p3,a.q4)))))) λA=>(jn (α:=Int×xa×(Bool×Y Sx)×Sx×(w_×Y w9)×dl×Y ζ) (jn (bg A.1 0 (av (jf (A.q6,(Sx.name A.p3))) λy65=>(aE ((cZ 0 y65),A.2.1,A.p2,eo A.p3,A.q4))) (aE (af,A.2.1,A.p2,eo A.p3,A.q4))) λU=>(aG U.1 (aE (8,U.2.1,U.p2,eo U.p3,U.q4)) (aE (A.1,U.2.1,U.p2,eo U.p3,U.q4)))) λz=>(bH (bc (ai z.q6+ai ([(Sx.name z.p3)])) 16) (av (mA (z.p4,x.2.1.2.2,em ((Xp.op (Sx.expr z.p3)),(Xp.n (Sx.expr z.p3)),(Xp.name (Sx.expr z.p3)),(Xp.l (Sx.expr z.p3))))) λy66=>(av (je (z.1,y66)) λy67=>(M (y67,z.2.1,z.p2,z.p5,(z.q6++([(Sx.name z.p3)]))))))))) (av (gI (a.p4,x.2.1.2.2,(Sx.name a.p3),8,8)) λy68=>(av (gI (a.p4,x.2.1.2.2,(Sx.arg a.p3),6,6)) λy69=>(av (c5 Z.1) λy70=>(av (je (y69,y70)) λy71=>(av (je (y68,y71)) λy72=>(M (y72,a.2.1,a.p2,a.q5))))))))))))))))))))))))))
def mD (rr04_walk_all:((Y Sx)×xa×(Bool×Y Sx)×dl×Y ζ)->I aga) (x:(Y Sx)×xa×(Bool×Y Sx)×dl×Y ζ):I aga:=
 (iter (σ:=Int×xa×(Bool×Y Sx)×dl×Y ζ) (λs=>(bx s.1 (aV x.1) (bM (.sm) x.1 s.1 λA=>(av (my (eo A,s.2)) λz=>(bH (aA (ai s.q4) (ai s.q4)&&(aA (ai s.p3) (ai s.p3)&&(((s.p2.1==z.p2.1)&&J)&&aA (ai s.p2.2) (ai z.p2.2)&&J))) (jn (α:=Int×xa×Sx×(Bool×Y Sx)×dl×Y ζ) (bx 6 (bl .i64 ((aV z.p2.2)+1)) (aE (2,z.2.1,eo A,z.2.2)) (aE (z.1,z.2.1,eo A,z.2.2))) λa=>(iU a.1 0 (aE ((a.1,(Sx.line a.p2)),a.2.1,a.q3)) (bH (bc (ai a.p3.2+ai ([nY (0,0,[],[],([]:Y Xp),em (0,0,[],([]:Y Xp)),([]:Y Sx),([]:Y Sx))])) 176) (ck (fy (aV a.p3.2) (ai (a.p3.2++([nY (0,0,[],[],([]:Y Xp),em (0,0,[],([]:Y Xp)),([]:Y Sx),([]:Y Sx))])))) (av (rr04_walk_all ((Sx.body a.p2),a.2.1,(a.p3.1,(cI (a.p3.2++([nY (0,0,[],[],([]:Y Xp),em (0,0,[],([]:Y Xp)),([]:Y Sx),([]:Y Sx))])) (aV a.p3.2) (eo a.p2))),a.q4)) λq=>(bH (aA (ai a.q5) (ai a.q5)&&(aA (ai a.p4) (ai a.p4)&&(((a.p3.1==a.p3.1)&&J)&&aA (ai (cI (a.p3.2++([nY (0,0,[],[],([]:Y Xp),em (0,0,[],([]:Y Xp)),([]:Y Sx),([]:Y Sx))])) (aV a.p3.2) (eo a.p2))) (ai (cI (a.p3.2++([nY (0,0,[],[],([]:Y Xp),em (0,0,[],([]:Y Xp)),([]:Y Sx),([]:Y Sx))])) (aV a.p3.2) (eo a.p2)))&&J))) (jn (bg q.1.1 0 (av (rr04_walk_all ((Sx.els a.p2),q.2)) λL=>(bH (aA (ai q.q4) (ai q.q4)&&(aA (ai q.p3) (ai q.p3)&&(((q.p2.1==q.p2.1)&&J)&&aA (ai q.p2.2) (ai q.p2.2)&&J))) (aE L))) (aE q)) λc=>(bH (cZ 0 (bl .i64 ((aV c.p2.2)-1))&&fJ (bl .i64 ((aV c.p2.2)-1)) (ai c.p2.2)) (iU c.1.1 0 (aE (c.1,c.2.1,(af,(dJ (aQ (bl .i64 ((aV c.p2.2)-1))) c.p2.2)),c.q3)) (cP ((cG s.1),c.2.1,(af,(dJ (aQ (bl .i64 ((aV c.p2.2)-1))) c.p2.2)),c.q3)))))))))))))) (aE ((0,0),s.2)))) (0,x.2))
def iL:Nat->((Y Sx)×xa×(Bool×Y Sx)×dl×Y ζ)->I aga
 |0,_=>D
 |n+1,x=>mD (iL n) x
theorem B_ (n:Nat) (x:(Y Sx)×xa×(Bool×Y Sx)×dl×Y ζ):iL (n+1) x=mD (iL n) x:=rfl
def vH (x:(Y Sx)×xa×(Bool×Y Sx)×dl×Y ζ):I aga:=iL fuel x
def uz (rr04_Count:(Y Sx)->I (Int)) (x:Y Sx):I (Int):=
 (iter (σ:=ν) (λa=>(bx a.2 (aV x) (xi a.2 x (lt (Sx.body (aJ (T:=.sm) x a.2)) λq=>(av (rr04_Count q) λz=>(xi a.2 x (lt (Sx.els (aJ (T:=.sm) x a.2)) λc=>(av (rr04_Count c) λs=>(cP ((bl .i64 ((bl .i64 (a.1+z))+s)),(cG a.2))))))))) (aE a.1))) ((aV x),0))
def nI:Nat->(Y Sx)->I (Int)
 |0,_=>D
 |n+1,x=>uz (nI n) x
theorem ym (n:Nat) (x:Y Sx):nI (n+1) x=uz (nI n) x:=rfl
def BY (x:Y Sx):I (Int):=nI fuel x
def rA (x:Y ajt):I ν:=
 (iter (σ:=υ) (λa=>(bx a.q4 (aV x) (jn (α:=Int×Int×Int×Int) (bM G2 x a.q4 λc=>(bH (cZ 0 a.q4&&cZ a.q4 (ai x)) (av (ii ((dJ (aQ a.q4) x),c.p2)) λy4=>(jI 0 y4 (cP (bX (4,c.2.1))) (bx 4 c.p3 (cP (bX (2,c.2.1))) (jn (jn (bg c.1 1 (aE ((decide ((c.1:Int)=1)),c)) (aE ((decide ((c.1:Int)=2)),c))) λz=>(aG z.1 (aE (((bl .i64 (a.1+(gO z.p4 1))),a.2.1,a.p2,a.p3),z.2)) (jn (bg c.1 3 (aE ((decide ((c.1:Int)=3)),z.2)) (aE ((decide ((c.1:Int)=4)),z.2))) λA=>(aG A.1 (aE ((a.1,(cG a.2.1),a.p2,a.p3),A.2)) (bg c.1 5 (aE ((a.1,a.2.1,(cG a.p2),a.p3),A.2)) (aE ((a.1,a.2.1,a.p2,(cG a.p3)),A.2))))))) λq=>(jn (bx 12 q.1.1 (aE (J,q.2)) (bx 4 q.1.2.1 (aE (J,q.2)) (bx 2 q.1.p2 (aE (J,q.2)) (aE ((fJ 2 q.1.q3),q.2))))) λs=>(aG s.1 (cP (bX (2,s.p2))) (bg s.2.1 5 (bH (cZ 0 a.q4&&cZ a.q4 (ai x)) (av (ii ((dJ (aQ a.q4) x),s.q6)) λZ=>(bx Z 0 (cP (bX (5,s.p2))) (bM G2 x Z λU=>(iU U.1 3 (cP (bX (6,s.p2))) (aE q.1)))))) (aE q.1)))))))))) λL=>(cP (L.1,L.2.1,L.p2,L.q3,(cG a.q4)))) (aE (0,0)))) (0,0,0,0,0))
def nV (x:w_×Y w9):I ν:=
 (iter (σ:=Int×w_×Y w9) (λc=>(bx c.1 (aV c.2.2) (bM s7 c.2.2 c.1 λz=>(jn (av (ii (c.2.1,z.1)) λy4=>(jI 0 y4 (aE (J,c.2,z)) (bH (cZ 0 c.1&&cZ c.1 (ai c.2.2)) (av (gU ((dJ (aQ c.1) c.2.2),z.1)) λy5=>(aE ((cZ 0 y5),c.2,z)))))) λx3=>(aG x3.1 (aE (4,x3.p3)) (cP ((cG c.1),x3.2.1))))) (av (iter (σ:=Int×w_×Y w9) (λs=>(bx s.1 (aV s.2.2) (bM s7 s.2.2 s.1 λL=>(bx 4 (aV L.p2) (aE (2,L.2.1)) (iter (σ:=Int×(w_×Y w9)×(ζ)×Int×dl×Y Sx) (λa=>(bx a.1 (aV a.p4) (bM (.str) a.p4 a.1 λA=>(jn (av (ii (a.2.1.1,A)) λy11=>(jI 0 y11 (aE (J,a.2)) (av (gU (a.2.1.2,A)) λZ=>(jI 0 Z (aE (J,a.2)) (bH (cZ 0 a.1&&cZ a.1 (ai a.p4)) (av (jf ((dJ (aQ a.1) a.p4),A)) λU=>(aE ((cZ 0 U),a.2)))))))) λq=>(aG q.1 (aE (bX (4,q.p3))) (cP ((cG a.1),q.2))))) (aE (oX ((cG s.1),a.2.1))))) (0,s.2,L)))) (aE (0,0)))) (0,c.2)) λr=>M (bX r)))) (0,x))
def fw (x:w_×Y w9):I ν:=
 (av (pQ x) λZ=>(aG (!Z) (M (3,0)) (av (rA x.1) λz=>(iU z.1 0 (M z) (bx 4 (aV x.2) (M (2,0)) (av (nV x) λs=>(iU s.1 0 (M s) (iter (σ:=(ν)×w_×Y w9) (λc=>(bx c.1.2 (aV c.2.2) (bM s7 c.2.2 c.1.2 λL=>(av (BY L.2.2.2) λU=>(cP (((bl .i64 (c.1.1+U)),(cG c.1.2)),c.2)))) (av (bx 60 c.1.1 (M (2,0)) (iter (σ:=Int×(w_×Y w9)×xa×(Bool×Y Sx)×dl×Y ζ) (λa=>(bx a.1 (aV a.2.1.2) (bM s7 a.2.1.2 a.1 λA=>(av (vH (A.2.2.2,(a.p2.1,a.p2.2.1,a.1),a.q3)) λq=>(bH (aA (ai a.q5) (ai a.q5)&&(aA (ai a.p4) (ai a.p4)&&(((a.p3.1==a.p3.1)&&J)&&aA (ai a.p3.2) (ai a.p3.2)&&J))) (iU q.1.1 0 (aE q.1) (cP ((cG a.1),a.2.1,q.2)))))) (aE (0,0)))) (0,c.2,(c.2.1,c.2.2,0),(J,([]:Y Sx)),([]:Y ζ),([]:Y ζ)))) λr=>M (bX r)))) ((0,0),x)))))))))
def xA (rr06_sites:((Int×Int×Y Sx)×Y π)->I (Int×Y π)) (x:(Int×Int×Y Sx)×Y π):I (Int×Y π):=
 (iter (σ:=(ν)×Y π) (λa=>(bx a.1.2 (aV x.1.2.2) (xi a.1.2 x.1.2.2 (lt (Sx.line (aJ (T:=.sm) x.1.2.2 a.1.2)) λc=>(bH (bc (ai a.2+ai ([(x.1.1,a.1.1,c)])) 24) (xi a.1.2 x.1.2.2 (lt (Sx.body (aJ (T:=.sm) x.1.2.2 a.1.2)) λA=>(av (rr06_sites ((x.1.1,(cG a.1.1),A),(a.2++([(x.1.1,a.1.1,c)])))) λq=>(bH (aA (ai (a.2++([(x.1.1,a.1.1,c)]))) (ai (a.2++([(x.1.1,a.1.1,c)])))&&J) (xi a.1.2 x.1.2.2 (lt (Sx.els (aJ (T:=.sm) x.1.2.2 a.1.2)) λz=>(av (rr06_sites ((x.1.1,q.1,z),q.2)) λs=>(bH (aA (ai q.2) (ai q.2)&&J) (cP ((s.1,(cG a.1.2)),s.2))))))))))))) (aE (a.1.1,a.2)))) ((x.1.2.1,0),x.2))
def pG:Nat->((Int×Int×Y Sx)×Y π)->I (Int×Y π)
 |0,_=>D
 |n+1,x=>xA (pG n) x
theorem Hh (n:Nat) (x:(Int×Int×Y Sx)×Y π):pG (n+1) x=xA (pG n) x:=rfl
def IJ (x:(Int×Int×Y Sx)×Y π):I (Int×Y π):=pG fuel x
def ku (x:mQ×ζ):I (Int):=
 (iter (σ:=Int) (λa=>(bx a (aV x.1) (bM rT x.1 a λc=>(aG (decide ((c.1:ζ)=x.2)) (aE a) (cP (cG a)))) (aE (-1)))) 0)
def lI (x:fD×ζ):I (Int):=
 (iter (σ:=Int×oo×mQ×(Y jX)×dl×dl×Y π) (λa=>(bx a.1 (aV a.2.1) (bM kO a.2.1 a.1 λc=>(aG (decide ((c.1:ζ)=x.2)) (aE a.1) (cP ((cG a.1),a.2)))) (aE (-1)))) (0,x.1))
def uk (x:w_×Y w9):I fD:=
 (av (fw x) λy1=>(iU y1.1 0 (M (([]:Y S6),([]:Y (ζ×Bool)),([]:Y jX),([]:Y ζ),([]:Y ζ),([]:Y π))) (iter (σ:=Int×(w_×Y w9)×oo×mQ×(Y jX)×Y ζ) (λs=>(bx s.1 (aV s.2.1.1) (bM G2 s.2.1.1 s.1 λz=>(jn (α:=(w_×Y w9)×oo×mQ×(Y jX)×Y ζ) (jn (bg z.1 1 (aE ((decide ((z.1:Int)=1)),s.2.1,z,s.2.2)) (aE ((decide ((z.1:Int)=2)),s.2.1,z,s.2.2))) λL=>(aG L.1 (iter (σ:=Int×(w_×Y w9)×ajt×oo×mQ×(Y jX)×Y ζ) (λc=>(bx c.1 (gO c.p2.p3 1) (bH (bc (ai c.p3+ai ([(c.p2.p2,c.1,c.p2.p3,(decide ((c.p2.1:Int)=2)),c.p2.p4)])) 48) (cP ((cG c.1),c.2.1,c.p2,(c.p3++([(c.p2.p2,c.1,c.p2.p3,(decide ((c.p2.1:Int)=2)),c.p2.p4)])),c.q4))) (aE (bX (c.2.1,c.q3))))) (0,L.2)) (jn (bg z.1 3 (aE ((decide ((z.1:Int)=3)),L.2)) (aE ((decide ((z.1:Int)=4)),L.2))) λa=>(aG a.1 (bH (bc (ai a.p4+ai ([(a.p2.p2,(decide ((a.p2.1:Int)=4)))])) 24) (aE (a.2.1,a.p3,(a.p4++([(a.p2.p2,(decide ((a.p2.1:Int)=4)))])),a.q5))) (bg z.1 5 (av (ku (a.p4,a.p2.q5)) λy8=>(bH (bc (ai a.p5+ai ([(a.p2.p2,y8)])) 24) (aE (a.2.1,a.p3,a.p4,(a.p5++([(a.p2.p2,y8)])),a.q6)))) (bH (bc (ai a.q6+ai ([a.p2.p2])) 16) (aE (a.2.1,a.p3,a.p4,a.p5,(a.q6++([a.p2.p2])))))))))) λx4=>(cP ((cG s.1),x4)))) (av (iter (σ:=Int×(w_×Y w9)×oo×mQ×(Y jX)×dl×dl×Y π) (λq=>(bx q.1 (aV q.2.1.2) (bM s7 q.2.1.2 q.1 λA=>(bH (bc (ai q.p6+ai ([A.1])) 16) (bM s7 q.2.1.2 q.1 λU=>(av (IJ ((q.1,0,U.2.2.2),q.q7)) λZ=>(bH (aA (ai q.q7) (ai q.q7)&&J) (cP ((cG q.1),q.2.1,q.p2,q.p3,q.p4,q.p5,(q.p6++([A.1])),Z.2))))))) (aE q.2.2))) (0,s.2.1,s.p2,s.p3,s.p4,s.q5,([]:Y ζ),([]:Y π))) λr=>M (bX r)))) (0,x,([]:Y S6),([]:Y (ζ×Bool)),([]:Y jX),([]:Y ζ)))))
def pt (x:oo×mQ×(Y jX)×dl×dl×Y π):I (dl×Bool):=
 (iter (σ:=Int×fD×Y ζ) (λc=>(bx c.1 (aV c.2.1.1) (jn (α:=Int×fD×Y ζ) (bM kO c.2.1.1 c.1 λs=>(bH (bc (ai c.2.2+ai ([s.1])) 16) (bg s.p2 0 (iU s.2.1 0 (cP (bX (([]:Y ζ),af))) (aE ((cG c.1),c.2.1,(c.2.2++([s.1]))))) (jn (α:=Bool×fD×dl×(ζ)×Int×Int×Bool×Int) (bx s.p2 1 (aE (J,c.2.1,(c.2.2++([s.1])),s)) (bx 4 s.p2 (aE (J,c.2.1,(c.2.2++([s.1])),s)) (aE ((fJ (bl .i64 ((aV c.2.1.1)-c.1)) s.p2),c.2.1,(c.2.2++([s.1])),s)))) λx4=>(aG x4.1 (cP (bX (([]:Y ζ),af))) (iter (σ:=Int×fD×dl×(ζ)×Int×Int×Bool×Int) (λq=>(bx q.1 q.p5 (bM kO q.2.1.1 (bl .i64 (c.1+q.1)) λA=>(jn (iU A.2.1 q.1 (aE (J,q.2)) (aG (!decide ((A.1:ζ)=q.p3)) (aE (J,q.2)) (iU A.p2 q.p5 (aE (J,q.2)) (iU A.q4 q.q7 (aE (J,q.2)) (aE (A.p3,q.2)))))) λZ=>(aG Z.1 (aE (oX (bX (([]:Y ζ),af)))) (cP ((cG q.1),Z.2))))) (aE (bX ((bl .i64 (c.1+q.p5)),q.2.1,q.p2))))) (0,x4.2))))))) λx2=>(cP x2)) (av (iter (σ:=Int×fD×Y ζ) (λz=>(bx z.1 (aV z.2.1.2.1) (bM rT z.2.1.2.1 z.1 λU=>(bH (bc (ai z.2.2+ai ([U.1])) 16) (cP ((cG z.1),z.2.1,(z.2.2++([U.1])))))) (av (iter (σ:=Int×fD×Y ζ) (λa=>(bx a.1 (aV a.2.1.p2) (bM mn a.2.1.p2 a.1 λL=>(bH (bc (ai a.2.2+ai ([L.1])) 16) (cP ((cG a.1),a.2.1,(a.2.2++([L.1])))))) (av (bH (bc (ai a.2.2+ai a.2.1.p3) 16) (bH (bc (ai (a.2.2++a.2.1.p3)+ai a.2.1.p4) 16) (M (((a.2.2++a.2.1.p3)++a.2.1.p4),J)))) λr=>M (bX r)))) (0,z.2)) λr=>M (bX r)))) (0,c.2)) λr=>M (bX r)))) (0,x,([]:Y ζ)))
def ig (x:oo×mQ×(Y jX)×dl×dl×Y π):I (Bool):=
 (jn (bx 12 (aV x.1) (aE (J,x)) (bx 4 (aV x.2.1) (aE (J,x)) (bx 2 (aV x.p2) (aE (J,x)) (bx 2 (aV x.p3) (aE (J,x)) (bx (aV x.p4) 1 (aE (J,x)) (bx 4 (aV x.p4) (aE (J,x)) (aE ((fJ 60 (aV x.q5)),x)))))))) λx1=>(aG x1.1 (M af) (av (pt x1.2) λU=>(aG (!U.2) (M af) (iter (σ:=Int×oo×mQ×(Y jX)×dl×dl×Y π) (λz=>(bx z.1 (aV U.1) (jn (bM (.str) U.1 z.1 λz5=>(av (fh z5) λy6=>(aG (!y6) (aE (J,z.2)) (bH (cZ 0 z.1&&cZ z.1 (ai U.1)) (bM (.str) U.1 z.1 λz7=>(av (jf ((dJ (aQ z.1) U.1),z7)) λy8=>(aE ((cZ 0 y8),z.2)))))))) λx4=>(aG x4.1 (aE af) (cP ((cG z.1),x4.2)))) (av (iter (σ:=Int×oo×mQ×(Y jX)×dl×dl×Y π) (λq=>(bx q.1 (aV q.p3) (bM mn q.p3 q.1 λL=>(jn (bx L.2 0 (aE (J,q.2)) (jI (aV q.p2) L.2 (aE (J,q.2)) (bM rT q.p2 L.2 λz12=>(aE (z12.2,q.2))))) λx11=>(aG x11.1 (aE af) (cP ((cG q.1),x11.2))))) (av (iter (σ:=Int×oo×mQ×(Y jX)×dl×dl×Y π) (λa=>(bx a.1 (aV a.q6) (jn (bM pI a.q6 a.1 λA=>(jn (bx A.1 0 (aE (J,a.2,A)) (aE ((cZ (aV a.p5) A.1),a.2,A))) λs=>(aG s.1 (cP (bX af)) (jn (bg a.1 0 (aE (J,s.2)) (bM pI s.2.1.q5 (bl .i64 (a.1-1)) λz18=>(aE ((!decide ((z18.1:Int)=s.p2)),s.2)))) λc=>(aG c.1 (jn (iU c.p3 0 (aE (J,c.2.1)) (bx 0 a.1 (bM pI c.2.1.q5 (bl .i64 (a.1-1)) λz20=>(aE ((fJ c.p2 z20.1),c.2.1))) (aE (af,c.2.1)))) λZ=>(aG Z.1 (cP (bX af)) (aE Z.2))) (bM pI c.2.1.q5 (bl .i64 (a.1-1)) λz21=>(iU c.p3 (cG z21.2.1) (cP (bX af)) (aE c.2.1)))))))) λx14=>(cP ((cG a.1),x14))) (aE J))) (0,q.2)) λr=>M (bX r)))) (0,z.2)) λr=>M (bX r)))) (0,x1.2))))))
def jM (x:ω):I η:=
 (jn (bg x.1 1 (aE ((decide ((x.1:Int)=1)),x)) (bg x.1 6 (aE ((decide ((x.1:Int)=6)),x)) (bg x.1 10 (aE ((decide ((x.1:Int)=10)),x)) (aE ((decide ((x.1:Int)=27)),x))))) λq=>(aG q.1 (M ([q.p2])) (jn (bg x.1 2 (aE ((decide ((x.1:Int)=2)),q.2)) (aE ((decide ((x.1:Int)=3)),q.2))) λa=>(aG a.1 (M ([a.p2,a.p3])) (bg x.1 4 (M ([a.p2,a.p3,a.p4])) (bg x.1 7 (M ([a.p2,a.p4])) (jn (bg x.1 8 (aE ((decide ((x.1:Int)=8)),a.2)) (aE ((decide ((x.1:Int)=26)),a.2))) λc=>(aG c.1 (M ([c.p3])) (bg x.1 9 (M ([c.p3,c.p4])) (M ([]:η)))))))))))
def pO (x:Int):I (Bool):=
 (jn (jI 1 x (aE (cZ x 5)) (aE af)) λa=>(M a))
def pu (x:(Y ly)×Int):I (Bool):=
 (iter (σ:=ν) (λa=>(jI a.2 (aV x.1) (jn (jn (bx a.1 0 (aE J) (aE (cZ (aV x.1) a.1))) λA=>(aG A (cP (bX af)) (bM qW x.1 a.1 λs=>(av (pO s.1) λz=>(aG (!z) (cP (bX J)) (bM qW x.1 a.1 λq=>(bg q.1 5 (bM qW x.1 a.1 λc=>(aE c.2.1)) (aE (cG a.1))))))))) λL=>(cP (L,(cG a.2)))) (aE af))) (x.2,0))
def jv (x:ν):I (Bool):=
 (jn (jI 0 x.1 (aE (fJ x.1 x.2)) (aE af)) λa=>(M a))
def nC (x:fD×Int×Int):I (Bool):=
 (jn (av (jv (x.2.1,(aV x.1.1))) λs=>(aG s (bM kO x.1.1 x.2.1 λq=>(bg q.2.1 0 (bM kO x.1.1 x.2.1 λc=>(iU c.2.2.1 0 (bM kO x.1.1 x.2.1 λa=>(aE (decide ((a.2.2.1:Int)=x.2.2)))) (aE af))) (aE af))) (aE af))) λz=>(M z))
def l8 (x:fD×Int×Int×Int×Int×Int×Int):I (Bool):=
 (bg x.2.1 6 (jn (av (jv (x.p3,(aV x.1.1))) λy2=>(aG y2 (bM kO x.1.1 x.p3 λz3=>(aE (decide ((z3.2.2.1:Int)=0)))) (aE af))) λx1=>(M x1)) (bg x.2.1 8 (jn (av (jv (x.p2,(aV x.1.1))) λy5=>(aG y5 (bM kO x.1.1 x.p2 λz6=>(aE (decide ((z6.2.2.1:Int)=0)))) (aE af))) λx4=>(M x4)) (bg x.2.1 7 (av (nC (x.1,x.p3,x.p5)) λy7=>(M y7)) (bg x.2.1 9 (av (nC (x.1,x.p2,x.p5)) λy8=>(M y8)) (jn (bg x.2.1 11 (aE ((decide ((x.2.1:Int)=11)),x)) (aE ((decide ((x.2.1:Int)=12)),x))) λs=>(aG s.1 (jn (av (jv (s.p3,(aV s.2.1.2.1))) λy11=>(aG y11 (bM rT s.2.1.2.1 s.p3 λA=>(aE (!A.2))) (aE af))) λx10=>(M x10)) (jn (bg x.2.1 13 (aE ((decide ((x.2.1:Int)=13)),s.2)) (bg x.2.1 14 (aE ((decide ((x.2.1:Int)=14)),s.2)) (bg x.2.1 15 (aE ((decide ((x.2.1:Int)=15)),s.2)) (aE ((decide ((x.2.1:Int)=16)),s.2))))) λc=>(aG c.1 (jn (av (jv (c.p3,(aV c.2.1.2.1))) λy15=>(aG y15 (bM rT c.2.1.2.1 c.p3 λz=>(aE z.2)) (aE af))) λx14=>(M x14)) (jn (bg x.2.1 21 (aE ((decide ((x.2.1:Int)=21)),c.2)) (bg x.2.1 22 (aE ((decide ((x.2.1:Int)=22)),c.2)) (aE ((decide ((x.2.1:Int)=23)),c.2)))) λq=>(aG q.1 (av (jv (q.p3,(aV q.2.1.p2))) λy18=>(M y18)) (jn (bg x.2.1 24 (aE ((decide ((x.2.1:Int)=24)),q.2)) (aE ((decide ((x.2.1:Int)=25)),q.2))) λa=>(aG a.1 (av (jv (a.p3,(aV a.2.1.p4))) λZ=>(M Z)) (bg x.2.1 26 (av (jv (a.p3,(aV a.2.1.p3))) λU=>(M U)) (bg x.2.1 27 (av (jv (a.p4,(aV a.2.1.p3))) λL=>(M L)) (bg x.2.1 3 (jn (bg a.p6 4 (aE J) (aE (decide ((a.p6:Int)=5)))) λx23=>(M x23)) (bg x.2.1 4 (jn (jI 6 a.p6 (aE (cZ a.p6 18)) (aE af)) λx24=>(M x24)) (M J)))))))))))))))))
def iz (x:fD×Int×Int×Y ly):I (Bool):=
 (jn (bx x.p2 0 (aE (J,x.1,x.2.2)) (bx 32 x.p2 (aE (J,x.1,x.2.2)) (aE ((decide (((aV x.q3):Int)=0)),x.1,x.2.2)))) λx1=>(aG x1.1 (M af) (iter (σ:=Int×fD×Int×Y ly) (λc=>(bx c.1 (aV x.q3) (bM qW c.q3 c.1 λz=>(jn (bx z.1 1 (aE (J,c.2.1,c.2.2,z)) (bx 28 z.1 (aE (J,c.2.1,c.2.2,z)) (aG (((decide ((z.1:Int)=28))==(decide ((c.1:Int)=(bl .i64 ((aV x.q3)-1))))) !=J) (aE (J,c.2.1,c.2.2,z)) (av (l8 (c.2.1,z)) λy5=>(aG (!y5) (aE (J,c.2.1,c.2.2,z)) (av (pu (c.q3,c.1)) λy6=>(aE ((!y6),c.2.1,c.2.2,z)))))))) λa=>(aG a.1 (aE af) (jn (α:=Bool×fD×(Int×Y ly)×Int×Int×Int×Int×Int×Int) (bg a.p3 28 (iU a.q8 (-1) (aE (J,a.2)) (iU a.p3 28 (av (jv (a.q8,(aV a.2.1.q5))) λy8=>(aG (!y8) (aE (J,a.2)) (bM pI a.2.1.q5 a.q8 λz9=>(aE ((!decide ((z9.1:Int)=x.2.1)),a.2))))) (aE (af,a.2)))) (iU a.p3 28 (av (jv (a.q8,(aV a.2.1.q5))) λy10=>(aG (!y10) (aE (J,a.2)) (bM pI a.2.1.q5 a.q8 λZ=>(aE ((!decide ((Z.1:Int)=x.2.1)),a.2))))) (aE (af,a.2)))) λs=>(aG s.1 (aE af) (jn (bg s.p3 5 (av (jv (s.p4,(aV x.q3))) λy13=>(aG (!y13) (aE (J,s.2)) (bg s.p3 10 (av (jv (s.p5,(aV x.q3))) λy14=>(aE ((!y14),s.2))) (aE (af,s.2))))) (bg s.p3 10 (av (jv (s.p5,(aV x.q3))) λy15=>(aE ((!y15),s.2))) (aE (af,s.2)))) λA=>(aG A.1 (aE af) (av (jM A.q3) λL=>(iter (σ:=Int×fD×Int×Y ly) (λq=>(bx q.1 (aV L) (bM aL L q.1 λU=>(av (jv (U,q.p2)) λy19=>(aG (!y19) (aE (bX af)) (cP ((cG q.1),q.2))))) (aE (oX ((cG c.1),q.2))))) (0,A.2.1,A.p2)))))))))) (aE J))) (0,x1.2))))
def jL (x:fD×Y (Int×Y ly)):I (Bool):=
 (jn (av (ig x.1) λz=>(aG (!z) (aE (J,x)) (aE ((!decide (((aV x.2):Int)=(aV x.1.p4))),x)))) λc=>(aG c.1 (M af) (iter (σ:=Int×fD×Y (Int×Y ly)) (λa=>(bx a.1 (aV a.2.2) (bM xd a.2.2 a.1 λq=>(av (iz (a.2.1,a.1,q)) λs=>(aG (!s) (aE af) (cP ((cG a.1),a.2))))) (aE J))) (0,c.2))))
def cF (x:ly×sr×Y ly):I (sr×Y ly):=
 (bH (bc (ai x.2.2+ai ([(x.1.1,x.1.2.1,x.1.p2,x.1.p3,x.1.p4,x.2.1.p7)])) 48) (M (x.2.1,(x.2.2++([(x.1.1,x.1.2.1,x.1.p2,x.1.p3,x.1.p4,x.2.1.p7)])))))
def qG (rr06_gen_value:((Xp×Int)×sr×Y ly)->I (sr×Y ly)) (x:(Xp×Int)×sr×Y ly):I (sr×Y ly):=
 (jn (α:=sr×Y ly) (bg (Xp.op x.1.1) 1 (av (cF ((1,x.1.2,0,0,(Xp.n x.1.1),0),x.2)) λy2=>(bH (aA (ai x.2.2) (ai x.2.2)&&J) (aE y2))) (bg (Xp.op x.1.1) 2 (av (jf (x.2.1.p6,(Xp.name x.1.1))) λy3=>(jI 0 y3 (av (cF ((2,x.1.2,y3,0,0,0),x.2)) λy4=>(bH (aA (ai x.2.2) (ai x.2.2)&&J) (aE y4))) (av (lI ((x.2.1.1,x.2.1.2.1,x.2.1.p2,x.2.1.p3,x.2.1.p4,x.2.1.p5),(Xp.name x.1.1))) λy5=>(av (cF ((6,x.1.2,y5,0,0,0),x.2)) λy6=>(bH (aA (ai x.2.2) (ai x.2.2)&&J) (aE y6)))))) (bg (Xp.op x.1.1) 3 (bM (.ex) (Xp.l x.1.1) 0 λz7=>(av (rr06_gen_value ((z7,x.1.2),x.2)) λa=>(bH (aA (ai x.2.2) (ai x.2.2)&&J) (av (lI ((a.1.1,a.1.2.1,a.1.p2,a.1.p3,a.1.p4,a.1.p5),(Xp.name x.1.1))) λy9=>(bM kO a.1.1 y9 λU=>(av (cF ((7,x.1.2,y9,x.1.2,U.2.2.1,0),a)) λy11=>(bH (aA (ai a.2) (ai a.2)&&J) (aE y11)))))))) (bg (aN (ai (Xp.l x.1.1))) 1 (bM (.ex) (Xp.l x.1.1) 0 λL=>(av (rr06_gen_value ((L,x.1.2),x.2)) λs=>(bH (aA (ai x.2.2) (ai x.2.2)&&J) (av (cF ((3,x.1.2,x.1.2,0,(Xp.op x.1.1),0),s)) λy14=>(bH (aA (ai s.2) (ai s.2)&&J) (aE y14)))))) (bM (.ex) (Xp.l x.1.1) 0 λA=>(av (rr06_gen_value ((A,x.1.2),x.2)) λq=>(bH (aA (ai x.2.2) (ai x.2.2)&&J) (bM (.ex) (Xp.l x.1.1) 1 λz=>(av (rr06_gen_value ((z,(cG x.1.2)),q)) λc=>(bH (aA (ai q.2) (ai q.2)&&J) (av (cF ((4,x.1.2,x.1.2,(cG x.1.2),(Xp.op x.1.1),0),c)) λZ=>(bH (aA (ai c.2) (ai c.2)&&J) (aE Z))))))))))))) λx1=>(M x1))
def iQ:Nat->((Xp×Int)×sr×Y ly)->I (sr×Y ly)
 |0,_=>D
 |n+1,x=>qG (iQ n) x
theorem AM (n:Nat) (x:(Xp×Int)×sr×Y ly):iQ (n+1) x=qG (iQ n) x:=rfl
def iP (x:(Xp×Int)×sr×Y ly):I (sr×Y ly):=iQ fuel x
def mg (x:Sx×sr×Y ly):I (sr×Y ly):=
 (bx 0 (aN (ai (Sx.index x.1))) (bM (.ex) (Sx.index x.1) 0 λZ=>(av (iP ((Z,(aV x.2.1.p6)),x.2)) λq=>(bH (aA (ai x.2.2) (ai x.2.2)&&J) (av (iP ((em ((Xp.op (Sx.expr x.1)),(Xp.n (Sx.expr x.1)),(Xp.name (Sx.expr x.1)),(Xp.l (Sx.expr x.1))),(bl .i64 ((aV x.2.1.p6)+1))),q)) λc=>(bH (aA (ai q.2) (ai q.2)&&J) (av (lI ((c.1.1,c.1.2.1,c.1.p2,c.1.p3,c.1.p4,c.1.p5),(Sx.name x.1))) λL=>(bM kO c.1.1 L λU=>(av (cF ((9,L,(bl .i64 ((aV x.2.1.p6)+1)),(aV x.2.1.p6),U.2.2.1,0),c)) λy6=>(bH (aA (ai c.2) (ai c.2)&&J) (M y6)))))))))) (av (iP ((em ((Xp.op (Sx.expr x.1)),(Xp.n (Sx.expr x.1)),(Xp.name (Sx.expr x.1)),(Xp.l (Sx.expr x.1))),(aV x.2.1.p6)),x.2)) λa=>(bH (aA (ai x.2.2) (ai x.2.2)&&J) (av (jf (a.1.p6,(Sx.name x.1))) λA=>(jI 0 A (av (cF ((2,A,(aV x.2.1.p6),0,0,0),a)) λy9=>(bH (aA (ai a.2) (ai a.2)&&J) (M y9))) (av (lI ((a.1.1,a.1.2.1,a.1.p2,a.1.p3,a.1.p4,a.1.p5),(Sx.name x.1))) λz=>(av (cF ((8,z,(aV x.2.1.p6),0,0,0),a)) λs=>(bH (aA (ai a.2) (ai a.2)&&J) (M s)))))))))
def jz (x:ζ×sr×Y ly):I (Int×sr×Y ly):=
 (iter (σ:=Int×sr×Y ly) (λa=>(bx a.1 (aV a.2.1.p2) (bM mn a.2.1.p2 a.1 λc=>(aG (decide ((c.1:ζ)=x.1)) (aE a) (cP ((cG a.1),a.2)))) (aE ((-1),a.2)))) (0,x.2))
def qH (rr06_gen_stmts:ack->I (sr×Y ly)) (rr06_gen_stmt:Mm->I (sr×Y ly)) (rr06_gen_branches:Mm->I (sr×Y ly)) (rr06_gen_around:acl->I (sr×Y ly)) (x:(Y Sx)×sr×Y ly):I (sr×Y ly):=
 (iter (σ:=Int×sr×Y ly) (λa=>(bx a.1 (aV x.1) (bM (.sm) x.1 a.1 λc=>(av (rr06_gen_stmt (c,a.2)) λq=>(bH (aA (ai a.2.2) (ai a.2.2)&&J) (cP ((cG a.1),q))))) (aE a.2))) (0,x.2))
def sa (rr06_gen_stmts:ack->I (sr×Y ly)) (rr06_gen_stmt:Mm->I (sr×Y ly)) (rr06_gen_branches:Mm->I (sr×Y ly)) (rr06_gen_around:acl->I (sr×Y ly)) (x:Sx×sr×Y ly):I (sr×Y ly):=
 (jn (α:=sr×Y ly) (bg (Sx.op x.1) 1 (av (mg (eo x.1,(x.2.1.1,x.2.1.2.1,x.2.1.p2,x.2.1.p3,x.2.1.p4,x.2.1.p5,x.2.1.p6,x.2.1.q8,(cG x.2.1.q8)),x.2.2)) λy2=>(bH (aA (ai x.2.2) (ai x.2.2)&&J) (aE y2))) (jn (bg (Sx.op x.1) 2 (aE ((decide (((Sx.op x.1):Int)=2)),(x.2.1.1,x.2.1.2.1,x.2.1.p2,x.2.1.p3,x.2.1.p4,x.2.1.p5,x.2.1.p6,x.2.1.q8,(cG x.2.1.q8)),eo x.1,x.2.2)) (aE ((decide (((Sx.op x.1):Int)=3)),(x.2.1.1,x.2.1.2.1,x.2.1.p2,x.2.1.p3,x.2.1.p4,x.2.1.p5,x.2.1.p6,x.2.1.q8,(cG x.2.1.q8)),eo x.1,x.2.2))) λa=>(aG a.1 (av (rr06_gen_branches (eo a.p2,a.2.1,a.q3)) λy4=>(bH (aA (ai a.q3) (ai a.q3)&&J) (aE y4))) (bg (Sx.op x.1) 4 (av (ku (a.2.1.2.1,(Sx.name a.p2))) λy5=>(av (rr06_gen_around ((eo a.p2,11,12,y5),a.2.1,a.q3)) λy6=>(bH (aA (ai a.q3) (ai a.q3)&&J) (aE y6)))) (bg (Sx.op x.1) 5 (av (ku (a.2.1.2.1,(Sx.name a.p2))) λy7=>(av (rr06_gen_around ((eo a.p2,13,14,y7),a.2.1,a.q3)) λy8=>(bH (aA (ai a.q3) (ai a.q3)&&J) (aE y8)))) (bg (Sx.op x.1) 6 (av (ku (a.2.1.2.1,(Sx.name a.p2))) λy9=>(av (rr06_gen_around ((eo a.p2,15,16,y9),a.2.1,a.q3)) λy10=>(bH (aA (ai a.q3) (ai a.q3)&&J) (aE y10)))) (bg (Sx.op x.1) 7 (av (rr06_gen_around ((eo a.p2,17,18,0),a.2.1,a.q3)) λy11=>(bH (aA (ai a.q3) (ai a.q3)&&J) (aE y11))) (bg (Sx.op x.1) 8 (av (rr06_gen_around ((eo a.p2,19,20,0),a.2.1,a.q3)) λy12=>(bH (aA (ai a.q3) (ai a.q3)&&J) (aE y12))) (bg (Sx.op x.1) 9 (av (jz ((Sx.name a.p2),a.2.1,a.q3)) λs=>(bH (aA (ai a.q3) (ai s.2.2)&&J) (av (cF ((21,s.1,0,0,0,0),s.2)) λy14=>(bH (aA (ai s.2.2) (ai s.2.2)&&J) (aE y14))))) (bg (Sx.op x.1) 10 (av (jz ((Sx.name a.p2),a.2.1,a.q3)) λq=>(bH (aA (ai a.q3) (ai q.2.2)&&J) (av (cF ((22,q.1,0,0,0,0),q.2)) λy16=>(bH (aA (ai q.2.2) (ai q.2.2)&&J) (aE y16))))) (bg (Sx.op x.1) 11 (av (jz ((Sx.name a.p2),a.2.1,a.q3)) λc=>(bH (aA (ai a.q3) (ai c.2.2)&&J) (av (cF ((23,c.1,0,0,0,0),c.2)) λy18=>(bH (aA (ai c.2.2) (ai c.2.2)&&J) (aE y18))))) (bg (Sx.op x.1) 12 (av (jf (a.2.1.p4,(Sx.name a.p2))) λy19=>(av (cF ((24,y19,0,0,0,0),a.2.1,a.q3)) λy20=>(bH (aA (ai a.q3) (ai a.q3)&&J) (aE y20)))) (bg (Sx.op x.1) 13 (av (jf (a.2.1.p4,(Sx.name a.p2))) λy21=>(av (cF ((25,y21,0,0,0,0),a.2.1,a.q3)) λy22=>(bH (aA (ai a.q3) (ai a.q3)&&J) (aE y22)))) (bg (Sx.op x.1) 14 (av (iP ((em ((Xp.op (Sx.expr a.p2)),(Xp.n (Sx.expr a.p2)),(Xp.name (Sx.expr a.p2)),(Xp.l (Sx.expr a.p2))),(aV x.2.1.p6)),a.2.1,a.q3)) λz=>(bH (aA (ai a.q3) (ai a.q3)&&J) (av (jf (z.1.p3,(Sx.name a.p2))) λy24=>(av (cF ((26,y24,(aV x.2.1.p6),0,0,0),z)) λZ=>(bH (aA (ai z.2) (ai z.2)&&J) (aE Z)))))) (bg (Sx.op x.1) 15 (av (jf (a.2.1.p6,(Sx.name a.p2))) λU=>(av (jf (a.2.1.p3,(Sx.arg a.p2))) λL=>(av (cF ((27,U,L,0,0,0),a.2.1,a.q3)) λA=>(bH (aA (ai a.q3) (ai a.q3)&&J) (aE A))))) (aE (a.2.1,a.q3))))))))))))))))) λx1=>(M x1))
def mK (rr06_gen_stmts:ack->I (sr×Y ly)) (rr06_gen_stmt:Mm->I (sr×Y ly)) (rr06_gen_branches:Mm->I (sr×Y ly)) (rr06_gen_around:acl->I (sr×Y ly)) (x:Sx×sr×Y ly):I (sr×Y ly):=
 (av (iP ((em ((Xp.op (Sx.expr x.1)),(Xp.n (Sx.expr x.1)),(Xp.name (Sx.expr x.1)),(Xp.l (Sx.expr x.1))),(aV x.2.1.p6)),x.2)) λc=>(bH (aA (ai x.2.2) (ai x.2.2)&&J) (av (cF ((10,(aV c.1.p6),0,0,0,0),c)) λA=>(bH (aA (ai c.2) (ai c.2)&&J) (av (rr06_gen_stmts ((Sx.body x.1),A)) λa=>(bH (aA (ai A.2) (ai A.2)&&J) (bg (Sx.op x.1) 3 (av (cF ((5,(aV x.2.2),0,0,0,0),(a.1.1,a.1.2.1,a.1.p2,a.1.p3,a.1.p4,a.1.p5,a.1.p6,x.2.1.p7,a.1.q8),a.2)) λs=>(bH (aA (ai a.2) (ai a.2)&&J) (ck (fy (aV c.2) (ai s.2)) (M (s.1,(cI s.2 (aV c.2) ((aJ (T:=qW) s.2 (aV c.2)).1,((aJ (T:=qW) s.2 (aV c.2)).2).1,(aV s.2),(((aJ (T:=qW) s.2 (aV c.2)).2).2).2))))))) (bg (aN (ai (Sx.els x.1))) 0 (ck (fy (aV c.2) (ai a.2)) (M ((a.1.1,a.1.2.1,a.1.p2,a.1.p3,a.1.p4,a.1.p5,a.1.p6,x.2.1.p7,a.1.q8),(cI a.2 (aV c.2) ((aJ (T:=qW) a.2 (aV c.2)).1,((aJ (T:=qW) a.2 (aV c.2)).2).1,(aV a.2),(((aJ (T:=qW) a.2 (aV c.2)).2).2).2))))) (av (cF ((5,0,0,0,0,0),(a.1.1,a.1.2.1,a.1.p2,a.1.p3,a.1.p4,a.1.p5,a.1.p6,x.2.1.p7,a.1.q8),a.2)) λq=>(bH (aA (ai a.2) (ai a.2)&&J) (ck (fy (aV c.2) (ai q.2)) (av (rr06_gen_stmts ((Sx.els x.1),q.1,(cI q.2 (aV c.2) ((aJ (T:=qW) q.2 (aV c.2)).1,((aJ (T:=qW) q.2 (aV c.2)).2).1,(aV q.2),(((aJ (T:=qW) q.2 (aV c.2)).2).2).2)))) λz=>(bH (aA (ai (cI q.2 (aV c.2) ((aJ (T:=qW) q.2 (aV c.2)).1,((aJ (T:=qW) q.2 (aV c.2)).2).1,(aV q.2),(((aJ (T:=qW) q.2 (aV c.2)).2).2).2))) (ai (cI q.2 (aV c.2) ((aJ (T:=qW) q.2 (aV c.2)).1,((aJ (T:=qW) q.2 (aV c.2)).2).1,(aV q.2),(((aJ (T:=qW) q.2 (aV c.2)).2).2).2)))&&J) (ck (fy (aV a.2) (ai z.2)) (M (z.1,(cI z.2 (aV a.2) ((aJ (T:=qW) z.2 (aV a.2)).1,(aV z.2),((aJ (T:=qW) z.2 (aV a.2)).2).2))))))))))))))))))
def o_ (rr06_gen_stmts:ack->I (sr×Y ly)) (rr06_gen_stmt:Mm->I (sr×Y ly)) (rr06_gen_branches:Mm->I (sr×Y ly)) (rr06_gen_around:acl->I (sr×Y ly)) (x:(Sx×Int×Int×Int)×sr×Y ly):I (sr×Y ly):=
 (av (cF ((x.1.2.1,x.1.q3,0,0,0,0),x.2)) λc=>(bH (aA (ai x.2.2) (ai x.2.2)&&J) (av (rr06_gen_stmts ((Sx.body x.1.1),c)) λa=>(bH (aA (ai c.2) (ai c.2)&&J) (av (cF ((x.1.p2,x.1.q3,0,0,0,0),(a.1.1,a.1.2.1,a.1.p2,a.1.p3,a.1.p4,a.1.p5,a.1.p6,x.2.1.p7,a.1.q8),a.2)) λq=>(bH (aA (ai a.2) (ai a.2)&&J) (M q)))))))
mutual
def dM:Nat->ack->I (sr×Y ly)
 |0,_=>D
 |n+1,x=>qH (dM n) (eR n) (c9 n) (dH n) x
def eR:Nat->Mm->I (sr×Y ly)
 |0,_=>D
 |n+1,x=>sa (dM n) (eR n) (c9 n) (dH n) x
def c9:Nat->Mm->I (sr×Y ly)
 |0,_=>D
 |n+1,x=>mK (dM n) (eR n) (c9 n) (dH n) x
def dH:Nat->acl->I (sr×Y ly)
 |0,_=>D
 |n+1,x=>o_ (dM n) (eR n) (c9 n) (dH n) x
end
def uj (x:(Y Sx)×sr×Y ly):I (sr×Y ly):=dM fuel x
def qy (x:w_×Y w9):I (Cp×Int×Int):=
 (av (fw x) λU=>(iU U.1 0 (M (((([]:Y S6),([]:Y (ζ×Bool)),([]:Y jX),([]:Y ζ),([]:Y ζ),([]:Y π)),([]:Y (Int×Y ly))),U)) (av (uk x) λy2=>(iter (σ:=(ν)×(w_×Y w9)×fD×Y (Int×Y ly)) (λc=>(bx c.1.2 (aV c.2.1.2) (bM s7 c.2.1.2 c.1.2 λz4=>(bM s7 c.2.1.2 c.1.2 λz5=>(av (uj (z5.2.2.2,(c.p2.1,c.p2.2.1,c.p2.p2,c.p2.p3,c.p2.p4,c.p2.q5,z4.2.2.1,0,c.1.1),([]:Y ly))) λs=>(bH (aA (ai ([]:Y ly)) (ai ([]:Y ly))&&J) (av (cF ((28,0,0,0,0,0),(s.1.1,s.1.2.1,s.1.p2,s.1.p3,s.1.p4,s.1.p5,s.1.p6,(-1),s.1.q8),s.2)) λL=>(bH (aA (ai s.2) (ai s.2)&&J) (iter (σ:=Int×(w_×Y w9)×fD×sr×Int×(Y (Int×Y ly))×Y ly) (λq=>(bx q.1 (aV q.q6) (lG qW q.q6 q.1 λZ=>(av (jM Z) λz=>(iter (σ:=Int×(w_×Y w9)×fD×sr×Int×(Y (Int×Y ly))×Y ly) (λa=>(bx a.1 (aV z) (bM aL z a.1 λA=>(cP ((cG a.1),a.2.1,a.p2,a.p3,(gO a.p4 (cG A)),a.q5))) (aE (oX ((cG q.1),a.2))))) (0,q.2)))) (av (bH (bc (ai q.p5+ai ([(q.p4,q.q6)])) 32) (cP ((s.1.q8,(cG c.1.2)),q.2.1,q.p2,(q.p5++([(q.p4,q.q6)]))))) λr=>M (bX r)))) (0,c.2.1,c.p2,L.1,(aV L.1.p6),c.q3,L.2)))))))) (aE (c.2.2,0,0)))) ((0,0),x,y2,([]:Y (Int×Y ly)))))))
def qx (x:η×Int):I (Bool):=
 (iter (σ:=Int) (λa=>(bx a (aV x.1) (bM aL x.1 a λc=>(bg c x.2 (aE J) (cP (cG a)))) (aE af))) 0)
def wv (x:η×Int):I η:=
 (iter (σ:=Int) (λa=>(jn (bx a (aV x.1) (bM aL x.1 a λq=>(aE (fJ q x.2))) (aE af)) λz=>(aG z (cP (cG a)) (av (jn (bx a (aV x.1) (bM aL x.1 a λc=>(aE (decide ((c:Int)=x.2)))) (aE af)) λs=>(aG s (M x.1) (bH (cZ 0 a&&cZ a (ai x.1)) (bH (bc (ai ([]:η)+ai (dJ (aQ a) x.1)) 8) (bH (bc (ai (([]:η)++(dJ (aQ a) x.1))+ai ([x.2])) 8) (bH (cZ 0 a&&cZ a (ai x.1)) (bH (bc (ai ((([]:η)++(dJ (aQ a) x.1))++([x.2]))+ai (List.drop (aQ a) x.1)) 8) (M (((([]:η)++(dJ (aQ a) x.1))++([x.2]))++(List.drop (aQ a) x.1)))))))))) λr=>M (bX r))))) 0)
def ry (x:η×η):I η:=
 (iter (σ:=(η)×Int) (λc=>(bx c.2 (aV x.1) (bM aL x.1 c.2 λs=>(av (wv (c.1,s)) λA=>(cP (A,(cG c.2))))) (av (iter (σ:=(η)×Int) (λa=>(bx a.2 (aV x.2) (bM aL x.2 a.2 λq=>(av (wv (a.1,q)) λz=>(cP (z,(cG a.2))))) (aE a.1))) (c.1,0)) λr=>M (bX r)))) (([]:η),0))
def mw (x:Int):I (Int):=
 (jn (bx x 1 (aE J) (aE (fJ 100 x))) λa=>(aG a (M 0) (M x)))
def cq (x:Int×(η)×(Y η)×Int):I (ν×(η)×Y η):=
 (bH (bc (ai ([]:η)+ai x.2.1) 8) (iter (σ:=Int×vO×(ν)×(ν)×(η)×Y η) (λa=>(bx a.1 (aV a.2.1.p2) (bM (.sl aL) a.2.1.p2 a.1 λc=>(bH (bc (ai ([]:η)+ai c) 8) (bH (bc (ai a.q5+ai ([(([]:η)++c)])) 24) (cP ((cG a.1),a.2.1,a.p2,a.p3,a.p4,(a.q5++([(([]:η)++c)]))))))) (aE a.q3))) (0,x,(0,0),(x.1,x.q3),(([]:η)++x.2.1),([]:Y η))))
def wu (x:(ly×Int×Int)×(η)×Y η):I ((ν×Bool)×(η)×Y η):=
 (av (jM x.1.1) λy1=>(iter (σ:=Int×(η)×(Y η)×ly×(ν)×Int×Int) (λa=>(bx a.1 (aV y1) (jn (bM aL y1 a.1 λz4=>(bx z4 0 (aE (J,a.2)) (bM aL y1 a.1 λz5=>(aE ((cZ (aV a.2.1) z5),a.2))))) λx3=>(aG x3.1 D (cP ((cG a.1),x3.2)))) (av (jn (α:=(Int×Bool×η)×(η)×(Y η)×ly×(ν)×Int×Int) (bg a.p3.1 5 (cP (((a.p3.2.1,a.p4.2),J),a.2.1,a.p2)) (bg a.p3.1 1 (aE ((a.p3.p4,J,([]:η)),a.2)) (bg a.p3.1 2 (lG aL a.2.1 a.p3.p2 λz7=>(lG (.sl aL) a.p2 a.p3.p2 λz8=>(aE ((z7,J,z8),a.2)))) (bg a.p3.1 3 (av (mw a.p3.p4) λy9=>(lG aL a.2.1 a.p3.p2 λz10=>(av (ul (y9,z10)) λs=>(lG (.sl aL) a.p2 a.p3.p2 λZ=>(aE ((s.1,s.2,Z),a.2)))))) (av (mw a.p3.p4) λy13=>(lG aL a.2.1 a.p3.p2 λU=>(lG aL a.2.1 a.p3.p3 λL=>(av (sB (y13,U,L)) λq=>(lG (.sl aL) a.p2 a.p3.p2 λA=>(lG (.sl aL) a.p2 a.p3.p3 λz=>(av (ry (A,z)) λy19=>(aE ((q.1,q.2,y19),a.2))))))))))))) λc=>(bH (bc (ai ([]:η)+ai c.1.2.2) 8) (ck (fy c.p3.2.1 (ai c.2.1)) (ck (fy c.p3.2.1 (ai c.p2)) (M ((((cG c.p4.1),c.p4.2),c.1.2.1),(cI c.2.1 c.p3.2.1 c.1.1),(cI c.p2 c.p3.2.1 (([]:η)++c.1.2.2)))))))) λr=>M (bX r)))) (0,x.2.1,x.2.2,x.1.1,x.1.2,0,0)))
def nB (x:(Int×Y ly)×Int×(η)×(Y η)×Int):I (vO×Bool):=
 (jn (α:=Bool×(Int×Y ly)×vO×Int×Int) (iU (aV x.p2) x.1.1 (aE (J,x.1,x.2,0,0)) (aE ((!decide (((aV x.p3):Int)=x.1.1)),x.1,x.2,0,0))) λs=>(aG s.1 (M ((0,([]:η),([]:Y η),0),af)) (av (cq s.p2) λA=>(iter (σ:=Int×(Int×Y ly)×(ν)×(ν)×(η)×Y η) (λc=>(jI c.1 (aV c.2.1.2) (jn (bx c.p2.1 0 (aE (J,c.2)) (aE ((cZ (aV c.2.1.2) c.p2.1),c.2))) λa=>(aG a.1 (aE ((0,([]:η),([]:Y η),0),af)) (bM qW a.2.1.2 a.p2.1 λz=>(av (pO z.1) λL=>(aG (!L) (aE ((a.p2.1,a.p4,a.q5,a.p2.2),J)) (bg c.1 (aV a.2.1.2) (aE ((0,([]:η),([]:Y η),0),af)) (av (wu ((z,a.p2),a.q4)) λq=>(bH (aA (ai a.q5) (ai q.2.2)&&(aA (ai a.p4) (ai q.2.1)&&J)) (aG (!q.1.2) (aE ((0,([]:η),([]:Y η),0),af)) (cP ((cG c.1),a.2.1,q.1.1,a.p3,q.2))))))))))) (aE ((0,([]:η),([]:Y η),0),af)))) (0,s.2.1,A.1,s.q3,A.2)))))
def ru (x:oo×mQ×(Y jX)×dl×dl×Y π):I sQ:=
 (iter (σ:=Int×fD×Int×Int×Y (Int×η)) (λq=>(bx q.1 (aV q.2.1.2.1) (bH (bc (ai q.q4+ai ([((-1),([]:η))])) 32) (cP ((cG q.1),q.2.1,q.p2,q.p3,(q.q4++([((-1),([]:η))]))))) (av (iter (σ:=Int×fD×Int×Int×jt×θ) (λc=>(bx c.1 (aV c.2.1.p3) (bH (bc (ai c.q5+ai ([af])) 1) (cP ((cG c.1),c.2.1,c.p2,c.p3,c.p4,(c.q5++([af]))))) (av (iter (σ:=Int×fD×Int×Int×jt×(θ)×Y ef) (λa=>(bx a.1 (aV a.2.1.p4) (jn (α:=fD×Int×Int×ef×jt×(θ)×Y ef) (bg a.1 0 (aE (a.2.1,a.p2,a.p3,(1,0,af),a.q4)) (aE (a.2.1,a.p2,a.p3,(0,0,af),a.q4))) λs=>(bH (bc (ai s.q6+ai ([s.p3])) 24) (cP ((cG a.1),s.1,s.2.1,s.p2,s.p4,s.p5,(s.q6++([s.p3])))))) (aE (a.p4,a.p3,a.q5)))) (0,c.2.1,c.p2,c.p3,c.p4,c.q5,([]:Y ef))) λr=>M (bX r)))) (0,q.2.1,q.p2,q.p3,q.q4,([]:θ))) λr=>M (bX r)))) (0,x,0,(-1),([]:Y (Int×η))))
def rx (x:fD×jt×Int×(θ)×Y ef):I (Bool):=
 (iter (σ:=Int×fD×jt×Int×(θ)×Y ef) (λa=>(bx a.1 (aV a.2.1.p2) (jn (bM mn a.2.1.p2 a.1 λs=>(bx s.2 0 (aE (J,a.2)) (bM mn a.2.1.p2 a.1 λq=>(aE ((cZ (aV a.2.1.2.1) q.2),a.2))))) λc=>(aG c.1 (aE af) (cP ((cG a.1),c.2)))) (av (jn (bg (aV a.p2) (aV a.2.1.2.1) (bg (aV a.p4) (aV a.2.1.p3) (aE (decide (((aV a.q5):Int)=(aV a.2.1.p4)))) (aE af)) (aE af)) λz=>(M z)) λr=>M (bX r)))) (0,x))
def qw (x:ν):I (Bool):=
 (jn (jI 0 x.1 (aE (fJ x.1 x.2)) (aE af)) λa=>(M a))
def ui (x:fD×Int×Int):I (Bool):=
 (jn (bg x.2.1 1 (aE ((decide ((x.2.1:Int)=1)),x.1)) (bg x.2.1 2 (aE ((decide ((x.2.1:Int)=2)),x.1)) (bg x.2.1 5 (aE ((decide ((x.2.1:Int)=5)),x.1)) (bg x.2.1 12 (aE ((decide ((x.2.1:Int)=12)),x.1)) (bg x.2.1 13 (aE ((decide ((x.2.1:Int)=13)),x.1)) (bg x.2.1 14 (aE ((decide ((x.2.1:Int)=14)),x.1)) (aE ((decide ((x.2.1:Int)=15)),x.1)))))))) λx1=>(aG x1.1 (M (decide ((x.2.2:Int)=(-1)))) (jn (bg x.2.1 3 (aE ((decide ((x.2.1:Int)=3)),x1.2)) (aE ((decide ((x.2.1:Int)=4)),x1.2))) λA=>(aG A.1 (av (qw (x.2.2,(aV A.2.1))) λy3=>(M y3)) (jn (bg x.2.1 6 (aE ((decide ((x.2.1:Int)=6)),A.2)) (aE ((decide ((x.2.1:Int)=7)),A.2))) λs=>(aG s.1 (jn (av (qw (x.2.2,(aV s.p2))) λy6=>(aG y6 (bM rT s.p2 x.2.2 λz7=>(aE (!z7.2))) (aE af))) λx5=>(M x5)) (jn (bg x.2.1 8 (aE ((decide ((x.2.1:Int)=8)),s.2)) (bg x.2.1 9 (aE ((decide ((x.2.1:Int)=9)),s.2)) (bg x.2.1 10 (aE ((decide ((x.2.1:Int)=10)),s.2)) (aE ((decide ((x.2.1:Int)=11)),s.2))))) λq=>(aG q.1 (jn (av (qw (x.2.2,(aV q.p2))) λy10=>(aG y10 (bM rT q.p2 x.2.2 λL=>(aE L.2)) (aE af))) λx9=>(M x9)) (jn (bg x.2.1 16 (aE ((decide ((x.2.1:Int)=16)),q.2)) (bg x.2.1 17 (aE ((decide ((x.2.1:Int)=17)),q.2)) (bg x.2.1 18 (aE ((decide ((x.2.1:Int)=18)),q.2)) (aE ((decide ((x.2.1:Int)=19)),q.2))))) λc=>(aG c.1 (av (qw (x.2.2,(aV c.p3))) λy13=>(M y13)) (jn (bg x.2.1 20 (aE ((decide ((x.2.1:Int)=20)),c.2)) (aE ((decide ((x.2.1:Int)=21)),c.2))) λa=>(aG a.1 (av (qw (x.2.2,(aV a.p5))) λZ=>(M Z)) (jn (bg x.2.1 22 (aE ((decide ((x.2.1:Int)=22)),a.2)) (aE ((decide ((x.2.1:Int)=23)),a.2))) λz=>(aG z.1 (av (qw (x.2.2,(aV z.p4))) λU=>(M U)) (M af)))))))))))))))
def kr (x:fD×sQ×Int×Int×Int):I (Bool):=
 (jn (av (rx (x.1,x.2.1)) λy2=>(aG (!y2) (aE (J,x.1,x.2.1)) (av (qw (x.p2,(aV x.1.p4))) λy3=>(aG (!y3) (aE (J,x.1,x.2.1)) (av (ui (x.1,x.q3)) λy4=>(aE ((!y4),x.1,x.2.1))))))) λq=>(aG q.1 (M af) (bM ik q.q5 x.p2 λs=>(bg x.p3 1 (M (decide ((s.1:Int)=1))) (bg x.p3 17 (jn (α:=Bool) (bg s.1 4 (bg s.2.1 x.q4 (bM mn q.2.1.p2 x.q4 λz7=>(bM eh q.p2 z7.2 λz8=>(aE (decide ((z8.1:Int)=(-1)))))) (aE af)) (aE af)) λx6=>(M x6)) (iU s.1 2 (M af) (bg x.p3 6 (bM eh q.p2 x.q4 λz9=>(M (decide ((z9.1:Int)=(-1))))) (bg x.p3 10 (jn (α:=Bool) (bM eh q.p2 x.q4 λz11=>(bg z11.1 (-1) (bM eh q.p2 x.q4 λz12=>(aE (decide (((aV z12.2):Int)=0)))) (aE af))) λx10=>(M x10)) (bg x.p3 8 (jn (α:=Bool) (bM eh q.p2 x.q4 λz14=>(bg z14.1 (-1) (bM eh q.p2 x.q4 λz15=>(av (qx (z15.2,x.p2)) λy16=>(aE (!y16)))) (aE af))) λx13=>(M x13)) (jn (bg x.p3 7 (aE ((decide ((x.p3:Int)=7)),q.2.1,q.2.2,s)) (aE ((decide ((x.p3:Int)=11)),q.2.1,q.2.2,s))) λa=>(aG a.1 (bM eh a.p2.1 x.q4 λz18=>(M (decide ((z18.1:Int)=x.p2)))) (bg x.p3 9 (bM eh a.p2.1 x.q4 λz19=>(av (qx (z19.2,x.p2)) λy20=>(M y20))) (bg x.p3 12 (M (decide ((a.p2.2.1:Int)=(-1)))) (bg x.p3 13 (M (decide ((a.p2.2.1:Int)=x.p2))) (bg x.p3 14 (M (!a.q5)) (bg x.p3 15 (M a.q5) (jn (bg x.p3 16 (aE ((decide ((x.p3:Int)=16)),a.2.1,a.p2)) (bg x.p3 18 (aE ((decide ((x.p3:Int)=18)),a.2.1,a.p2)) (aE ((decide ((x.p3:Int)=19)),a.2.1,a.p2)))) λc=>(aG c.1 (bM mn c.2.1.p2 x.q4 λz22=>(bM eh c.p2 z22.2 λZ=>(M (decide ((Z.1:Int)=x.p2))))) (bg x.p3 20 (jn (iU x.q4 x.p2 (bM ik c.q5 x.q4 λU=>(aE (decide ((U.1:Int)=0)))) (aE af)) λx24=>(M x24)) (bg x.p3 21 (jn (iU x.q4 x.p2 (bM ik c.q5 x.q4 λL=>(aE (decide ((L.1:Int)=5)))) (aE af)) λx26=>(M x26)) (bg x.p3 22 (bM (.bool) c.p4 x.q4 λA=>(M (!A))) (bg x.p3 23 (bM (.bool) c.p4 x.q4 λz=>(M z)) (M J)))))))))))))))))))))))
def nU (x:sQ×Int):I η:=
 (iter (σ:=Int×sQ×η) (λa=>(bx a.1 (aV a.2.1.q3) (jn (α:=sQ×η) (jn (bM ik a.2.1.q3 a.1 λs=>(bg s.1 3 (bM ik a.2.1.q3 a.1 λq=>(aE ((decide ((q.2.1:Int)=x.2)),a.2))) (aE (af,a.2)))) λc=>(aG c.1 (bH (bc (ai c.2.2+ai ([a.1])) 8) (aE (c.2.1,(c.2.2++([a.1]))))) (aE c.2))) λz=>(cP ((cG a.1),z))) (aE a.2.2))) (0,x.1,([]:η)))
def qu (x:η×Int):I η:=
 (iter (σ:=Int×η) (λa=>(bx a.1 (aV x.1) (jn (α:=η) (bM aL x.1 a.1 λq=>(iU q x.2 (bM aL x.1 a.1 λc=>(bH (bc (ai a.2+ai ([c])) 8) (aE (a.2++([c]))))) (aE a.2))) λs=>(cP ((cG a.1),s))) (aE a.2))) (0,([]:η)))
def iy (x:jt×Int×(θ)×Y ef):I (Int×jt×(θ)×Y ef):=
 (bH (bc (ai ([]:θ)+ai x.p2) 1) (bH (bc (ai ([]:Y ef)+ai x.q3) 24) (iter (σ:=Int×sQ×Int×Int×jt×(θ)×Y ef) (λa=>(bx a.1 (aV a.2.1.1) (bM eh a.2.1.1 a.1 λq=>(bM eh a.2.1.1 a.1 λc=>(bH (bc (ai ([]:η)+ai c.2) 8) (bH (bc (ai a.p4+ai ([(q.1,(([]:η)++c.2))])) 32) (cP ((cG a.1),a.2.1,a.p2,a.p3,(a.p4++([(q.1,(([]:η)++c.2))])),a.q5)))))) (aE a.q3))) (0,x,0,x.2.1,([]:Y (Int×η)),(([]:θ)++x.p2),(([]:Y ef)++x.q3)))))
def mr (x:ν×jt×(θ)×Y ef):I (η×jt×(θ)×Y ef):=
 (iter (σ:=Int×jt×(θ)×(Y ef)×Int×η) (λa=>(bx a.1 (aV a.p3) (jn (α:=jt×(θ)×(Y ef)×Int×η) (jn (lG ik a.p3 a.1 λs=>(bg s.1 3 (lG ik a.p3 a.1 λq=>(aE ((decide ((q.2.1:Int)=x.1.2)),a.2))) (aE (af,a.2)))) λc=>(aG c.1 (bH (bc (ai c.q5+ai ([a.1])) 8) (aE (c.2.1,c.p2,c.p3,c.p4,(c.q5++([a.1]))))) (aE c.2))) λz=>(cP ((cG a.1),z))) (aE (a.q5,a.2.1,a.p2,a.p3)))) (0,x.2.1,x.p2,x.q3,x.1.1,([]:η)))
def jK (x:ν×jt×(θ)×Y ef):I η:=av (mr x) λy=>same y.2 x.2 (M y.1)
def pq (x:fD×sQ×Int×Int×Int×Int):I (sQ×Int×Bool):=
 (av (kr (x.1,x.2.1,x.p2,x.p3,x.p4)) λy1=>(aG (!y1) (M ((([]:Y (Int×η)),0,([]:θ),([]:Y ef)),0,af)) (av (iy x.2.1) λs=>(jn (α:=Int×Int×Int×jt×(θ)×Y ef) (bg x.p3 1 (ck (fy x.p2 (ai s.q3)) (aE (0,s.1,0,s.2.1,s.p2,(cI s.q3 x.p2 (2,(aJ (T:=ik) s.q3 x.p2).2))))) (bg x.p3 2 (ck (fy x.p2 (ai s.q3)) (aE (0,s.1,0,s.2.1,s.p2,(cI s.q3 x.p2 (5,(aJ (T:=ik) s.q3 x.p2).2))))) (jn (α:=Bool×fD×Int×Int×jt×(θ)×Y ef) (bg x.p3 6 (aE ((decide ((x.p3:Int)=6)),x.1,s.1,0,s.2)) (aE ((decide ((x.p3:Int)=10)),x.1,s.1,0,s.2))) λz=>(aG z.1 (ck (fy x.p4 (ai z.p4)) (aE (0,z.p2,z.p3,(cI z.p4 x.p4 (x.p2,(aJ (T:=eh) z.p4 x.p4).2)),z.q5))) (jn (bg x.p3 7 (aE ((decide ((x.p3:Int)=7)),z.2)) (aE ((decide ((x.p3:Int)=11)),z.2))) λa=>(aG a.1 (ck (fy x.p4 (ai a.p4)) (aE (0,a.p2,a.p3,(cI a.p4 x.p4 ((-1),(aJ (T:=eh) a.p4 x.p4).2)),a.q5))) (bg x.p3 8 (lG eh a.p4 x.p4 λz6=>(av (ry (z6.2,[x.p2])) λy7=>(ck (fy x.p4 (ai a.p4)) (aE (0,a.p2,a.p3,(cI a.p4 x.p4 ((aJ (T:=eh) a.p4 x.p4).1,y7)),a.q5))))) (bg x.p3 9 (lG eh a.p4 x.p4 λz8=>(av (qu (z8.2,x.p2)) λy9=>(ck (fy x.p4 (ai a.p4)) (aE (0,a.p2,a.p3,(cI a.p4 x.p4 ((aJ (T:=eh) a.p4 x.p4).1,y9)),a.q5))))) (bg x.p3 12 (aE (0,x.p2,a.q3)) (bg x.p3 13 (aE (0,(-1),a.q3)) (bg x.p3 14 (ck (fy x.p2 (ai a.q6)) (aE (0,a.p2,a.p3,a.p4,a.p5,(cI a.q6 x.p2 ((aJ (T:=ik) a.q6 x.p2).1,((aJ (T:=ik) a.q6 x.p2).2).1,J))))) (bg x.p3 15 (ck (fy x.p2 (ai a.q6)) (aE (0,a.p2,a.p3,a.p4,a.p5,(cI a.q6 x.p2 ((aJ (T:=ik) a.q6 x.p2).1,((aJ (T:=ik) a.q6 x.p2).2).1,af))))) (bg x.p3 16 (bM mn a.2.1.p2 x.p4 λU=>(ck (fy U.2 (ai a.p4)) (ck (fy x.p2 (ai a.q6)) (ck (fy x.p2 (ai (cI a.q6 x.p2 (3,(aJ (T:=ik) a.q6 x.p2).2)))) (aE (0,a.p2,a.p3,(cI a.p4 U.2 ((-1),(aJ (T:=eh) a.p4 U.2).2)),a.p5,(cI (cI a.q6 x.p2 (3,(aJ (T:=ik) a.q6 x.p2).2)) x.p2 ((aJ (T:=ik) (cI a.q6 x.p2 (3,(aJ (T:=ik) a.q6 x.p2).2)) x.p2).1,x.p4,((aJ (T:=ik) (cI a.q6 x.p2 (3,(aJ (T:=ik) a.q6 x.p2).2)) x.p2).2).2)))))))) (bg x.p3 17 (bM mn a.2.1.p2 x.p4 λL=>(ck (fy L.2 (ai a.p4)) (ck (fy x.p2 (ai a.q6)) (ck (fy x.p2 (ai (cI a.q6 x.p2 (2,(aJ (T:=ik) a.q6 x.p2).2)))) (aE (0,a.p2,a.p3,(cI a.p4 L.2 (x.p2,(aJ (T:=eh) a.p4 L.2).2)),a.p5,(cI (cI a.q6 x.p2 (2,(aJ (T:=ik) a.q6 x.p2).2)) x.p2 ((aJ (T:=ik) (cI a.q6 x.p2 (2,(aJ (T:=ik) a.q6 x.p2).2)) x.p2).1,0,((aJ (T:=ik) (cI a.q6 x.p2 (2,(aJ (T:=ik) a.q6 x.p2).2)) x.p2).2).2)))))))) (bg x.p3 18 (av (jK ((a.p2,x.p4),a.q4)) λy12=>(bx 0 (aV y12) (bM aL y12 0 λz13=>(jn (av (qx (y12,x.q5)) λy15=>(aG y15 (aE (x.q5,a.2.2)) (aE (z13,a.2.2)))) λq=>(ck (fy q.1 (ai q.q5)) (aE (q.1,q.2.1,q.p2,q.p3,q.p4,(cI q.q5 q.1 (4,(aJ (T:=ik) q.q5 q.1).2))))))) (aE ((-1),a.2.2)))) (bg x.p3 19 (av (jK ((a.p2,x.p4),a.q4)) λZ=>(iter (σ:=Int×Int×Int×jt×(θ)×Y ef) (λc=>(bx c.1 (aV Z) (bM aL Z c.1 λA=>(ck (fy A (ai c.q5)) (cP ((cG c.1),c.2.1,c.p2,c.p3,c.p4,(cI c.q5 A (4,(aJ (T:=ik) c.q5 A).2)))))) (aE (bX ((aV Z),c.2))))) (0,a.2.2))) (bg x.p3 20 (ck (fy x.p4 (ai a.q6)) (aE (0,a.p2,a.p3,a.p4,a.p5,(cI a.q6 x.p4 (1,(aJ (T:=ik) a.q6 x.p4).2))))) (bg x.p3 22 (ck (fy x.p4 (ai a.p5)) (aE (0,a.p2,a.p3,a.p4,(cI a.p5 x.p4 J),a.q6))) (aE (0,a.2.2)))))))))))))))))))) λx3=>(M ((x3.p3,x3.2.1,x3.q4),x3.1,J))))))
def uh (x:fD×Y (Int×Y ly)):I xV:=
 (av (jL x) λU=>(aG (!U) (M ((([]:Y (Int×η)),0,([]:θ),([]:Y ef)),([]:η),([]:η),([]:Y vO))) (av (ru x.1) λL=>(iter (σ:=Int×Cp×Int×sQ×η) (λq=>(bx q.1 (aV q.2.1.1.1) (bM kO q.2.1.1.1 q.1 λA=>(bH (bc (ai q.q4+ai ([A.2.2.2.2])) 8) (cP ((cG q.1),q.2.1,q.p2,q.p3,(q.q4++([A.2.2.2.2])))))) (av (iter (σ:=Int×Cp×Int×sQ×(η)×η) (λc=>(bx c.1 (aV c.2.1.1.p3) (bH (bc (ai c.q5+ai ([0])) 8) (cP ((cG c.1),c.2.1,c.p2,c.p3,c.p4,(c.q5++([0]))))) (av (iter (σ:=Int×Cp×Int×sQ×(η)×(η)×Y vO) (λa=>(bx a.1 (aV a.2.1.2) (xi a.1 a.2.1.2 (lt ((aJ (T:=xd) a.2.1.2 a.1).1) λz=>(bH (cZ 0 z&&cZ z z&&bc (aQ z) 8) (xi a.1 a.2.1.2 (lt ((aJ (T:=xd) a.2.1.2 a.1).1) λs=>(bH (cZ 0 s&&cZ s s&&bc (aQ s) 24) (bH (bc (ai a.q6+ai ([(0,(aB (aQ z) (0:Int)),(aB (aQ s) ([]:η)),0)])) 64) (cP ((cG a.1),a.2.1,a.p2,a.p3,a.p4,a.p5,(a.q6++([(0,(aB (aQ z) (0:Int)),(aB (aQ s) ([]:η)),0)]))))))))))) (aE a.q3))) (0,c.2.1,c.p2,c.p3,c.p4,c.q5,([]:Y vO))) λr=>M (bX r)))) (0,q.2.1,q.p2,q.p3,q.q4,([]:η))) λr=>M (bX r)))) (0,x,0,L,([]:η))))))
def wq (x:Cp×sQ×(η)×(η)×Y vO):I (Bool):=
 (jn (av (jL x.1) λZ=>(aG (!Z) (aE (J,x)) (av (rx (x.1.1,x.2.1)) λU=>(aG (!U) (aE (J,x)) (iU (aV x.p2) (aV x.1.1.1) (aE (J,x)) (iU (aV x.p3) (aV x.1.1.p3) (aE (J,x)) (aE ((!decide (((aV x.q4):Int)=(aV x.1.2))),x)))))))) λs=>(aG s.1 (M af) (iter (σ:=Int×Cp×sQ×(η)×(η)×Y vO) (λa=>(bx a.1 (aV a.2.1.2) (bM eX a.q5 a.1 λc=>(jn (bx c.1 0 (aE (J,a.2)) (bM xd a.2.1.2 a.1 λL=>(jI (aV L.2) c.1 (aE (J,a.2)) (bM xd a.2.1.2 a.1 λA=>(iU (aV c.2.1) A.1 (aE (J,a.2)) (bM xd a.2.1.2 a.1 λz=>(aE ((!decide (((aV c.p2):Int)=z.1)),a.2)))))))) λq=>(aG q.1 (aE af) (cP ((cG a.1),q.2))))) (aE J))) (0,s.2))))
def wj (x:Int):I (Int):=
 (jn (α:=Bool×η) (bx x 6 (aE (J,[3,3,4,4,5,6,7,8,9,10,11,12,13,14,15,16,18,19,20,21,22,23,2])) (aE ((fJ 28 x),[3,3,4,4,5,6,7,8,9,10,11,12,13,14,15,16,18,19,20,21,22,23,2]))) λa=>(aG a.1 (M 0) (lG aL a.2 (bl .i64 (x-6)) λc=>(M c))))
def sA (x:ly×Int×(η)×(Y η)×Int):I (Int):=
 (jn (bg x.1.1 6 (aE ((decide ((x.1.1:Int)=6)),x)) (aE ((decide ((x.1.1:Int)=27)),x))) λa=>(aG a.1 (M a.2.1.p2) (bg x.1.1 7 (bM aL a.p3 a.2.1.p3 λs=>(av (rz (s,a.2.1.p4)) λA=>(M (bl .i64 (a.2.1.p2+A))))) (bg x.1.1 9 (bM aL a.p3 a.2.1.p3 λq=>(av (rz (q,a.2.1.p4)) λz=>(M (bl .i64 (a.2.1.2.1+z))))) (jn (bg x.1.1 10 (aE ((decide ((x.1.1:Int)=10)),a.2.1)) (bg x.1.1 17 (aE ((decide ((x.1.1:Int)=17)),a.2.1)) (bg x.1.1 18 (aE ((decide ((x.1.1:Int)=18)),a.2.1)) (bg x.1.1 19 (aE ((decide ((x.1.1:Int)=19)),a.2.1)) (bg x.1.1 20 (aE ((decide ((x.1.1:Int)=20)),a.2.1)) (aE ((decide ((x.1.1:Int)=28)),a.2.1))))))) λc=>(aG c.1 (M (-1)) (M c.p2)))))))
def nS (x:Cp×xV×Int):I (jB×Bool):=
 (jn (α:=Bool×Cp×xV×Int×Int×Int×Int×Int) (av (wq (x.1,x.2.1)) λy2=>(aG (!y2) (aE (J,x.1,x.2.1,0,0,0,0,0)) (bx x.2.2 0 (aE (J,x.1,x.2.1,0,0,0,0,0)) (aE ((cZ (aV x.1.2) x.2.2),x.1,x.2.1,0,0,0,0,0))))) λA=>(aG A.1 (M ((0,0,0,0,0,([]:η),([]:η)),af)) (bM eX A.p2.q3 x.2.2 λL=>(bM xd A.2.1.2 x.2.2 λz4=>(bM qW z4.2 L.1 λq=>(bM ik A.p2.1.q3 x.2.2 λz6=>(bg z6.1 1 (M ((x.2.2,1,(-1),0,(-1),([]:η),([]:η)),J)) (bg z6.1 4 (bM ik A.p2.1.q3 x.2.2 λz7=>(M ((x.2.2,17,z7.2.1,0,q.q5,([]:η),([]:η)),J))) (bg z6.1 2 (av (wj q.1) λy8=>(av (sA (q,L)) λy9=>(bg y8 0 (M ((0,0,0,0,0,([]:η),([]:η)),af)) (jn (α:=D9×vO×ly×D9×η) (bg q.1 10 (bM (.sl aL) L.p2 q.2.1 λz11=>(bH (bc (ai (z11:η)) 8) (aE (A.q3,L,q,(x.2.2,y8,y9,0,q.q5),z11)))) (jn (α:=Bool×D9×vO×ly×Int×Int×Int×Int×Int) (bg q.1 7 (aE ((decide ((q.1:Int)=7)),A.q3,L,q,x.2.2,y8,y9,0,q.q5)) (aE ((decide ((q.1:Int)=9)),A.q3,L,q,x.2.2,y8,y9,0,q.q5))) λa=>(aG a.1 (bM (.sl aL) a.p2.p2 a.p3.p3 λZ=>(bH (bc (ai (Z:η)) 8) (aE (a.2.1,a.p2,a.p3,a.q4,Z)))) (aE (a.2.1,a.p2,a.p3,a.q4,([]:η)))))) λz=>(jn (α:=D9×D9×(η)×η) (jn (bg z.p2.1 8 (aE (J,z)) (bg z.p2.1 9 (aE (J,z)) (aE ((decide ((z.p2.1:Int)=26)),z)))) λc=>(aG c.1 (bM (.sl aL) c.p2.p2 c.p3.p2 λU=>(bH (bc (ai (U:η)) 8) (aE (c.2.1,c.p4,c.q5,U)))) (aE (c.2.1,c.p4,c.q5,([]:η))))) λs=>(M ((s.2.1.1,s.2.1.2.1,s.2.1.p2,s.2.1.p3,s.2.1.q4,s.2.2),J))))))) (M ((0,0,0,0,0,([]:η),([]:η)),af)))))))))))
def m6 (x:oo×mQ×(Y jX)×dl×dl×Y π):I gk:=
 (av (ru x) λq=>(bH (cZ 0 (aV x.p3)&&cZ (aV x.p3) (aV x.p3)&&bc (aQ (aV x.p3)) 8) (bH (cZ 0 (aV x.p4)&&cZ (aV x.p4) (aV x.p4)&&bc (aQ (aV x.p4)) 8) (iter (σ:=Int×fD×Int×sQ×(η)×(η)×η) (λa=>(bx a.1 (aV a.2.1.1) (bM kO a.2.1.1 a.1 λc=>(bH (bc (ai a.p4+ai ([c.2.2.2.2])) 8) (cP ((cG a.1),a.2.1,a.p2,a.p3,(a.p4++([c.2.2.2.2])),a.q5)))) (aE a.q3))) (0,x,0,q,([]:η),(aB (aQ (aV x.p3)) (0:Int)),(aB (aQ (aV x.p4)) (0:Int)))))))
def wh (x:fD×sQ×(η)×(η)×η):I (Bool):=
 (jn (av (rx (x.1,x.2.1)) λa=>(aG a (bg (aV x.p2) (aV x.1.1) (bg (aV x.p3) (aV x.1.p3) (aE (decide (((aV x.q4):Int)=(aV x.1.p4)))) (aE af)) (aE af)) (aE af))) λc=>(M c))
def CU (x:ν):I (Bool):=
 (jn (jI 0 x.1 (aE (fJ x.1 x.2)) (aE af)) λa=>(M a))
def nR (x:η×Int):I (Bool):=
 (iter (σ:=Int) (λa=>(bx a (aV x.1) (jn (bM aL x.1 a λz=>(bx z 1 (aE J) (bM aL x.1 a λs=>(jI x.2 s (aE J) (bx 0 a (bM aL x.1 a λq=>(bM aL x.1 (bl .i64 (a-1)) λc=>(aE (cZ q c)))) (aE af)))))) λA=>(aG A (aE af) (cP (cG a)))) (aE J))) 0)
def uf (x:gk×Int×Int×Int×Int×Int×(η)×η):I (Bool):=
 (bg x.p2 3 (bM aL x.1.2.1 x.p3 λs=>(M (decide ((x.p4:Int)=s)))) (bg x.p2 23 (bM aL x.1.p2 x.p3 λq=>(M (decide ((x.p4:Int)=q)))) (bg x.p2 5 (jn (bg x.p4 0 (aE J) (aE (decide ((x.p4:Int)=1)))) λU=>(M U)) (jn (bg x.p2 4 (aE ((decide ((x.p2:Int)=4)),x)) (aE ((decide ((x.p2:Int)=22)),x))) λa=>(aG a.1 (M J) (bg x.p2 18 (av (nU (a.2.1.1,a.p4)) λc=>(bg (aV c) 0 (M (decide ((a.p5:Int)=(-1)))) (jn (jI 0 a.p5 (bx a.p5 (aV a.2.1.1.q3) (av (qx (c,a.p5)) λA=>(aE A)) (aE af)) (aE af)) λL=>(M L)))) (bg x.p2 19 (av (nU (a.2.1.1,a.p4)) λz=>(M (decide ((a.p5:Int)=(aV z))))) (M (decide ((a.p5:Int)=0))))))))))
def rq (x:fD×gk×Int×Int×Int×Int×Int×(η)×η):I (gk×Bool):=
 (jn (α:=Bool×fD×gk×jB×Int) (av (wh (x.1,x.2.1)) λy2=>(aG (!y2) (aE (J,x.1,x.2.1,x.2.2,0)) (av (CU (x.p2,(aV x.1.p4))) λy3=>(aG (!y3) (aE (J,x.1,x.2.1,x.2.2,0)) (bx x.p3 1 (aE (J,x.1,x.2.1,x.2.2,0)) (bx 23 x.p3 (aE (J,x.1,x.2.1,x.2.2,0)) (av (kr (x.1,x.2.1.1,x.p2,x.p3,x.p4)) λy4=>(aE ((!y4),x.1,x.2.1,x.2.2,0))))))))) λx1=>(aG x1.1 (M (((([]:Y (Int×η)),0,([]:θ),([]:Y ef)),([]:η),([]:η),([]:η)),af)) (jn (α:=fD×gk×jB×Int) (jn (bg x1.p3.2.1 1 (aE (J,x1.2)) (aE ((decide ((x1.p3.2.1:Int)=2)),x1.2))) λU=>(aG U.1 (iU U.p3.p4 (-1) (cP (((([]:Y (Int×η)),0,([]:θ),([]:Y ef)),([]:η),([]:η),([]:η)),af)) (aE U.2)) (jn (av (CU (U.p3.p4,(aV U.2.1.q5))) λy8=>(aG (!y8) (aE (J,U.2)) (bM pI U.2.1.q5 U.p3.p4 λz9=>(aE ((!decide ((z9.1:Int)=U.p3.1)),U.2))))) λx7=>(aG x7.1 (cP (((([]:Y (Int×η)),0,([]:θ),([]:Y ef)),([]:η),([]:η),([]:η)),af)) (aE x7.2))))) λx5=>(jn (bg x5.p2.2.1 3 (aE (J,x5)) (aE ((decide ((x5.p2.2.1:Int)=4)),x5))) λA=>(jn (bx 0 (aV A.p3.p5) (iU A.p3.2.1 5 (aG A.1 (bM kO A.2.1.1 A.p3.p2 λz12=>(aE ((!(!decide ((z12.2.2.1:Int)=0))),A.2))) (aE (J,A.2))) (aE (af,A.2))) (aE (af,A.2))) λL=>(aG L.1 (M (((([]:Y (Int×η)),0,([]:θ),([]:Y ef)),([]:η),([]:η),([]:η)),af)) (jn (bx 0 (aV L.p3.q6) (iU L.p3.2.1 4 (aE ((!decide ((L.p3.2.1:Int)=22)),L.2)) (aE (af,L.2))) (aE (af,L.2))) λs=>(aG s.1 (M (((([]:Y (Int×η)),0,([]:θ),([]:Y ef)),([]:η),([]:η),([]:η)),af)) (jn (bM aL s.p2.q3 s.p3.1 λz15=>(av (nR (s.p3.p5,z15)) λy16=>(aG (!y16) (aE (J,s.2)) (bM aL s.p2.q3 s.p3.1 λz17=>(av (nR (s.p3.q6,z17)) λy18=>(aG (!y18) (aE (J,s.2)) (av (uf (s.p2,s.p3)) λy19=>(aE ((!y19),s.2))))))))) λa=>(aG a.1 (M (((([]:Y (Int×η)),0,([]:θ),([]:Y ef)),([]:η),([]:η),([]:η)),af)) (bH (bc (ai ([]:η)+ai a.p2.2.1) 8) (bH (bc (ai ([]:η)+ai a.p2.p2) 8) (bH (bc (ai ([]:η)+ai a.p2.q3) 8) (jn (α:=Int×fD×gk×jB×Int×Int×(η)×(η)×η) (bg a.p3.2.1 18 (aE (a.p3.p3,a.2.1,a.p2,a.p3,a.q4,0,(([]:η)++a.p2.2.1),(([]:η)++a.p2.p2),(([]:η)++a.p2.q3))) (aE ((-1),a.2.1,a.p2,a.p3,a.q4,0,(([]:η)++a.p2.2.1),(([]:η)++a.p2.p2),(([]:η)++a.p2.q3)))) λc=>(av (pq (c.2.1,c.p2.1,c.p3.1,c.p3.2.1,c.p3.p2,c.1)) λZ=>(jn (bg c.p3.2.1 4 (ck (fy c.p3.p2 (ai c.p6)) (aE (c.p3,c.p4,Z.1,(cI c.p6 c.p3.p2 c.p3.p3),c.q7))) (aE (c.p3,c.p4,Z.1,c.q6))) λq=>(jn (bg q.1.2.1 22 (ck (fy q.1.p2 (ai q.p4)) (aE (q.1,q.2.1,q.p2,q.p3,(cI q.p4 q.1.p2 q.1.p3),q.q5))) (aE q)) λz=>(lG aL z.q5 z.1.1 λz24=>(ck (fy z.1.1 (ai z.q5)) (M ((z.p2,z.p3,z.p4,(cI z.q5 z.1.1 (cG z24))),J)))))))))))))))))))))
def rn (x:(Y jB)×Int×Int×η):I (Bool):=
 (iter (σ:=Int) (λc=>(bx c (aV x.q3) (iter (σ:=Int×Bool×Int) (λa=>(bx a.2.2 x.2.1 (jn (bM jE x.1 a.2.2 λL=>(iU L.1 x.p2 (aE (a.1,a.2.1)) (jn (aG a.2.1 (aE J) (bM aL x.q3 c λA=>(bg a.1 A (bM jE x.1 a.2.2 λz=>(bg z.2.1 3 (aE J) (bM jE x.1 a.2.2 λs=>(aE (decide ((s.2.1:Int)=23)))))) (aE af)))) λU=>(aE ((cG a.1),U))))) λq=>(cP (q.1,q.2,(cG a.2.2)))) (av (aG (!a.2.1) (aE af) (cP (cG c))) λr=>M (bX r)))) (0,af,0)) (aE J))) 0)
def ug (x:fD×Y jB):I ν:=
 (bx 400 (aV x.2) (M (0,2)) (av (ig x.1) λU=>(aG (!U) (M (0,1)) (av (m6 x.1) λL=>(iter (σ:=Int×(fD×Y jB)×sQ×(η)×(η)×η) (λa=>(bx a.1 (aV a.2.1.2) (bM jE a.2.1.2 a.1 λc=>(av (rq (a.2.1.1,a.2.2,c)) λq=>(jn (aG (!q.2) (aE (J,a.2.1,a.2.2,q.1)) (av (rn (a.2.1.2,a.1,c.1,c.p5)) λA=>(aG (!A) (aE (J,a.2.1,a.2.2,q.1)) (av (rn (a.2.1.2,a.1,c.1,c.q6)) λz=>(aE ((!z),a.2.1,a.2.2,q.1)))))) λs=>(aG s.1 (aE (a.1,12)) (cP ((cG a.1),s.2.1,s.q3)))))) (aE (0,0)))) (0,x,L))))))
def KG {Z W V:Type} (i:Int) (t1:Z->(η)->(Y η)->W) (L:W->V) (U:V->vO->Y vO) (A:Int) (a:Cp×sQ×(ν)×Int×D9×jB×(ν)×(η)×(η)×Z×(η)×Y η):I D8:=
 (jn (jn (iU a.p5.2.1 16 (aE ((!decide ((a.p5.2.1:Int)=2)),a.1,a.2.1,a.p2,a.p3,a.p4,a.p5,(A,a.p10,a.q11,(cG a.p6.2)),a.p7,a.p8,(t1 a.p9 a.p10 a.q11))) (aE (af,a.1,a.2.1,a.p2,a.p3,a.p4,a.p5,(A,a.p10,a.q11,(cG a.p6.2)),a.p7,a.p8,(t1 a.p9 a.p10 a.q11)))) λc=>(aG c.1 (bM xd c.2.1.2 c.p3.1 λs=>(av (nB (s,c.p7)) λz=>(aE (c.p2,c.p3,c.p4,c.p5,c.p6,z.1,c.p8,c.p9,(L c.q10))))) (aE (c.p2,c.p3,c.p4,c.p5,c.p6,c.p7,c.p8,c.p9,(L c.q10))))) λq=>(bg q.2.1.1 i (M ((q.1,q.p6,q.p7,(U q.q8 q.p5)),q.p4,J)) D))
def SG {Z:Type} (i:Int) (cp:(sQ×(η)×(η)×Y vO)->I (Int×jt×(θ)×(Y ef)×(η)×(η)×Z×(η)×Y η)) (z ev:Z->Int) (k:Int->(Cp×sQ×(ν)×Int×D9×jB×(ν)×(η)×(η)×Z×(η)×Y η)->I D8) (x:Cp×xV×Int×Int):I D8:=
 (av (nS (x.1,x.2.1,x.p2)) λq=>(aG (!q.2) (M (((([]:Y (Int×η)),0,([]:θ),([]:Y ef)),([]:η),([]:η),([]:Y vO)),(0,0,0,0,0,([]:η),([]:η)),af)) (av (pq (x.1.1,x.2.1.1,x.p2,q.1.2.1,q.1.p2,x.q3)) λA=>(aG (!A.2.2) (M (((([]:Y (Int×η)),0,([]:θ),([]:Y ef)),([]:η),([]:η),([]:Y vO)),(0,0,0,0,0,([]:η),([]:η)),af)) (av (cp x.2.1) λs=>(bg x.p2 i (bM xd x.1.2 i λz4=>(bM qW z4.2 (z s.p6) λz5=>(jn (α:=Int×Cp×sQ×(ν)×Int×D9×jB×(ν)×ly×(η)×(η)×Z×(η)×Y η) (jn (α:=Bool×Cp×sQ×(ν)×Int×D9×jB×(ν)×ly×(η)×(η)×Z×(η)×Y η) (bg q.1.2.1 1 (aE ((decide ((q.1.2.1:Int)=1)),x.1,A.1,(i,x.q3),0,(0,0,0,0,0),(q.1.1,q.1.2.1,q.1.p2,A.2.1,q.1.q4),((z s.p6),(ev s.p6)),z5,s.q4)) (bg q.1.2.1 16 (aE ((decide ((q.1.2.1:Int)=16)),x.1,A.1,(i,x.q3),0,(0,0,0,0,0),(q.1.1,q.1.2.1,q.1.p2,A.2.1,q.1.q4),((z s.p6),(ev s.p6)),z5,s.q4)) (aE ((decide ((q.1.2.1:Int)=2)),x.1,A.1,(i,x.q3),0,(0,0,0,0,0),(q.1.1,q.1.2.1,q.1.p2,A.2.1,q.1.q4),((z s.p6),(ev s.p6)),z5,s.q4)))) λa=>(aG a.1 (aE (a.p7.1,a.2)) (bg q.1.2.1 3 (lG aL a.p9 a.p6.p2 λz8=>(aE ((bl .i64 ((z s.p6)+1)),a.2.1,a.p2,a.p3,a.p4,a.p5,(a.p6.1,a.p6.2.1,a.p6.p2,z8,a.p6.q4),a.q7))) (bg q.1.2.1 23 (lG aL a.p10 a.p6.p2 λz9=>(aE ((bl .i64 ((z s.p6)+1)),a.2.1,a.p2,a.p3,a.p4,a.p5,(a.p6.1,a.p6.2.1,a.p6.p2,z9,a.p6.q4),a.q7))) (bg q.1.2.1 4 (lG aL a.p12 a.p8.p2 λU=>(ck (fy a.p6.p2 (ai a.p9)) (aE ((bl .i64 ((z s.p6)+1)),a.2.1,a.p2,a.p3,a.p4,a.p5,(a.p6.1,a.p6.2.1,a.p6.p2,U,a.p6.q4),a.p7,a.p8,(cI a.p9 a.p6.p2 U),a.q10)))) (bg q.1.2.1 22 (lG aL a.p12 a.p8.p2 λL=>(ck (fy a.p6.p2 (ai a.p10)) (aE ((bl .i64 ((z s.p6)+1)),a.2.1,a.p2,a.p3,a.p4,a.p5,(a.p6.1,a.p6.2.1,a.p6.p2,L,a.p6.q4),a.p7,a.p8,a.p9,(cI a.p10 a.p6.p2 L),a.q11)))) (bg q.1.2.1 5 (lG aL a.p12 a.p8.2.1 λz12=>(bg z12 0 (aE (a.p8.p2,a.2.1,a.p2,a.p3,a.p4,a.p5,(a.p6.1,a.p6.2.1,a.p6.p2,0,a.p6.q4),a.q7)) (aE ((bl .i64 ((z s.p6)+1)),a.2.1,a.p2,a.p3,a.p4,a.p5,(a.p6.1,a.p6.2.1,a.p6.p2,1,a.p6.q4),a.q7)))) (aE ((bl .i64 ((z s.p6)+1)),a.2))))))))) λx6=>(jn (α:=Cp×sQ×(ν)×Int×D9×jB×(ν)×(η)×(η)×Z×(η)×Y η) (jn (bg x6.p6.2.1 3 (aE (J,x6.2)) (aE ((decide ((x6.p6.2.1:Int)=23)),x6.2))) λc=>(aG c.1 (ck (fy c.p8.2.1 (ai c.p12)) (ck (fy c.p8.2.1 (ai c.q13)) (aE (c.2.1,c.p2,c.p3,c.p4,c.p5,c.p6,c.p7,c.p9,c.p10,c.p11,(cI c.p12 c.p8.2.1 c.p6.p3),(cI c.q13 c.p8.2.1 ([c.p7.2])))))) (aE (c.2.1,c.p2,c.p3,c.p4,c.p5,c.p6,c.p7,c.q9)))) λx13=>(k x6.1 x13))))) D))))))
def nA (x:sQ×(η)×(η)×Y vO):I (Int×jt×(θ)×(Y ef)×(η)×(η)×(ν)×(η)×Y η):=
 (av (iy x.1) λa=>(bH (bc (ai ([]:η)+ai x.2.1) 8) (bH (bc (ai ([]:η)+ai x.p2) 8) (bx 0 (aV x.q3) (bM eX x.q3 0 λq=>(av (cq q) λs=>(bx 1 (aV x.q3) (bM eX x.q3 1 λc=>(av (cq c) λz=>D)) (M (a.1,a.2.1,a.p2,a.q3,(([]:η)++x.2.1),(([]:η)++x.p2),s))))) D))))
def gh (x:Cp×xV×Int×Int):I D8:=
 SG 0 nA (λz=>z.1) (λz=>z.2) (KG 0 (λz R T=>(z.1,R,T,z.2)) (λw=>((w.1,w.2.1,w.2.2.1,w.2.2.2))) (λv t=>[t])) x
def nz (x:sQ×(η)×(η)×Y vO):I (Int×jt×(θ)×(Y ef)×(η)×(η)×Ya29×(η)×Y η):=
 (av (iy x.1) λc=>(bH (bc (ai ([]:η)+ai x.2.1) 8) (bH (bc (ai ([]:η)+ai x.p2) 8) (bx 0 (aV x.q3) (bM eX x.q3 0 λA=>(av (cq A) λq=>(bx 1 (aV x.q3) (bM eX x.q3 1 λz=>(av (cq z) λa=>(bx 2 (aV x.q3) (bM eX x.q3 2 λs=>(av (cq s) λL=>D)) (M (c.1,c.2.1,c.p2,c.q3,(([]:η)++x.2.1),(([]:η)++x.p2),(q.1.1,q.1.2,a.1.1,a.2.1,a.2.2,a.1.2),q.2))))) D))) D))))
def gH (x:Cp×xV×Int×Int):I D8:=
 SG 0 nz (λz=>z.1) (λz=>z.2.1) (KG 0 (λz R T=>(z.1,R,T,z.2.1,z.2.2)) (λw=>((w.1,w.2.1,w.2.2.1,w.2.2.2.1),w.2.2.2.2)) (λv t=>[t,v.2])) x
def ny (x:sQ×(η)×(η)×Y vO):I (Int×jt×(θ)×(Y ef)×(η)×(η)×(vO×Int×Int)×(η)×Y η):=
 (av (iy x.1) λc=>(bH (bc (ai ([]:η)+ai x.2.1) 8) (bH (bc (ai ([]:η)+ai x.p2) 8) (bx 0 (aV x.q3) (bM eX x.q3 0 λA=>(av (cq A) λa=>(bx 1 (aV x.q3) (bM eX x.q3 1 λz=>(av (cq z) λq=>(bx 2 (aV x.q3) (bM eX x.q3 2 λs=>(av (cq s) λL=>D)) (M (c.1,c.2.1,c.p2,c.q3,(([]:η)++x.2.1),(([]:η)++x.p2),((a.1.1,a.2.1,a.2.2,a.1.2),q.1),q.2))))) D))) D))))
def gg (x:Cp×xV×Int×Int):I D8:=
 SG 1 ny (λz=>z.2.1) (λz=>z.2.2) (KG 1 (λz R T=>(z.1,z.2.1,R,T,z.2.2)) (λw=>(w.1,(w.2.1,w.2.2.1,w.2.2.2.1,w.2.2.2.2))) (λv t=>[v.1,t])) x
def nu (x:sQ×(η)×(η)×Y vO):I (Int×jt×(θ)×(Y ef)×(η)×(η)×Ya27×(η)×Y η):=
 (av (iy x.1) λq=>(bH (bc (ai ([]:η)+ai x.2.1) 8) (bH (bc (ai ([]:η)+ai x.p2) 8) (bx 0 (aV x.q3) (bM eX x.q3 0 λU=>(av (cq U) λs=>(bx 1 (aV x.q3) (bM eX x.q3 1 λL=>(av (cq L) λc=>(bx 2 (aV x.q3) (bM eX x.q3 2 λA=>(av (cq A) λa=>(bx 3 (aV x.q3) (bM eX x.q3 3 λz=>(av (cq z) λZ=>D)) (M (q.1,q.2.1,q.p2,q.q3,(([]:η)++x.2.1),(([]:η)++x.p2),(s.1.1,s.1.2,(c.1.1,c.2.1,c.2.2,c.1.2),a.1.1,a.2.1,a.2.2,a.1.2),s.2))))) D))) D))) D))))
def jy (x:Cp×xV×Int×Int):I D8:=
 SG 0 nu (λz=>z.1) (λz=>z.2.1) (KG 0 (λz R T=>(z.1,R,T,z.2.1,z.p2,z.q3)) (λw=>((w.1,w.2.1,w.2.2.1,w.2.2.2.1),w.2.2.2.2.1,w.2.2.2.2.2)) (λv t=>[t,v.2.1,v.2.2])) x
def nl (x:sQ×(η)×(η)×Y vO):I (Int×jt×(θ)×(Y ef)×(η)×(η)×Ya28×(η)×Y η):=
 (av (iy x.1) λq=>(bH (bc (ai ([]:η)+ai x.2.1) 8) (bH (bc (ai ([]:η)+ai x.p2) 8) (bx 0 (aV x.q3) (bM eX x.q3 0 λU=>(av (cq U) λc=>(bx 1 (aV x.q3) (bM eX x.q3 1 λL=>(av (cq L) λs=>(bx 2 (aV x.q3) (bM eX x.q3 2 λA=>(av (cq A) λa=>(bx 3 (aV x.q3) (bM eX x.q3 3 λz=>(av (cq z) λZ=>D)) (M (q.1,q.2.1,q.p2,q.q3,(([]:η)++x.2.1),(([]:η)++x.p2),((c.1.1,c.2.1,c.2.2,c.1.2),s.1.1,s.1.2,a.1.1,a.2.1,a.2.2,a.1.2),s.2))))) D))) D))) D))))
def iO (x:Cp×xV×Int×Int):I D8:=
 SG 1 nl (λz=>z.2.1) (λz=>z.p2) (KG 1 (λz R T=>(z.1,z.2.1,R,T,z.p2,z.q3)) (λw=>(w.1,(w.2.1,w.2.2.1,w.2.2.2.1,w.2.2.2.2.1),w.2.2.2.2.2)) (λv t=>[v.1,t,v.2.2])) x
def nk (x:sQ×(η)×(η)×Y vO):I (Int×jt×(θ)×(Y ef)×(η)×(η)×(vO×vO×Int×Int)×(η)×Y η):=
 (av (iy x.1) λq=>(bH (bc (ai ([]:η)+ai x.2.1) 8) (bH (bc (ai ([]:η)+ai x.p2) 8) (bx 0 (aV x.q3) (bM eX x.q3 0 λU=>(av (cq U) λc=>(bx 1 (aV x.q3) (bM eX x.q3 1 λL=>(av (cq L) λa=>(bx 2 (aV x.q3) (bM eX x.q3 2 λA=>(av (cq A) λs=>(bx 3 (aV x.q3) (bM eX x.q3 3 λz=>(av (cq z) λZ=>D)) (M (q.1,q.2.1,q.p2,q.q3,(([]:η)++x.2.1),(([]:η)++x.p2),((c.1.1,c.2.1,c.2.2,c.1.2),(a.1.1,a.2.1,a.2.2,a.1.2),s.1),s.2))))) D))) D))) D))))
def ie (x:Cp×xV×Int×Int):I D8:=
 SG 2 nk (λz=>z.p2) (λz=>z.q3) (KG 2 (λz R T=>(z.1,z.2.1,z.p2,R,T,z.q3)) (λw=>(w.1,w.2.1,(w.2.2.1,w.2.2.2.1,w.2.2.2.2.1,w.2.2.2.2.2))) (λv t=>[v.1,v.2.1,t])) x
def nj (x:sQ×(η)×(η)×Y vO):I (Int×jt×(θ)×(Y ef)×(η)×(η)×Ya23×(η)×Y η):=
 (av (iy x.1) λs=>(bH (bc (ai ([]:η)+ai x.2.1) 8) (bH (bc (ai ([]:η)+ai x.p2) 8) (bx 0 (aV x.q3) (bM eX x.q3 0 λz2=>(av (cq z2) λA=>(bx 1 (aV x.q3) (bM eX x.q3 1 λZ=>(av (cq Z) λq=>(bx 2 (aV x.q3) (bM eX x.q3 2 λU=>(av (cq U) λc=>(bx 3 (aV x.q3) (bM eX x.q3 3 λL=>(av (cq L) λa=>(bx 4 (aV x.q3) (bM eX x.q3 4 λz=>(av (cq z) λy11=>D)) (M (s.1,s.2.1,s.p2,s.q3,(([]:η)++x.2.1),(([]:η)++x.p2),(A.1.1,A.1.2,(q.1.1,q.2.1,q.2.2,q.1.2),(c.1.1,c.2.1,c.2.2,c.1.2),a.1.1,a.2.1,a.2.2,a.1.2),A.2))))) D))) D))) D))) D))))
def m8 (x:Cp×xV×Int×Int):I D8:=
 SG 0 nj (λz=>z.1) (λz=>z.2.1) (KG 0 (λz R T=>(z.1,R,T,z.2.1,z.p2,z.p3,z.q4)) (λw=>((w.1,w.2.1,w.2.2.1,w.2.2.2.1),w.2.2.2.2.1,w.2.2.2.2.2.1,w.2.2.2.2.2.2)) (λv t=>[t,v.2.1,v.2.2.1,v.2.2.2])) x
def ng (x:sQ×(η)×(η)×Y vO):I (Int×jt×(θ)×(Y ef)×(η)×(η)×Ya24×(η)×Y η):=
 (av (iy x.1) λs=>(bH (bc (ai ([]:η)+ai x.2.1) 8) (bH (bc (ai ([]:η)+ai x.p2) 8) (bx 0 (aV x.q3) (bM eX x.q3 0 λz2=>(av (cq z2) λq=>(bx 1 (aV x.q3) (bM eX x.q3 1 λZ=>(av (cq Z) λA=>(bx 2 (aV x.q3) (bM eX x.q3 2 λU=>(av (cq U) λc=>(bx 3 (aV x.q3) (bM eX x.q3 3 λL=>(av (cq L) λa=>(bx 4 (aV x.q3) (bM eX x.q3 4 λz=>(av (cq z) λy11=>D)) (M (s.1,s.2.1,s.p2,s.q3,(([]:η)++x.2.1),(([]:η)++x.p2),((q.1.1,q.2.1,q.2.2,q.1.2),A.1.1,A.1.2,(c.1.1,c.2.1,c.2.2,c.1.2),a.1.1,a.2.1,a.2.2,a.1.2),A.2))))) D))) D))) D))) D))))
def m7 (x:Cp×xV×Int×Int):I D8:=
 SG 1 ng (λz=>z.2.1) (λz=>z.p2) (KG 1 (λz R T=>(z.1,z.2.1,R,T,z.p2,z.p3,z.q4)) (λw=>(w.1,(w.2.1,w.2.2.1,w.2.2.2.1,w.2.2.2.2.1),w.2.2.2.2.2.1,w.2.2.2.2.2.2)) (λv t=>[v.1,t,v.2.2.1,v.2.2.2])) x
def ne (x:sQ×(η)×(η)×Y vO):I (Int×jt×(θ)×(Y ef)×(η)×(η)×Ya25×(η)×Y η):=
 (av (iy x.1) λs=>(bH (bc (ai ([]:η)+ai x.2.1) 8) (bH (bc (ai ([]:η)+ai x.p2) 8) (bx 0 (aV x.q3) (bM eX x.q3 0 λz2=>(av (cq z2) λq=>(bx 1 (aV x.q3) (bM eX x.q3 1 λZ=>(av (cq Z) λc=>(bx 2 (aV x.q3) (bM eX x.q3 2 λU=>(av (cq U) λA=>(bx 3 (aV x.q3) (bM eX x.q3 3 λL=>(av (cq L) λa=>(bx 4 (aV x.q3) (bM eX x.q3 4 λz=>(av (cq z) λy11=>D)) (M (s.1,s.2.1,s.p2,s.q3,(([]:η)++x.2.1),(([]:η)++x.p2),((q.1.1,q.2.1,q.2.2,q.1.2),(c.1.1,c.2.1,c.2.2,c.1.2),A.1.1,A.1.2,a.1.1,a.2.1,a.2.2,a.1.2),A.2))))) D))) D))) D))) D))))
def lH (x:Cp×xV×Int×Int):I D8:=
 SG 2 ne (λz=>z.p2) (λz=>z.p3) (KG 2 (λz R T=>(z.1,z.2.1,z.p2,R,T,z.p3,z.q4)) (λw=>(w.1,w.2.1,(w.2.2.1,w.2.2.2.1,w.2.2.2.2.1,w.2.2.2.2.2.1),w.2.2.2.2.2.2)) (λv t=>[v.1,v.2.1,t,v.2.2.2])) x
def m_ (x:sQ×(η)×(η)×Y vO):I (Int×jt×(θ)×(Y ef)×(η)×(η)×Ya42×(η)×Y η):=
 (av (iy x.1) λs=>(bH (bc (ai ([]:η)+ai x.2.1) 8) (bH (bc (ai ([]:η)+ai x.p2) 8) (bx 0 (aV x.q3) (bM eX x.q3 0 λz2=>(av (cq z2) λq=>(bx 1 (aV x.q3) (bM eX x.q3 1 λZ=>(av (cq Z) λc=>(bx 2 (aV x.q3) (bM eX x.q3 2 λU=>(av (cq U) λa=>(bx 3 (aV x.q3) (bM eX x.q3 3 λL=>(av (cq L) λA=>(bx 4 (aV x.q3) (bM eX x.q3 4 λz=>(av (cq z) λy11=>D)) (M (s.1,s.2.1,s.p2,s.q3,(([]:η)++x.2.1),(([]:η)++x.p2),((q.1.1,q.2.1,q.2.2,q.1.2),(c.1.1,c.2.1,c.2.2,c.1.2),(a.1.1,a.2.1,a.2.2,a.1.2),A.1),A.2))))) D))) D))) D))) D))))
def kq (x:Cp×xV×Int×Int):I D8:=
 SG 3 m_ (λz=>z.p3) (λz=>z.q4) (KG 3 (λz R T=>(z.1,z.2.1,z.p2,z.p3,R,T,z.q4)) (λw=>(w.1,w.2.1,w.2.2.1,(w.2.2.2.1,w.2.2.2.2.1,w.2.2.2.2.2.1,w.2.2.2.2.2.2))) (λv t=>[v.1,v.2.1,v.2.2.1,t])) x
def An (x:Cp×xV×Int×Int):I D8:=orE (m8 x) (orE (m7 x) (orE (lH x) (orE (kq x) (orE (jy x) (orE (iO x) (orE (ie x) (orE (gH x) (orE (gg x) (gh x)))))))))
def wn (x:Cp×xV×Y ν):I ((Y jB)×sQ×(η)×(η)×Y vO):=
 (iter (σ:=Int×(Y jB)×Cp×xV×Int) (λc=>(jn (bx c.1 (aV x.2.2) (aE ((fJ (aV c.2.1) 400),c.2)) (aE (af,c.2))) λa=>(aG a.1 (jn (α:=(Y jB)×Cp×xV×Int) (bM il x.2.2 c.1 λs=>(av (An (a.p2,a.p3,s)) λq=>(aG q.2.2 (bH (bc (ai a.2.1+ai ([q.2.1])) 88) (aE ((a.2.1++([q.2.1])),a.p2,q.1,a.q4))) (aE a.2)))) λz=>(cP ((cG c.1),z))) (aE (a.2.1,a.p3))))) (0,([]:Y jB),x.1,x.2.1,0))
def zf (x:Cp×Y ν):I ((fD×Y jB)×sQ×(η)×(η)×Y vO):=
 (av (jL x.1) λq=>(aG (!q) (M (((([]:Y S6),([]:Y (ζ×Bool)),([]:Y jX),([]:Y ζ),([]:Y ζ),([]:Y π)),([]:Y jB)),(([]:Y (Int×η)),0,([]:θ),([]:Y ef)),([]:η),([]:η),([]:Y vO))) (av (uh x.1) λc=>(av (wn (x.1,c,x.2)) λa=>(M ((x.1.1,a.1),a.2))))))
def bw (x:Int×(η)×Int):I (Int×(η)×Int):=
 (jn (jI (aV x.2.1) x.2.2 (aE (J,x.2)) (aE ((fJ x.1 1),x.2))) λa=>(aG a.1 (M (0,a.2)) (lt (cG a.2.2) λq=>(bM (.int .u8) a.2.1 (bl .i64 (q-1)) λc=>(bH (!decide ((x.1:Int)=0)) (M ((Ag (bl .i64 c) x.1),a.2.1,(cG a.2.2))))))))
def rD (x:Int):I (Xp):=
 (M (em (1,x,[],([]:Y Xp))))
def py (x:ζ):I (Xp):=
 (M (em (2,0,x,([]:Y Xp))))
def nX (x:Int×Xp×Xp):I (Xp):=
 (M (em (x.1,0,[],[em ((Xp.op x.2.1),(Xp.n x.2.1),(Xp.name x.2.1),(Xp.l x.2.1)),em ((Xp.op x.2.2),(Xp.n x.2.2),(Xp.name x.2.2),(Xp.l x.2.2))])))
def jw (x:ζ×Xp):I (Sx):=
 (M (nY (1,0,x.1,[],([]:Y Xp),em ((Xp.op x.2),(Xp.n x.2),(Xp.name x.2),(Xp.l x.2)),([]:Y Sx),([]:Y Sx))))
def sC (x:Unit):I w_:=
 (M ([(1,0,[120],0,0,[]),(1,0,[121],0,1,[]),(2,0,[118],0,0,[]),(1,0,[113],2,0,[]),(3,0,[109],0,0,[]),(3,0,[110],0,0,[]),(4,0,[114],0,0,[]),(5,0,[99],0,0,[109]),(6,0,[102],0,0,[])]))
def oR (x:η):I (Y ν):=
 (iter (σ:=Int×Y ν) (λa=>(bx a.1 (aV x) (bM (.int .u8) x a.1 λq=>(bM (.int .u8) x a.1 λc=>(bH (bc (ai a.2+ai ([((Ag (bl .i64 q) 4),(bl .i64 ((Ag (bl .i64 (Int.tdiv (bl .i64 c) 4)) 5)-1)))])) 16) (cP ((cG a.1),(a.2++([((Ag (bl .i64 q) 4),(bl .i64 ((Ag (bl .i64 (Int.tdiv (bl .i64 c) 4)) 5)-1)))]))))))) (aE a.2))) (0,([]:Y ν)))
def oe (rmade_maker_expr:Y4->I ag7) (x:Int×Cq×g_×Bool×Y ζ):I ag7:=
 (av (bw (10,x.p2)) λA=>(jn (α:=Bool×Cq×g_×S7×(Int×Int×ζ)×Y ζ) (bx A.1 2 (aE (J,x.2.1,A.2,x.q3,(0,0,[]),[[97],[98],[120],[121],[118],[120],[121]])) (bg x.1 0 (aE ((cZ 7 A.1),x.2.1,A.2,x.q3,(0,0,[]),[[97],[98],[120],[121],[118],[120],[121]])) (aE (af,x.2.1,A.2,x.q3,(0,0,[]),[[97],[98],[120],[121],[118],[120],[121]])))) λa=>(aG a.1 (av (bw (4,a.p2)) λy3=>(av (rD y3.1) λU=>(M (em ((Xp.op U),(Xp.n U),(Xp.name U),(Xp.l U)),a.2.1,y3.2,a.p3)))) (bx A.1 7 (av (bw ((aV a.q5),a.p2)) λy5=>(lG (.str) a.q5 y5.1 λz6=>(av (py z6) λL=>(M (em ((Xp.op L),(Xp.n L),(Xp.name L),(Xp.l L)),a.2.1,y5.2,a.p3))))) (bg A.1 7 (av (rmade_maker_expr (0,a.2.1,a.p2,a.p3)) λz=>(bH (((a.p3.1==z.p3)&&J)&&aA (ai a.p3.2) (ai z.q4)&&J) (M (em (3,0,[113],[em ((Xp.op z.1),(Xp.n z.1),(Xp.name z.1),(Xp.l z.1))]),z.2)))) (av (bw ((aN (ai ([6,7,8,11,13,17]))),a.p2)) λy9=>(lG aL ([6,7,8,11,13,17]) y9.1 λZ=>(av (rmade_maker_expr ((bl .i64 (x.1-1)),a.2.1,y9.2,a.p3)) λc=>(bH (((a.p3.1==c.p3)&&J)&&aA (ai a.p3.2) (ai c.q4)&&J) (av (rmade_maker_expr ((bl .i64 (x.1-1)),c.2)) λs=>(bH (((c.p3==s.p3)&&J)&&aA (ai c.q4) (ai s.q4)&&J) (av (nX (Z,c.1,s.1)) λq=>(M (em ((Xp.op q),(Xp.n q),(Xp.name q),(Xp.l q)),s.2))))))))))))))
def iC:Nat->Y4->I ag7
 |0,_=>D
 |n+1,x=>oe (iC n) x
theorem yL (n:Nat) (x:Int×Cq×g_×Bool×Y ζ):iC (n+1) x=oe (iC n) x:=rfl
def fe (x:Int×Cq×g_×Bool×Y ζ):I ag7:=iC fuel x
def eP (x:ζ×Cq×g_×Bool×Y ζ):I (Bool×Cq×g_×Bool×Y ζ):=
 (av (jf (x.q4,x.1)) λa=>(M ((cZ 0 a),x.2)))
def mM (rmade_maker_stmts:ag9->I Y3) (rmade_maker_stmt:Y4->I acm) (rmade_maker_block:ag8->I acn) (x:ν×Cq×g_×Bool×Y ζ):I Y3:=
 (iter (σ:=Int×Cq×g_×(Y Sx)×Bool×Y ζ) (λc=>(jn (bx c.1 x.1.2 (bg c.1 0 (aE (J,c.2)) (aE ((fJ 0 c.2.1.2.1),c.2))) (aE (af,c.2))) λa=>(aG a.1 (av (rmade_maker_stmt (x.1.1,a.2.1,a.p2,a.q4)) λq=>(bH (((a.p4==a.p4)&&J)&&aA (ai a.q5) (ai a.q5)&&J) (bH (bc (ai a.p3+ai ([eo q.1])) 176) (cP ((cG c.1),q.2.1,q.p2,(a.p3++([eo q.1])),q.q3))))) (aE (a.2.1,a.p2,a.q4,a.p3))))) (0,x.2.1,x.p2,([]:Y Sx),x.q3))
def od (rmade_maker_stmts:ag9->I Y3) (rmade_maker_stmt:Y4->I acm) (rmade_maker_block:ag8->I acn) (x:Int×Cq×g_×Bool×Y ζ):I acm:=
 (av (bw (18,x.p2)) λy1=>(jn (α:=Bool×Cq×g_×V5×Bool×Y ζ) (bx 0 x.1 (lt (bl .i64 (x.2.1.2.1-1)) λz3=>(bx 0 z3 (aE ((!x.2.1.p3),(x.2.1.1,(bl .i64 (x.2.1.2.1-1)),x.2.1.2.2),y1.2,(0,0,[],[],0,0,[]),x.q3)) (aE (af,(x.2.1.1,(bl .i64 (x.2.1.2.1-1)),x.2.1.2.2),y1.2,(0,0,[],[],0,0,[]),x.q3)))) (aE (af,(x.2.1.1,(bl .i64 (x.2.1.2.1-1)),x.2.1.2.2),y1.2,(0,0,[],[],0,0,[]),x.q3))) λU=>(bx y1.1 4 (lG (.str) ([[120],[121],[120],[118]]) y1.1 λz4=>(av (fe (1,U.2.1,U.p2,U.q4)) λy5=>(bH (((U.p4==y5.p3)&&J)&&aA (ai U.q5) (ai y5.q4)&&J) (av (jw (z4,y5.1)) λy6=>(M (eo y6,y5.2)))))) (bg y1.1 4 (av (bw (2,U.p2)) λy7=>(lG (.str) ([[97],[98]]) y7.1 λz8=>(av (fe (1,U.2.1,y7.2,U.q4)) λy9=>(bH (((U.p4==y9.p3)&&J)&&aA (ai U.q5) (ai y9.q4)&&J) (av (jw (z8,y9.1)) λy10=>(M (eo y10,y9.2))))))) (bg y1.1 5 (av (fe (0,U.2.1,U.p2,U.q4)) λy11=>(bH (((U.p4==y11.p3)&&J)&&aA (ai U.q5) (ai y11.q4)&&J) (av (fe (1,y11.2)) λy12=>(bH (((y11.p3==y12.p3)&&J)&&aA (ai y11.q4) (ai y12.q4)&&J) (M (nY (1,0,[113],[],[em ((Xp.op y11.1),(Xp.n y11.1),(Xp.name y11.1),(Xp.l y11.1))],em ((Xp.op y12.1),(Xp.n y12.1),(Xp.name y12.1),(Xp.l y12.1)),([]:Y Sx),([]:Y Sx)),y12.2)))))) (jn (bg y1.1 6 (aE ((fJ 0 x.1),U.2)) (aE (af,U.2))) λx13=>(aG x13.1 (av (fe (1,x13.2.1,x13.p2,x13.q4)) λs=>(bH (((x13.p4==s.p3)&&J)&&aA (ai x13.q5) (ai s.q4)&&J) (av (rmade_maker_stmts (((bl .i64 (x.1-1)),1),s.2)) λZ=>(bH (((s.p3==s.p3)&&J)&&aA (ai s.q4) (ai s.q4)&&J) (jn (α:=Cq×g_×V5×(Int×Int×(ζ)×(ζ)×Int×Int×(ζ)×Y Xp)×S7×(Y Sx)×Y Sx) (av (bw (2,Z.2.1)) λy17=>(bg y17.1 1 (av (rmade_maker_stmts (((bl .i64 (x.1-1)),1),Z.1,y17.2,Z.p2)) λy18=>(bH (((Z.p2.1==Z.p2.1)&&J)&&aA (ai Z.p2.2) (ai Z.p2.2)&&J) (aE (y18.1,y18.2.1,x13.p3,(2,0,[],[],(Xp.op s.1),(Xp.n s.1),(Xp.name s.1),(Xp.l s.1)),y18.p2,Z.q3,y18.q3)))) (aE (Z.1,y17.2,x13.p3,(2,0,[],[],(Xp.op s.1),(Xp.n s.1),(Xp.name s.1),(Xp.l s.1)),Z.p2,Z.q3,([]:Y Sx))))) λx16=>(M (nY (x16.p3.1,x16.p3.2.1,x16.p3.p2,x16.p3.p3,([]:Y Xp),em x16.p3.q4,x16.q5),x16.1,x16.2.1,x16.p4))))))) (jn (bg y1.1 7 (aE ((fJ 0 x.1),x13.2)) (aE (af,x13.2))) λa=>(aG a.1 (av (py ([98])) λy20=>(av (rD 2) λy21=>(av (nX (13,y20,y21)) λy22=>(av (rmade_maker_stmts (((bl .i64 (x.1-1)),1),(a.2.1.1,a.2.1.2.1,a.2.1.p2,a.2.1.p3,a.2.1.p4,J),a.p2,a.q4)) λy23=>(bH (((a.p4==a.p4)&&J)&&aA (ai a.q5) (ai a.q5)&&J) (av (py ([98])) λy24=>(av (rD 1) λy25=>(av (nX (6,y24,y25)) λy26=>(av (jw ([98],y26)) λy27=>(bH (bc (ai y23.q3+ai ([eo y27])) 176) (M (nY (3,0,[],[],([]:Y Xp),em ((Xp.op y22),(Xp.n y22),(Xp.name y22),(Xp.l y22)),(y23.q3++([eo y27])),([]:Y Sx)),(y23.1.1,y23.1.2.1,y23.1.p2,y23.1.p3,y23.1.p4,a.2.1.q5),y23.2.1,y23.p2)))))))))))) (jn (α:=Bool×Cq×g_×V5×Bool×Y ζ) (bg y1.1 8 (aG U.1 (lG (.str) ([[109],[110]]) (bl .i64 (y1.1-8)) λz29=>(av (eP (z29,a.2.1,a.p2,a.q4)) λy30=>(bH (((a.p4==y30.p3)&&J)&&aA (ai a.q5) (ai y30.q4)&&J) (aE ((!y30.1),y30.2.1,y30.p2,a.p3,y30.q3))))) (aE (af,a.2))) (bg y1.1 9 (aG U.1 (lG (.str) ([[109],[110]]) (bl .i64 (y1.1-8)) λz31=>(av (eP (z31,a.2.1,a.p2,a.q4)) λy32=>(bH (((a.p4==y32.p3)&&J)&&aA (ai a.q5) (ai y32.q4)&&J) (aE ((!y32.1),y32.2.1,y32.p2,a.p3,y32.q3))))) (aE (af,a.2))) (aE (af,a.2)))) λc=>(aG c.1 (lG (.str) ([[109],[110]]) (bl .i64 (y1.1-8)) λz33=>(av (rmade_maker_block ((z33,(bl .i64 (x.1-1))),c.2.1,c.p2,c.q4)) λy34=>(bH (((c.p4==c.p4)&&J)&&aA (ai c.q5) (ai c.q5)&&J) (M (nY (4,0,z33,[],([]:Y Xp),em (0,0,[],([]:Y Xp)),y34.1,([]:Y Sx)),y34.2))))) (jn (α:=Bool×Cq×g_×V5×Bool×Y ζ) (bg y1.1 10 (aG U.1 (av (eP ([114],c.2.1,c.p2,c.q4)) λy36=>(bH (((c.p4==y36.p3)&&J)&&aA (ai c.q5) (ai y36.q4)&&J) (aE ((!y36.1),y36.2.1,y36.p2,c.p3,y36.q3)))) (aE (af,c.2))) (bg y1.1 11 (aG U.1 (av (eP ([114],c.2.1,c.p2,c.q4)) λy37=>(bH (((c.p4==y37.p3)&&J)&&aA (ai c.q5) (ai y37.q4)&&J) (aE ((!y37.1),y37.2.1,y37.p2,c.p3,y37.q3)))) (aE (af,c.2))) (aE (af,c.2)))) λx35=>(aG x35.1 (av (rmade_maker_block (([114],(bl .i64 (x.1-1))),x35.2.1,x35.p2,x35.q4)) λy38=>(bH (((x35.p4==x35.p4)&&J)&&aA (ai x35.q5) (ai x35.q5)&&J) (M (nY ((bl .i64 ((bl .i64 (y1.1-10))+5)),0,[114],[],([]:Y Xp),em (0,0,[],([]:Y Xp)),y38.1,([]:Y Sx)),y38.2)))) (jn (bg y1.1 12 (aE (U.1,x35.2)) (aE (af,x35.2))) λz=>(aG z.1 (av (bw (2,z.p2)) λy40=>(av (rmade_maker_stmts ((0,(bl .i64 (1+y40.1))),(z.2.1.1,z.2.1.2.1,z.2.1.p2,J,z.2.1.q4),y40.2,z.q4)) λy41=>(bH (((z.p4==z.p4)&&J)&&aA (ai z.q5) (ai z.q5)&&J) (M (nY (7,0,[],[],([]:Y Xp),em (0,0,[],([]:Y Xp)),y41.q3,([]:Y Sx)),(y41.1.1,y41.1.2.1,y41.1.p2,af,y41.1.q4),y41.2.1,y41.p2))))) (jn (bg y1.1 13 (aG U.1 (aE ((!z.2.1.p4),z.2)) (aE (af,z.2))) (aE (af,z.2))) λq=>(aG q.1 (av (rmade_maker_stmts (((bl .i64 (x.1-1)),2),(q.2.1.1,q.2.1.2.1,q.2.1.p2,q.2.1.p3,J,q.2.1.q5),q.p2,q.q4)) λy43=>(bH (((q.p4==q.p4)&&J)&&aA (ai q.q5) (ai q.q5)&&J) (M (nY (8,0,[],[],([]:Y Xp),em (0,0,[],([]:Y Xp)),y43.q3,([]:Y Sx)),(y43.1.1,y43.1.2.1,y43.1.p2,y43.1.p3,af,y43.1.q5),y43.2.1,y43.p2)))) (jn (α:=Bool×Cq×g_×V5×Bool×Y ζ) (bg y1.1 14 (aG U.1 (aG (!q.2.1.p4) (av (eP ([109],q.2.1,q.p2,q.q4)) λy45=>(bH (((q.p4==y45.p3)&&J)&&aA (ai q.q5) (ai y45.q4)&&J) (aE ((!y45.1),y45.2.1,y45.p2,q.p3,y45.q3)))) (aE (af,q.2))) (aE (af,q.2))) (aE (af,q.2))) λL=>(aG L.1 (av (py ([120])) λy46=>(av (jw ([97],y46)) λy47=>(M (nY (4,0,[109],[],([]:Y Xp),em (0,0,[],([]:Y Xp)),[nY (9,0,[99],[],([]:Y Xp),em (0,0,[],([]:Y Xp)),([]:Y Sx),([]:Y Sx)),eo y47],([]:Y Sx)),L.2.1,L.p2,L.q4)))) (jn (α:=Bool×Cq×g_×V5×Bool×Y ζ) (bg y1.1 15 (aG U.1 (av (eP ([109],L.2.1,L.p2,L.q4)) λy49=>(bH (((L.p4==y49.p3)&&J)&&aA (ai L.q5) (ai y49.q4)&&J) (aE ((!y49.1),y49.2.1,y49.p2,L.p3,y49.q3)))) (aE (af,L.2))) (aE (af,L.2))) λx48=>(aG x48.1 (av (bw (2,x48.p2)) λy50=>(M (nY (4,0,[109],[],([]:Y Xp),em (0,0,[],([]:Y Xp)),[nY ((bl .i64 (10+y50.1)),0,[99],[],([]:Y Xp),em (0,0,[],([]:Y Xp)),([]:Y Sx),([]:Y Sx))],([]:Y Sx)),x48.2.1,y50.2,x48.q4))) (jn (bg y1.1 16 (aG (!x48.2.1.p3) (aG (!x48.2.1.q5) (aE ((!x48.2.1.p2),x48.2)) (aE (af,x48.2))) (aE (af,x48.2))) (aE (af,x48.2))) λA=>(aG A.1 (av (fe (1,(A.2.1.1,A.2.1.2.1,J,A.2.1.q3),A.p2,A.q4)) λy52=>(bH (((A.p4==y52.p3)&&J)&&aA (ai A.q5) (ai y52.q4)&&J) (M (nY (14,0,[102],[],([]:Y Xp),em ((Xp.op y52.1),(Xp.n y52.1),(Xp.name y52.1),(Xp.l y52.1)),([]:Y Sx),([]:Y Sx)),y52.2)))) (jn (α:=Bool×Cq×g_×V5×Bool×Y ζ) (bg y1.1 17 (aG (!A.2.1.p3) (av (bw (2,A.p2)) λy54=>(aE ((decide ((y54.1:Int)=1)),A.2.1,y54.2,A.q3))) (aE (af,A.2))) (aE (af,A.2))) λx53=>(aG x53.1 (M (nY (15,0,[97],[102],([]:Y Xp),em (0,0,[],([]:Y Xp)),([]:Y Sx),([]:Y Sx)),x53.2.1,x53.p2,x53.q4)) (av (fe (1,x53.2.1,x53.p2,x53.q4)) λy55=>(bH (((x53.p4==y55.p3)&&J)&&aA (ai x53.q5) (ai y55.q4)&&J) (av (jw ([120],y55.1)) λy56=>(M (eo y56,y55.2))))))))))))))))))))))))))))))
def mN (rmade_maker_stmts:ag9->I Y3) (rmade_maker_stmt:Y4->I acm) (rmade_maker_block:ag8->I acn) (x:jX×Cq×g_×Bool×Y ζ):I acn:=
 (bH (bc (ai x.q4+ai ([x.1.1])) 16) (av (bw (2,x.p2)) λc=>(av (rmade_maker_stmts ((x.1.2,(bl .i64 (1+c.1))),x.2.1,c.2,x.p3,(x.q4++([x.1.1])))) λa=>(bH (((x.p3==x.p3)&&J)&&aA (ai (x.q4++([x.1.1]))) (ai (x.q4++([x.1.1])))&&J) (bH (cZ 0 (bl .i64 ((aV a.p2.2)-1))&&fJ (bl .i64 ((aV a.p2.2)-1)) (ai a.p2.2)) (M (a.q3,a.1,a.2.1,af,(dJ (aQ (bl .i64 ((aV a.p2.2)-1))) a.p2.2))))))))
mutual
def dI:Nat->ag9->I Y3
 |0,_=>D
 |n+1,x=>mM (dI n) (eJ n) (d_ n) x
def eJ:Nat->Y4->I acm
 |0,_=>D
 |n+1,x=>od (dI n) (eJ n) (d_ n) x
def d_:Nat->ag8->I acn
 |0,_=>D
 |n+1,x=>mN (dI n) (eJ n) (d_ n) x
end
def qz (x:ν×Cq×g_×Bool×Y ζ):I Y3:=dI fuel x
def oP (x:η):I (w_×Y w9):=
 (av (sC ()) λy1=>(av (bw (3,x,0)) λZ=>(iter (σ:=Int×Cq×w_×dl×g_×S7×Y w9) (λq=>(bx q.1 (bl .i64 (2+Z.1)) (lG (.str) q.p3 q.1 λz4=>(jn (α:=Cq×w_×dl×jX×g_×S7×(Y w9)×dl×Y Sx) (bg q.1 0 (iter (σ:=Int×Cq×w_×dl×jX×g_×S7×(Y w9)×dl×Y Sx) (λz=>(bx z.1 (bl .i64 (2+Z.1)) (lG (.str) z.p3 z.1 λz7=>(bH (bc (ai z.q9+ai ([nY (12,0,z7,[],([]:Y Xp),em (0,0,[],([]:Y Xp)),([]:Y Sx),([]:Y Sx))])) 176) (cP ((cG z.1),z.2.1,z.p2,z.p3,z.p4,z.p5,z.p6,z.p7,z.p8,(z.q9++([nY (12,0,z7,[],([]:Y Xp),em (0,0,[],([]:Y Xp)),([]:Y Sx),([]:Y Sx))])))))) (aE (bX z.2)))) (1,(q.1,q.2.1.2),q.p2,q.p3,(z4,0),q.p4,q.p5,q.q6,[[97],[98]],([]:Y Sx))) (aE ((q.1,q.2.1.2),q.p2,q.p3,(z4,0),q.p4,q.p5,q.q6,[[97],[98]],([]:Y Sx)))) λs=>(av (bw (3,s.p4)) λy8=>(av (qz ((2,(bl .i64 (1+y8.1))),s.1,y8.2,s.p5)) λA=>(bH (((s.p5.1==s.p5.1)&&J)&&aA (ai s.p5.2) (ai s.p5.2)&&J) (bH (bc (ai s.q8+ai A.q3) 176) (jn (α:=Cq×w_×dl×jX×g_×S7×(Y w9)×dl×Y Sx) (jn (α:=Bool×Cq×w_×dl×jX×g_×S7×(Y w9)×dl×Y Sx) (bg q.1 0 (av (bw (3,A.2.1)) λU=>(aE ((decide ((U.1:Int)=2)),A.1,s.2.1,s.p2,s.p3,U.2,A.p2,s.p6,s.p7,(s.q8++A.q3)))) (aE (af,A.1,s.2.1,s.p2,s.p3,A.2.1,A.p2,s.p6,s.p7,(s.q8++A.q3)))) λa=>(aG a.1 (lG (.str) a.p3 1 λL=>(bH (bc (ai a.q9+ai ([nY (13,0,L,[],([]:Y Xp),em (0,0,[],([]:Y Xp)),([]:Y Sx),([]:Y Sx))])) 176) (aE (a.2.1,a.p2,a.p3,a.p4,a.p5,a.p6,a.p7,a.p8,(a.q9++([nY (13,0,L,[],([]:Y Xp),em (0,0,[],([]:Y Xp)),([]:Y Sx),([]:Y Sx))])))))) (aE a.2))) λc=>(bH (bc (ai c.p6+ai ([(c.p3.1,c.p3.2,c.q7)])) 72) (cP ((cG q.1),c.1,c.2.1,c.p2,c.p4,c.p5,(c.p6++([(c.p3.1,c.p3.2,c.q7)])))))))))))) (av (av (fw (q.p2,q.q6)) λy14=>(iU y14.1 0 (av (sC ()) λy15=>(av (rD 1) λy16=>(av (jw ([120],y16)) λy17=>(M (y15,[([109,97,105,110],0,[[97],[98]],[eo y17])]))))) (M (q.p2,q.q6)))) λr=>M (bX r)))) (0,(0,20,af,af,af,af),y1,[[109,97,105,110],[116,49],[116,50],[116,51]],Z.2,(J,([]:Y ζ)),([]:Y w9)))))
def xw (x:η):I Cp:=
 (av (oP x) λc=>(av (qy c) λa=>(M a.1)))
def sD (x:η×η):I (fD×Y jB):=
 (av (xw x.1) λq=>(av (oR x.2) λc=>(av (zf (q,c)) λa=>(M a.1))))
def nQ (x:Unit):I fD:=
 (iter (σ:=Int×oo×mQ×(Y jX)×dl×dl×Y π) (λc=>(bx c.1 (aN (ai ([[109,97,105,110],[116,49],[116,50],[116,51]]))) (iter (σ:=Int×oo×mQ×(Y jX)×dl×dl×Y π) (λa=>(bx a.1 6 (bH (bc (ai a.q6+ai ([(c.1,a.1,(bl .i64 ((bl .i64 ((bl .i64 (10*c.1))+a.1))+1)))])) 24) (cP ((cG a.1),a.2.1,a.p2,a.p3,a.p4,a.p5,(a.q6++([(c.1,a.1,(bl .i64 ((bl .i64 ((bl .i64 (10*c.1))+a.1))+1)))]))))) (aE (oX ((cG c.1),a.2))))) (0,c.2)) (aE c.2))) (0,[([120],0,0,af,0),([121],0,0,af,1),([118],0,0,J,0),([113],0,2,af,0),([113],1,2,af,0)],[([109],af),([110],af),([114],J)],[([99],0)],[[102]],[[109,97,105,110],[116,49],[116,50],[116,51]],([]:Y π)))
def k_ (x:sQ×(η)×(η)×η):I η:=
 (iter (σ:=Int×η) (λa=>(bx a.1 (aV x.1.q3) (jn (α:=η) (bM ik x.1.q3 a.1 λc=>(bg c.1 3 (bH (bc (ai a.2+ai ([a.1])) 8) (aE (a.2++([a.1])))) (aE a.2))) λq=>(cP ((cG a.1),q))) (aE a.2))) (0,([]:η)))
def tH (x:Unit):I η:=
 (M ([3,3,3,3,3,4,4,4,4,4,5,5,5,6,6,6,7,7,7,8,9,10,11,12,13,14,14,15,16,16,17,17,18,18,19,20,1,1,2,21,22,23,23]))
def oM (x:ν×(η)×Int):I (Int×(η)×Int):=
 (jn (bg x.1.1 3 (aE ((decide ((x.1.1:Int)=3)),x.2)) (aE ((decide ((x.1.1:Int)=4)),x.2))) λs=>(aG s.1 (av (bw (8,s.2)) λL=>(lG aL ([0,0,0,1,1,2,3,4]) L.1 λU=>(M (U,L.2)))) (jn (bg x.1.1 6 (aE ((decide ((x.1.1:Int)=6)),s.2)) (aE ((decide ((x.1.1:Int)=7)),s.2))) λc=>(aG c.1 (av (bw (2,c.2)) λZ=>(M Z)) (jn (bg x.1.1 8 (aE ((decide ((x.1.1:Int)=8)),c.2)) (bg x.1.1 9 (aE ((decide ((x.1.1:Int)=9)),c.2)) (bg x.1.1 10 (aE ((decide ((x.1.1:Int)=10)),c.2)) (aE ((decide ((x.1.1:Int)=11)),c.2))))) λa=>(aG a.1 (M (2,a.2)) (jn (bg x.1.1 16 (aE ((decide ((x.1.1:Int)=16)),a.2)) (bg x.1.1 17 (aE ((decide ((x.1.1:Int)=17)),a.2)) (bg x.1.1 18 (aE ((decide ((x.1.1:Int)=18)),a.2)) (bg x.1.1 19 (aE ((decide ((x.1.1:Int)=19)),a.2)) (bg x.1.1 22 (aE ((decide ((x.1.1:Int)=22)),a.2)) (aE ((decide ((x.1.1:Int)=23)),a.2))))))) λq=>(aG q.1 (M (0,q.2)) (jn (bg x.1.1 20 (aE ((decide ((x.1.1:Int)=20)),q.2)) (aE ((decide ((x.1.1:Int)=21)),q.2))) λz=>(aG z.1 (av (bw (3,z.2)) λA=>(M ((Ag (bl .i64 ((cG x.1.2)+A.1)) 4),A.2))) (M ((-1),z.2))))))))))))
def qn (x:(gk×Int×Int)×(η)×Int):I (Int×(η)×Int):=
 (bg x.1.2.1 3 (bM aL x.1.1.2.1 x.1.2.2 λA=>(M (A,x.2))) (bg x.1.2.1 23 (bM aL x.1.1.p2 0 λz=>(M (z,x.2))) (jn (bg x.1.2.1 4 (aE ((decide ((x.1.2.1:Int)=4)),x.2,x.1.1)) (aE ((decide ((x.1.2.1:Int)=22)),x.2,x.1.1))) λa=>(aG a.1 (av (bw (3,a.2.1)) λZ=>(M Z)) (bg x.1.2.1 5 (av (bw (2,a.2.1)) λU=>(M U)) (bg x.1.2.1 18 (av (k_ a.2.2) λc=>(bx 0 (aV c) (av (bw ((aV c),a.2.1)) λq=>(bM aL c q.1 λs=>(M (s,q.2)))) (M ((-1),a.2.1)))) (bg x.1.2.1 19 (av (k_ a.2.2) λL=>(M ((aV L),a.2.1))) (M (0,a.2.1)))))))))
def gG (x:g_×η):I (η×g_×η):=
 (iter (σ:=Int×g_×(η)×η) (λa=>(bx a.1 (aV x.2) (jn (α:=g_×(η)×η) (lG aL a.p2 a.1 λq=>(jn (α:=Bool×g_×(η)×η) (jI (aV a.p2) (bl .i64 (a.1+3)) (av (bw (2,a.2.1)) λs=>(aE ((decide ((s.1:Int)=1)),s.2,a.2.2))) (aE (af,a.2))) λc=>(aG c.1 (bH (bc (ai c.q3+ai ([q])) 8) (aE (c.2.1,c.p2,(c.q3++([q]))))) (aE c.2)))) λz=>(cP ((cG a.1),z))) (aE (a.q3,a.2.1,a.p2)))) (0,x.1,x.2,([]:η)))
def qp (x:(gk×oo×mQ×(Y jX)×dl×dl×Y π)×g_×(η)×(η)×(η)×η):I (jB×g_×(η)×(η)×(η)×η):=
 (av (bw (4,x.2.1)) λs=>(av (tH ()) λy2=>(av (bw ((aV y2),s.2)) λy3=>(bM aL y2 y3.1 λz4=>(av (bw (6,y3.2)) λy5=>(jn (α:=g_×(η)×(η)×(η)×(η)×gk×fD×D9×Int×Int×Int×Int×Int) (jn (α:=Bool×g_×(η)×(η)×(η)×(η)×gk×fD×D9×Int×Int×Int×Int×Int) (bg z4 1 (aE (J,y5.2,x.p2,x.p3,x.p4,x.q5,x.1.1,x.1.2,(0,0,0,0,0),s.1,z4,0,0,(bl .i64 ((bl .i64 (s.1*6))+y5.1)))) (aE ((decide ((z4:Int)=2)),y5.2,x.p2,x.p3,x.p4,x.q5,x.1.1,x.1.2,(0,0,0,0,0),s.1,z4,0,0,(bl .i64 ((bl .i64 (s.1*6))+y5.1))))) λz=>(aG z.1 (aE (z.2.1,z.p2,z.p3,z.p4,z.p5,z.p6,z.p7,z.p8,z.p9,z.p10,z.p11,z.p12,(-1))) (aE z.2))) λq=>(av (oM ((q.p9,s.1),q.1)) λy8=>(av (qn ((q.p5,q.p9,y8.1),y8.2)) λy9=>(jn (α:=g_×(η)×(η)×(η)×(η)×D9×Int×Int×Int×Int×Int×η) (jn (bg q.p9 5 (aE (J,y9.2,q.2.1,q.p2,q.p3,q.p4,q.p7,q.p8,q.p9,y8.1,y9.1,q.q12)) (bg q.p9 3 (bM kO q.p6.1 y8.1 λz12=>(aE ((fJ 0 z12.2.2.1),y9.2,q.2.1,q.p2,q.p3,q.p4,q.p7,q.p8,q.p9,y8.1,y9.1,q.q12))) (bg q.p9 4 (bM kO q.p6.1 y8.1 λz13=>(aE ((fJ 0 z13.2.2.1),y9.2,q.2.1,q.p2,q.p3,q.p4,q.p7,q.p8,q.p9,y8.1,y9.1,q.q12))) (aE (af,y9.2,q.2.1,q.p2,q.p3,q.p4,q.p7,q.p8,q.p9,y8.1,y9.1,q.q12))))) λc=>(aG c.1 (bg s.1 0 (av (gG (c.2.1,c.p2)) λy14=>(bH (aA (ai c.p2) (ai y14.2.2)&&J) (aE (y14.2.1,y14.2.2,c.p3,c.p4,c.p5,c.p6,c.p7,c.p8,c.p9,c.p10,c.q11,y14.1)))) (bg s.1 1 (av (gG (c.2.1,c.p3)) λy15=>(bH (aA (ai c.p3) (ai y15.2.2)&&J) (aE (y15.2.1,c.p2,y15.2.2,c.p4,c.p5,c.p6,c.p7,c.p8,c.p9,c.p10,c.q11,y15.1)))) (bg s.1 2 (av (gG (c.2.1,c.p4)) λy16=>(bH (aA (ai c.p4) (ai y16.2.2)&&J) (aE (y16.2.1,c.p2,c.p3,y16.2.2,c.p5,c.p6,c.p7,c.p8,c.p9,c.p10,c.q11,y16.1)))) (bg s.1 3 (av (gG (c.2.1,c.p5)) λy17=>(bH (aA (ai c.p5) (ai y17.2.2)&&J) (aE (y17.2.1,c.p2,c.p3,c.p4,y17.2.2,c.p6,c.p7,c.p8,c.p9,c.p10,c.q11,y17.1)))) D)))) (aE (c.2.1,c.p2,c.p3,c.p4,c.p5,c.p6,c.p7,c.p8,c.p9,c.p10,c.q11,([]:η))))) λx10=>(jn (α:=g_×(η)×(η)×(η)×(η)×D9×Int×Int×Int×Int×Int×(η)×η) (jn (bg x10.p7 4 (aE (J,x10)) (aE ((decide ((x10.p7:Int)=22)),x10))) λa=>(aG a.1 (bg s.1 0 (av (gG (a.2.1,a.p2)) λy20=>(bH (aA (ai a.p2) (ai y20.2.2)&&J) (aE (y20.2.1,y20.2.2,a.p3,a.p4,a.p5,a.p6,a.p7,a.p8,a.p9,a.p10,a.p11,a.q12,y20.1)))) (bg s.1 1 (av (gG (a.2.1,a.p3)) λZ=>(bH (aA (ai a.p3) (ai Z.2.2)&&J) (aE (Z.2.1,a.p2,Z.2.2,a.p4,a.p5,a.p6,a.p7,a.p8,a.p9,a.p10,a.p11,a.q12,Z.1)))) (bg s.1 2 (av (gG (a.2.1,a.p4)) λU=>(bH (aA (ai a.p4) (ai U.2.2)&&J) (aE (U.2.1,a.p2,a.p3,U.2.2,a.p5,a.p6,a.p7,a.p8,a.p9,a.p10,a.p11,a.q12,U.1)))) (bg s.1 3 (av (gG (a.2.1,a.p5)) λL=>(bH (aA (ai a.p5) (ai L.2.2)&&J) (aE (L.2.1,a.p2,a.p3,a.p4,L.2.2,a.p6,a.p7,a.p8,a.p9,a.p10,a.p11,a.q12,L.1)))) D)))) (aE (a.2.1,a.p2,a.p3,a.p4,a.p5,a.p6,a.p7,a.p8,a.p9,a.p10,a.p11,a.q12,([]:η))))) λA=>(M (A.q6,A.1,A.2.1,A.p2,A.p3,A.p4))))))))))))
def sx (x:(gk×fD×Int×Bool)×(η)×Int):I ((Y jB)×(η)×Int):=
 (bH (cZ 0 (aV x.1.2.1.p4)&&cZ (aV x.1.2.1.p4) (aV x.1.2.1.p4)&&bc (aQ (aV x.1.2.1.p4)) 24&&decide (((aV x.1.2.1.p4):Int)=4)) (jn (α:=g_×gk×fD×(η)×(η)×(η)×η) (bx 0 (aN 4) (jn (α:=g_×gk×fD×(η)×(η)×(η)×η) (jn (α:=Bool×g_×gk×fD×(η)×(η)×(η)×η) (aG x.1.q3 (bM aL x.1.1.q3 0 λz4=>(bx 1 z4 (av (bw (3,x.2)) λy5=>(aE ((decide ((y5.1:Int)=2)),y5.2,x.1.1,x.1.2.1,([]:η),([]:η),([]:η),([]:η)))) (aE (af,x.2,x.1.1,x.1.2.1,([]:η),([]:η),([]:η),([]:η))))) (aE (af,x.2,x.1.1,x.1.2.1,([]:η),([]:η),([]:η),([]:η)))) λx3=>(aG x3.1 (bH (bc (ai x3.p4+ai ([1])) 8) (aE (x3.2.1,x3.p2,x3.p3,(x3.p4++([1])),x3.q5))) (aE x3.2))) λx2=>(bx 1 (aN 4) (jn (α:=g_×gk×fD×(η)×(η)×(η)×η) (jn (α:=Bool×g_×gk×fD×(η)×(η)×(η)×η) (aG x.1.q3 (bM aL x2.2.1.q3 1 λz8=>(bx 1 z8 (av (bw (3,x2.1)) λy9=>(aE ((decide ((y9.1:Int)=2)),y9.2,x2.2))) (aE (af,x2)))) (aE (af,x2))) λx7=>(aG x7.1 (bH (bc (ai x7.p5+ai ([1])) 8) (aE (x7.2.1,x7.p2,x7.p3,x7.p4,(x7.p5++([1])),x7.q6))) (aE x7.2))) λx6=>(bx 2 (aN 4) (jn (α:=g_×gk×fD×(η)×(η)×(η)×η) (jn (α:=Bool×g_×gk×fD×(η)×(η)×(η)×η) (aG x.1.q3 (bM aL x6.2.1.q3 2 λz12=>(bx 1 z12 (av (bw (3,x6.1)) λy13=>(aE ((decide ((y13.1:Int)=2)),y13.2,x6.2))) (aE (af,x6)))) (aE (af,x6))) λz=>(aG z.1 (bH (bc (ai z.p6+ai ([1])) 8) (aE (z.2.1,z.p2,z.p3,z.p4,z.p5,(z.p6++([1])),z.q7))) (aE z.2))) λU=>(bx 3 (aN 4) (jn (α:=g_×gk×fD×(η)×(η)×(η)×η) (jn (α:=Bool×g_×gk×fD×(η)×(η)×(η)×η) (aG x.1.q3 (bM aL U.2.1.q3 3 λz16=>(bx 1 z16 (av (bw (3,U.1)) λy17=>(aE ((decide ((y17.1:Int)=2)),y17.2,U.2))) (aE (af,U)))) (aE (af,U))) λs=>(aG s.1 (bH (bc (ai s.q7+ai ([1])) 8) (aE (s.2.1,s.p2,s.p3,s.p4,s.p5,s.p6,(s.q7++([1]))))) (aE s.2))) λL=>(bx 4 (aN 4) (jn (α:=g_×gk×fD×(η)×(η)×(η)×η) (jn (α:=Bool×g_×gk×fD×(η)×(η)×(η)×η) (aG x.1.q3 (bM aL L.2.1.q3 4 λz20=>(bx 1 z20 (av (bw (3,L.1)) λy21=>(aE ((decide ((y21.1:Int)=2)),y21.2,L.2))) (aE (af,L)))) (aE (af,L))) λx19=>(aG x19.1 D (aE x19.2))) λx18=>D) (aE L))) (aE U))) (aE x6))) (aE x2))) (aE (x.2,x.1.1,x.1.2.1,([]:η),([]:η),([]:η),([]:η)))) λx1=>(iter (σ:=g_×gk×fD×(Y jB)×(η)×(η)×(η)×η) (λZ=>(jn (bx (aV Z.p3) x.1.p2 (aE ((fJ Z.1.2 (aV Z.1.1)),Z)) (aE (af,Z))) λc=>(aG c.1 (jn (α:=g_×gk×fD×(Y jB)×(η)×(η)×(η)×η) (av (qp ((c.p2,c.p3),c.2.1,c.q5)) λq=>(bH (aA (ai c.q8) (ai q.q5)&&(aA (ai c.p7) (ai q.p4)&&(aA (ai c.p6) (ai q.p3)&&(aA (ai c.p5) (ai q.p2)&&J)))) (av (rq (c.p3,c.p2,q.1)) λy26=>(aG (!y26.2) (aE (q.2.1,c.p2,c.p3,c.p4,q.2.2)) (jn (α:=g_×gk×fD×(Y jB)×jB×gk×(η)×(η)×(η)×η) (jn (bg q.1.2.1 3 (aE (J,q.2.1,c.p2,c.p3,c.p4,q.1,y26.1,q.2.2)) (aE ((decide ((q.1.2.1:Int)=23)),q.2.1,c.p2,c.p3,c.p4,q.1,y26.1,q.2.2))) λa=>(aG a.1 (bg a.p5.1 0 (bM aL a.p2.q3 0 λz29=>(bH (bc (ai a.p7+ai ([z29])) 8) (aE (a.2.1,a.p2,a.p3,a.p4,(0,a.p5.2),a.p6,(a.p7++([z29])),a.q8)))) (bg a.p5.1 1 (bM aL a.p2.q3 1 λz30=>(bH (bc (ai a.p8+ai ([z30])) 8) (aE (a.2.1,a.p2,a.p3,a.p4,(1,a.p5.2),a.p6,a.p7,(a.p8++([z30])),a.q9)))) (bg a.p5.1 2 (bM aL a.p2.q3 2 λz31=>(bH (bc (ai a.p9+ai ([z31])) 8) (aE (a.2.1,a.p2,a.p3,a.p4,(2,a.p5.2),a.p6,a.p7,a.p8,(a.p9++([z31])),a.q10)))) (bg a.p5.1 3 (bM aL a.p2.q3 3 λz32=>(bH (bc (ai a.q10+ai ([z32])) 8) (aE (a.2.1,a.p2,a.p3,a.p4,(3,a.p5.2),a.p6,a.p7,a.p8,a.p9,(a.q10++([z32])))))) D)))) (aE a.2))) λA=>(bH (bc (ai A.p3+ai ([A.p4])) 88) (aE (A.1,A.p5,A.p2,(A.p3++([A.p4])),A.q6)))))))) λx24=>(cP x24)) (aE (c.p4,c.2.1))))) (x1.1,x1.2.1,x1.p2,([]:Y jB),x1.q3))))
def qr (x:η×Int):I (fD×Y jB):=
 (jn (bx 600 (aV x.1) (bH (cZ 0 600&&cZ 600 (ai x.1)) (aE (dJ (aQ 600) x.1))) (aE x.1)) λx1=>(av (nQ ()) λZ=>(av (m6 Z) λy3=>(av (bw (3,x1,0)) λU=>(iter (σ:=Int×g_×fD×gk×Y jB) (λc=>(jI c.1 (bl .i64 (1+U.1)) (bH (bc (ai c.q4+ai ([(0,20,c.1,0,0,([]:η),([]:η)),(c.1,1,(-1),0,(-1),([]:η),([]:η))])) 88) (cP ((cG c.1),c.2.1,c.p2,c.p3,(c.q4++([(0,20,c.1,0,0,([]:η),([]:η)),(c.1,1,(-1),0,(-1),([]:η),([]:η))]))))) (av (iter (σ:=Int×g_×fD×gk×(Y jB)×Y jB) (λa=>(bx a.1 (aV c.q4) (jn (α:=g_×fD×gk×(Y jB)×Y jB) (lG jE a.p4 a.1 λs=>(av (rq (a.p2,a.p3,s)) λL=>(aG L.2 (bH (bc (ai a.q5+ai ([s])) 88) (aE (a.2.1,a.p2,L.1,a.p4,(a.q5++([s]))))) (aE a.2)))) λx7=>(cP ((cG a.1),x7))) (av (av (sx ((a.p3,a.p2,(G' (gO x.2 0) 60),af),a.2.1)) λq=>(bH (bc (ai a.q5+ai q.1) 88) (av (ug (a.p2,(a.q5++q.1))) λA=>(iU A.2 0 (av (nQ ()) λz=>(M (z,([]:Y jB)))) (M (a.p2,(a.q5++q.1))))))) λr=>M (bX r)))) (0,c.2.1,c.p2,c.p3,c.q4,([]:Y jB))) λr=>M (bX r)))) (1,U.2,Z,y3,[(0,1,(-1),0,(-1),([]:η),([]:η))]))))))
def lh (x:(η×(η)×η)×Int):I (fD×Y jB):=
 (bx 0 (aV x.1.2.2) (av (qr (x.1.2.2,x.2)) λc=>(M c)) (bH (cZ 0 (G' (aV x.1.2.1) x.2)&&cZ (G' (aV x.1.2.1) x.2) (ai x.1.2.1)) (av (sD (x.1.1,(dJ (aQ (G' (aV x.1.2.1) x.2)) x.1.2.1))) λa=>(M a))))
end
end Go.Proofs.YtloaobgmjdjhhaaGreatDoor.AI
