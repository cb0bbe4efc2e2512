/-
  Texts of the proof, part 1 of 5: what is used to prove the statement. No condition.
-/
import Derived.WalkKit
import Derived.Lib.Hide
import Derived.Deep.QuietTactic
namespace Prod
variable {A0 A1 A2 A3 A4 A5 A6 A7 A8 A9 A10 A11 A12 A13 A14 A15 A16 A17 A18 A19 A20 A21 A22 A23 A24:Type}
abbrev p2 (x:A0×A1×A2×A3):A2:=x.2.2.1
abbrev p3 (x:A0×A1×A2×A3×A4):A3:=x.2.2.2.1
abbrev q3 (x:A0×A1×A2×A3):A3:=x.2.2.2
abbrev p4 (x:A0×A1×A2×A3×A4×A5):A4:=x.2.2.2.2.1
abbrev q4 (x:A0×A1×A2×A3×A4):A4:=x.2.2.2.2
abbrev p5 (x:A0×A1×A2×A3×A4×A5×A6):A5:=x.2.2.2.2.2.1
abbrev q5 (x:A0×A1×A2×A3×A4×A5):A5:=x.2.2.2.2.2
abbrev p6 (x:A0×A1×A2×A3×A4×A5×A6×A7):A6:=x.2.2.2.2.2.2.1
abbrev q6 (x:A0×A1×A2×A3×A4×A5×A6):A6:=x.2.2.2.2.2.2
abbrev p7 (x:A0×A1×A2×A3×A4×A5×A6×A7×A8):A7:=x.2.2.2.2.2.2.2.1
abbrev q7 (x:A0×A1×A2×A3×A4×A5×A6×A7):A7:=x.2.2.2.2.2.2.2
abbrev p8 (x:A0×A1×A2×A3×A4×A5×A6×A7×A8×A9):A8:=x.2.2.2.2.2.2.2.2.1
abbrev q8 (x:A0×A1×A2×A3×A4×A5×A6×A7×A8):A8:=x.2.2.2.2.2.2.2.2
abbrev p9 (x:A0×A1×A2×A3×A4×A5×A6×A7×A8×A9×A10):A9:=x.2.2.2.2.2.2.2.2.2.1
abbrev q9 (x:A0×A1×A2×A3×A4×A5×A6×A7×A8×A9):A9:=x.2.2.2.2.2.2.2.2.2
abbrev p10 (x:A0×A1×A2×A3×A4×A5×A6×A7×A8×A9×A10×A11):A10:=x.2.2.2.2.2.2.2.2.2.2.1
abbrev q10 (x:A0×A1×A2×A3×A4×A5×A6×A7×A8×A9×A10):A10:=x.2.2.2.2.2.2.2.2.2.2
abbrev p11 (x:A0×A1×A2×A3×A4×A5×A6×A7×A8×A9×A10×A11×A12):A11:=x.2.2.2.2.2.2.2.2.2.2.2.1
abbrev q11 (x:A0×A1×A2×A3×A4×A5×A6×A7×A8×A9×A10×A11):A11:=x.2.2.2.2.2.2.2.2.2.2.2
abbrev p12 (x:A0×A1×A2×A3×A4×A5×A6×A7×A8×A9×A10×A11×A12×A13):A12:=x.2.2.2.2.2.2.2.2.2.2.2.2.1
abbrev q12 (x:A0×A1×A2×A3×A4×A5×A6×A7×A8×A9×A10×A11×A12):A12:=x.2.2.2.2.2.2.2.2.2.2.2.2
abbrev p13 (x:A0×A1×A2×A3×A4×A5×A6×A7×A8×A9×A10×A11×A12×A13×A14):A13:=x.2.2.2.2.2.2.2.2.2.2.2.2.2.1
abbrev q13 (x:A0×A1×A2×A3×A4×A5×A6×A7×A8×A9×A10×A11×A12×A13):A13:=x.2.2.2.2.2.2.2.2.2.2.2.2.2
abbrev p14 (x:A0×A1×A2×A3×A4×A5×A6×A7×A8×A9×A10×A11×A12×A13×A14×A15):A14:=x.2.2.2.2.2.2.2.2.2.2.2.2.2.2.1
abbrev p15 (x:A0×A1×A2×A3×A4×A5×A6×A7×A8×A9×A10×A11×A12×A13×A14×A15×A16):A15:=x.2.2.2.2.2.2.2.2.2.2.2.2.2.2.2.1
abbrev p16 (x:A0×A1×A2×A3×A4×A5×A6×A7×A8×A9×A10×A11×A12×A13×A14×A15×A16×A17):A16:=x.2.2.2.2.2.2.2.2.2.2.2.2.2.2.2.2.1
abbrev q16 (x:A0×A1×A2×A3×A4×A5×A6×A7×A8×A9×A10×A11×A12×A13×A14×A15×A16):A16:=x.2.2.2.2.2.2.2.2.2.2.2.2.2.2.2.2
abbrev p17 (x:A0×A1×A2×A3×A4×A5×A6×A7×A8×A9×A10×A11×A12×A13×A14×A15×A16×A17×A18):A17:=x.2.2.2.2.2.2.2.2.2.2.2.2.2.2.2.2.2.1
abbrev q17 (x:A0×A1×A2×A3×A4×A5×A6×A7×A8×A9×A10×A11×A12×A13×A14×A15×A16×A17):A17:=x.2.2.2.2.2.2.2.2.2.2.2.2.2.2.2.2.2
abbrev p18 (x:A0×A1×A2×A3×A4×A5×A6×A7×A8×A9×A10×A11×A12×A13×A14×A15×A16×A17×A18×A19):A18:=x.2.2.2.2.2.2.2.2.2.2.2.2.2.2.2.2.2.2.1
abbrev q18 (x:A0×A1×A2×A3×A4×A5×A6×A7×A8×A9×A10×A11×A12×A13×A14×A15×A16×A17×A18):A18:=x.2.2.2.2.2.2.2.2.2.2.2.2.2.2.2.2.2.2
abbrev p19 (x:A0×A1×A2×A3×A4×A5×A6×A7×A8×A9×A10×A11×A12×A13×A14×A15×A16×A17×A18×A19×A20):A19:=x.2.2.2.2.2.2.2.2.2.2.2.2.2.2.2.2.2.2.2.1
abbrev p20 (x:A0×A1×A2×A3×A4×A5×A6×A7×A8×A9×A10×A11×A12×A13×A14×A15×A16×A17×A18×A19×A20×A21):A20:=x.2.2.2.2.2.2.2.2.2.2.2.2.2.2.2.2.2.2.2.2.1
abbrev q21 (x:A0×A1×A2×A3×A4×A5×A6×A7×A8×A9×A10×A11×A12×A13×A14×A15×A16×A17×A18×A19×A20×A21):A21:=x.2.2.2.2.2.2.2.2.2.2.2.2.2.2.2.2.2.2.2.2.2
end Prod
namespace Go.Proofs.YtiaemgcbndhkfaaGreatDoor.AI
open Go.RowKit
set_option maxRecDepth 100000
set_option maxHeartbeats 4000000
set_option linter.unusedVariables false
set_option linter.unusedSimpArgs false
open Act renaming put→MF
open _root_.Array renaming length_toList→im,replicate→oa
open _root_.Bool renaming true→M,false→aa
open _root_.Int renaming toNat→aP,ofNat→aT,tmod→bo
open IntKind renaming wrap→oI
open _root_.List renaming length→ah,replicate→aA,length_singleton→cP,take→dh,toArray→eQ,range→fd,getElem?_cons_zero→lA
open _root_.Nat renaming beq→ax,testBit→aO,ble→dN,blt→eP,min→iM
open Oper renaming wp→Gy
open _root_.Option renaming some→Z,none→U,bind_some→aD
open Region renaming wanted→iH,binds→yQ,ready→Gx
open _root_.Sum renaming inr→b7,inl→nk
open Utf8 renaming decode→xy
open World renaming shape?→ri,cell?→MC
noncomputable section
abbrev Y:=@List
abbrev J:=@Option
abbrev aL:=@if_neg
abbrev aU:=@if_pos
abbrev ba:=@of_decide_eq_true
abbrev bc:=@decide_eq_true
abbrev bz:=@decide_eq_true_eq
abbrev bD:=@decide_eq_false
abbrev bE:=@if_true
abbrev cN:=@beq_self_eq_true
abbrev cO:=@beq_iff_eq
abbrev cZ:=@decide_false
abbrev dq:=@if_false
abbrev dH:=@decide_true
abbrev dP:=@absurd
abbrev gE:=@or_false
abbrev iU:=@congrArg
abbrev jy:=@of_decide_eq_false
abbrev As:=@true_and
abbrev af:=@Option.some.injEq
abbrev ak:=@Bool.and_eq_true
abbrev au:=@Nat.eq_of_beq_eq_true
abbrev aw:=@List.getElem?_eq_getElem
abbrev ay:=@List.getD_eq_getElem?_getD
abbrev aC:=@Prod.mk.injEq
abbrev aI:=@List.mem_singleton
abbrev a9:=@Nat.le_of_ble_eq_true
abbrev bf:=@List.getElem?_map
abbrev bg:=@List.mem_of_getElem?
abbrev bm:=@List.getElem?_eq_some_iff
abbrev bt:=@Nat.ble_eq_true_of_le
abbrev bu:=@List.mem_cons
abbrev bw:=@Nat.testBit_or
abbrev bG:=@Bool.false_eq_true
abbrev bJ:=@List.getElem?_eq_none
abbrev bL:=@Nat.zero_add
abbrev bM:=@Nat.lt_or_ge
abbrev bN:=@List.mem_append
abbrev bQ:=@List.take_length
abbrev bT:=@List.getElem?_append_left
abbrev bY:=@List.length_append
abbrev b8:=@List.getElem?_append_right
abbrev b_:=@List.length_take
abbrev cj:=@Array.getElem?_toList
abbrev co:=@List.length_map
abbrev cq:=@Array.getElem?_eq_some_iff
abbrev cr:=@Nat.mul_le_mul_right
abbrev cu:=@List.getElem?_take
abbrev cA:=@List.not_mem_nil
abbrev cB:=@Nat.le_refl
abbrev cK:=@List.length_replicate
abbrev cW:=@Nat.le_trans
abbrev cX:=@List.mem_map
abbrev c7:=@List.map_append
abbrev di:=@List.mem_cons_of_mem
abbrev dx:=@Nat.lt_of_lt_of_le
abbrev dy:=@List.ext_getElem
abbrev d_:=@Bool.not_eq_true'
abbrev eo:=@List.mem_cons_self
abbrev ep:=@Int.natCast_nonneg
abbrev eR:=@List.getElem?_of_mem
abbrev eW:=@List.map_cons
abbrev fo:=@List.flatMap_cons
abbrev fB:=@List.mem_of_mem_take
abbrev fJ:=@List.take_of_length_le
abbrev gj:=@List.all_eq_true
abbrev gk:=@List.length_take_le
abbrev gA:=@Array.getD_eq_getD_getElem?
abbrev gM:=@List.getElem?_drop
abbrev gN:=@Int.le_refl
abbrev gW:=@Nat.ne_of_beq_eq_false
abbrev hZ:=@Array.getElem?_eq_getElem
abbrev iq:=@Nat.le_succ_of_le
abbrev ir:=@List.append_assoc
abbrev iI:=@Option.isSome_iff_exists
abbrev iL:=@Nat.succ_mul
abbrev iN:=@List.cons.injEq
abbrev iO:=@Bool.or_eq_true
abbrev jf:=@List.mem_append_left
abbrev jg:=@List.length_eq_zero_iff
abbrev jx:=@Bool.and_self
abbrev jO:=@Option.map_eq_some_iff
abbrev jP:=@Nat.or_assoc
abbrev jQ:=@List.length_range
abbrev jR:=@List.foldl_append
abbrev jS:=@Bool.false_and
abbrev jV:=@Option.some.inj
abbrev ko:=@List.mem_append_right
abbrev kq:=@List.getElem?_toArray
abbrev kC:=@List.length_drop
abbrev kI:=@Bool.true_and
abbrev k_:=@List.take_append_of_le_length
abbrev lz:=@List.getElem?_replicate
abbrev ng:=@List.mem_range
abbrev nh:=@List.getElem_range
abbrev n_:=@List.append_nil
abbrev oF:=@Nat.zero_le
abbrev oG:=@List.take_succ_eq_append_getElem
abbrev oH:=@List.getElem?_set
abbrev pt:=@List.map_take
abbrev pE:=@Array.getElem?_setIfInBounds_ne
abbrev pK:=@List.getElem?_range
abbrev pL:=@Int.toNat_of_nonneg
abbrev qw:=@Nat.lt_succ_self
abbrev qx:=@List.getElem_mem
abbrev qy:=@List.getElem_map
abbrev rj:=@Nat.eq_zero_or_pos
abbrev rk:=@Nat.beq_refl
abbrev rn:=@List.drop_of_length_le
abbrev sr:=@List.contains_iff_mem
abbrev sG:=@List.size_toArray
abbrev t7:=@Bool.and_eq_true_iff
abbrev ui:=@List.mem_flatMap
abbrev uj:=@List.getElem_set
abbrev uk:=@List.drop_append
abbrev uW:=@List.drop_succ_cons
abbrev vV:=@Nat.add_assoc
abbrev vW:=@Nat.not_lt_zero
abbrev xz:=@Nat.zero_or
abbrev yT:=@Nat.sub_self
abbrev yU:=@Nat.lt_succ_of_lt
abbrev C0:=@List.replicate_succ'
abbrev C1:=@List.drop_append_of_le_length
abbrev Ei:=@Nat.min_eq_left
abbrev Ej:=@List.mem_filter
abbrev Ek:=@List.length_set
abbrev Gz:=@Nat.mul_comm
abbrev GA:=@List.map_map
abbrev J4:=@Array.ext'
abbrev MD:=@Nat.add_mul
abbrev η:=Y Int
abbrev ζ:=Y UInt8
abbrev θ:=Y Bool
abbrev ι:=Y Nat
abbrev ξ:=Y Value
abbrev ω:=Int×Int×Int×Int×Int×Int
abbrev υ:=Int×Int×Int×Int×Int
abbrev π:=Int×Int×Int×Int
abbrev ν:=Int×Int×Int
abbrev Γ:=Int×Int
inductive FV where
 |raw (v:Value)
 |sl (cells:List FV) (n:Nat)
 |ptr (cells:List FV) (off:Nat)
 |agg (cells:List FV)
inductive AV where
 |f (x:FV)
 |ptr (id off:Nat)
 |sl (id off n:Nat)
 |row (id sz n:Nat)
 |mp (id:Nat)
 |emp
 |anyb
 |ful (cells:List FV) (n:Nat)
 |agg (cells:List AV)
 |tup (vs:List AV)
 |clo (g:FuncId) (cap:List AV)
def FV.isCell:FV->Bool
 |.raw v=>v.oneCell'
 |.sl _ _=>M
 |.ptr _ _=>M
 |.agg _=>aa
def AV.isCell:AV->Bool
 |.f x=>x.isCell
 |.ptr _ _=>M
 |.sl _ _ _=>M
 |.row _ _ _=>M
 |.mp _=>M
 |.emp=>M
 |.clo _ _=>M
 |_=>aa
inductive mj (O:Nat->Prop) (w:World):FV->Value->Prop
 |raw (v:Value):mj O w (.raw v) v
 |nil (a:Option Addr) (c:Nat) (hc:c<=maxLen):mj O w (.sl [] 0) (.slice a 0 c)
 |sl (cells:List FV) (n c b off:Nat) (us:Nat->Value) (hn:n<=c) (hc:c<=maxLen) (hO:¬O b) (hb:b<w.heap.size)
   (hcl:∀x∈cells,x.isCell=M)
   (hu:∀j,j<cells.length->w.cell? ⟨b,off+j,U⟩=Z (us j)) (hr:∀(j:Nat) x,cells[j]? =Z x->mj O w x (us j)):
   mj O w (.sl cells n) (.slice (Z ⟨b,off,U⟩) n c)
 |ptr (cells:List FV) (o b off:Nat) (us:Nat->Value) (hO:¬O b) (hb:b<w.heap.size)
   (hcl:∀x∈cells,x.isCell=M)
   (hu:∀j,j<cells.length->w.cell? ⟨b,off+j,U⟩=Z (us j)) (hr:∀(j:Nat) x,cells[j]? =Z x->mj O w x (us j)):
   mj O w (.ptr cells o) (.pointer (Z ⟨b,off+o,U⟩))
 |agg (cells:List FV) (vs:ξ) (hl:vs.length=cells.length) (hcl:∀x∈cells,x.isCell=M)
   (hr:∀(j:Nat) x v,cells[j]? =Z x->vs[j]? =Z v->mj O w x v):mj O w (.agg cells) (.agg vs.toArray)
abbrev PM:=Nat->J Nat
inductive cE (φ:PM) (O:Nat->Prop) (w:World):AV->Value->Prop
 |f {x:FV} {v:Value} (h:mj O w x v):cE φ O w (.f x) v
 |ptr {id off b:Nat} (h:φ id=Z b):cE φ O w (.ptr id off) (.pointer (Z ⟨b,off,U⟩))
 |sl {id off n c b:Nat} (h:φ id=Z b) (hn:n<=c) (hc:c<=maxLen):cE φ O w (.sl id off n) (.slice (Z ⟨b,off,U⟩) n c)
 |row {id sz n c b:Nat} (h:φ id=Z b) (hn:n<=c) (hc:c<=maxLen) (hs:∃ty,w.shape? b=Z (ty,c*sz)):
   cE φ O w (.row id sz n) (.slice (Z ⟨b,0,U⟩) n c)
 |emp {a:Option Addr}:cE φ O w .emp (.slice a 0 0)
 |anyb {b:Bool}:cE φ O w .anyb (.bool b)
 |ful {cells:List FV} {n:Nat} {a:Option Addr} (h:mj O w (.sl cells n) (.slice a n n)):cE φ O w (.ful cells n) (.slice a n n)
 |mp {id b:Nat} (h:φ id=Z b):cE φ O w (.mp id) (.map (Z b))
 |agg {cells:List AV} {vs:ξ} (hl:vs.length=cells.length) (hcl:∀x∈cells,x.isCell=M)
   (hr:∀(j:Nat) x v,cells[j]? =Z x->vs[j]? =Z v->cE φ O w x v):cE φ O w (.agg cells) (.agg vs.toArray)
 |tup {cells:List AV} {vs:ξ} (hl:vs.length=cells.length)
   (hr:∀(j:Nat) x v,cells[j]? =Z x->vs[j]? =Z v->cE φ O w x v):cE φ O w (.tup cells) (.tuple vs.toArray)
 |clo {g:FuncId} {cells:List AV} {vs:ξ} (hl:vs.length=cells.length)
   (hr:∀(j:Nat) x v,cells[j]? =Z x->vs[j]? =Z v->cE φ O w x v):cE φ O w (.clo g cells) (.func (.func g) #[] vs.toArray)
structure Gu (O:Nat->Prop) (w w':World):Prop where
 os:w'.os=w.os
 tape:w'.tape=w.tape
 output:w'.output=w.output
 size:w.heap.size<=w'.heap.size
 blk:∀k,k<w.heap.size->¬O k->w'.heap[k]? =w.heap[k]?
 shp:∀k,k<w.heap.size->w'.shape? k=w.shape? k
theorem Gu.refl (O:Nat->Prop) (w:World):Gu O w w:=⟨rfl,rfl,rfl,cB _,λ_ _ _=>rfl,λ_ _=>rfl⟩
theorem CO {w w':World} {b:Nat} (h:w'.heap[b]? =w.heap[b]?) (o:Nat):w'.cell? ⟨b,o,U⟩=w.cell? ⟨b,o,U⟩:=by
 unfold MC;rw[h]
theorem mj.ext {O O':Nat->Prop} {w w':World} (he:Gu O w w') (q:∀k,k<w.heap.size->O' k->O k) {x:FV} {v:Value} (h:mj O w x v):mj O' w' x v:=by
 induction h with
 |raw v=>exact .raw v
 |nil a c hc=>exact .nil a c hc
 |sl cells n c b off us hn hc hO hb hcl hu hr d=>
  exact .sl cells n c b off us hn hc (λh=>hO (q b hb h)) (dx hb he.size) hcl (λj hj=>by rw[CO (he.blk b hb hO)];exact hu j hj) d
 |ptr cells o b off us hO hb hcl hu hr d=>
  exact .ptr cells o b off us (λh=>hO (q b hb h)) (dx hb he.size) hcl (λj hj=>by rw[CO (he.blk b hb hO)];exact hu j hj) d
 |agg cells vs hl hcl hr d=>exact .agg cells vs hl hcl d
theorem cE.ext {φ φ':PM} {O O':Nat->Prop} {w w':World} (hs:∀i k,φ i=Z k->φ' i=Z k) (he:Gu O w w') (q:∀k,k<w.heap.size->O' k->O k) {x:AV} {v:Value} (h:cE φ O w x v):cE φ' O' w' x v:=by
 induction h with
 |f h=>exact .f (h.ext he q)
 |ptr h=>exact .ptr (hs _ _ h)
 |sl h hn hc=>exact .sl (hs _ _ h) hn hc
 |row h hn hc hsh=>
  obtain⟨ty,hty⟩:=hsh;refine .row (hs _ _ h) hn hc ⟨ty,?_⟩;rw[he.shp _ ?_];exact hty;unfold ri at hty;rcases bM _ w.heap.size with hlt|hge
  .exact hlt
  .rw[Array.getElem?_eq_none hge]at hty;cases hty
 |emp=>exact .emp
 |anyb=>exact .anyb
 |ful h=>exact .ful (h.ext he q)
 |mp h=>exact .mp (hs _ _ h)
 |agg hl hcl hr d=>exact .agg hl hcl d
 |tup hl hr d=>exact .tup hl d
 |clo hl hr d=>exact .clo hl d
inductive BC where
 |fz (l:List FV)
 |mx (l:List AV)
 |mp (es:List (Value×AV))
 |it (s:ByteArray) (pos:Nat)
def BC.get:BC->Nat->J AV
 |.fz l,j=>l[j]?.map AV.f
 |.mx l,j=>l[j]?
 |_,_=>U
def BC.len:BC->Nat
 |.fz l=>l.length
 |.mx l=>l.length
 |_=>0
def BC.isCells:BC->Bool
 |.fz _=>M
 |.mx _=>M
 |_=>aa
structure uT where
 ty:TypeId
 c:BC
abbrev HF:=Nat->J uT
def own (φ:PM) (h:HF) (k:Nat):Prop:=∃id b,h id=Z b/\φ id=Z k
def tot (E:Nat->Prop) (φ:PM) (h:HF) (k:Nat):Prop:=E k\/own φ h k
def uF (φ:PM) (O:Nat->Prop) (w:World) (c:BC) (arr:Array Value):Prop:=
 c.len<=arr.size/\∀j x,c.get j=Z x->x.isCell=M/\∃v,arr[j]? =Z v/\cE φ O w x v
def kj (k:Value):Y MapEntry->Value
 |[]=>.slice U 0 0
 |m::r=>match m.key,k with
  |.int .i64 a,.int .i64 b=>if a=b then m.val else kj k r
  |_,_=>kj k r
def vp (k:Value):Prop:=∃n:Int,k= .int .i64 n
def Vx (ty:TypeId) (es:Y (Value×AV)) (ents:Array MapEntry):Prop:=if ty=0 then ents.toList.map (·.key)=es.map (·.1) else (∀m∈ents.toList,vp m.key)/\∀k∈es.map (·.1),vp k
def MpV (ty:TypeId) (ents:Array MapEntry) (j:Nat) (k v:Value):Prop:=if ty=0 then ∃m,ents[j]? =Z m/\v=m.val else v=kj k ents.toList
def iS (φ:PM) (O:Nat->Prop) (w:World) (b:uT) (o:Obj):Prop:=
 match b.c with
 |.mp es=>∃ents clock,o= .map ents clock/\Vx b.ty es ents/\∀(j:Nat) x,es[j]? =Z x->∃v,MpV b.ty ents j x.1 v/\cE φ O w x.2 v
 |.it s p=>o= .stringIter s p
 |c=>∃arr,o= .cells arr b.ty (0,0)/\uF φ O w c arr
def VD (φ:PM) (O:Nat->Prop) (w:World) (k:Nat) (b:uT):Prop:=∃o,w.heap[k]? =Z o/\iS φ O w b o
theorem VD.cells {φ:PM} {O:Nat->Prop} {w:World} {k:Nat} {b:uT} (h:VD φ O w k b) (hc:b.c.isCells=M):
 ∃arr,w.heap[k]? =Z (.cells arr b.ty (0,0))/\uF φ O w b.c arr:=by
 obtain⟨o,h1,h2⟩:=h;unfold iS at h2;cases hb:b.c with
 |fz l=>rw[hb]at h2;obtain⟨arr,rfl,h3⟩:=h2;exact⟨arr,h1,h3⟩
 |mx l=>rw[hb]at h2;obtain⟨arr,rfl,h3⟩:=h2;exact⟨arr,h1,h3⟩
 |mp _=>rw[hb]at hc;cases hc
 |it _ _=>rw[hb]at hc;cases hc
theorem iS.mono {φ φ':PM} {O O':Nat->Prop} {w w':World} (hk:∀x v,cE φ O w x v->cE φ' O' w' x v) {b:uT} {o:Obj} (h:iS φ O w b o):iS φ' O' w' b o:=by
 unfold iS at h ⊢;cases hb:b.c with
 |fz l=>rw[hb]at h;obtain⟨arr,h1,h2,h3⟩:=h;exact⟨arr,h1,h2,λj x q=>by obtain⟨a,v,c,d⟩:=h3 j x q;exact⟨a,v,c,hk _ _ d⟩⟩
 |mx l=>rw[hb]at h;obtain⟨arr,h1,h2,h3⟩:=h;exact⟨arr,h1,h2,λj x q=>by obtain⟨a,v,c,d⟩:=h3 j x q;exact⟨a,v,c,hk _ _ d⟩⟩
 |mp es=>rw[hb]at h;obtain⟨e,c,h1,h2,h3⟩:=h;exact⟨e,c,h1,h2,λj x q=>by obtain⟨m,a,b⟩:=h3 j x q;exact⟨m,a,hk _ _ b⟩⟩
 |it s p=>rw[hb]at h;exact h
theorem uF.mono {φ φ':PM} {O O':Nat->Prop} {w w':World} (hk:∀x v,cE φ O w x v->cE φ' O' w' x v) {c:BC} {arr:Array Value} (h:uF φ O w c arr):uF φ' O' w' c arr:=
 ⟨h.1,λj x q=>by obtain⟨a,v,c,d⟩:=h.2 j x q;exact⟨a,v,c,hk _ _ d⟩⟩
def ua (l:ζ):FV:=.raw (.string ⟨l.toArray⟩)
def BP:Y FV:=[ua [118,97,114],ua [118,111,108,97,116,105,108,101],ua [109,117,116,101,120],ua [114,119,108,111,99,107],ua [99,111,110,100],ua [102,117,116,117,114,101],ua [116,104,114,101,97,100],ua [105,102],ua [101,108,115,101],ua [119,104,105,108,101],ua [108,111,99,107],ua [114,101,97,100],ua [119,114,105,116,101],ua [116,114,97,110,115,97,99,116,105,111,110],ua [97,116,111,109,105,99],ua [119,97,105,116],ua [110,111,116,105,102,121],ua [110,111,116,105,102,121,97,108,108],ua [115,112,97,119,110],ua [106,111,105,110],ua [115,101,116],ua [103,101,116]]
def G (g:Nat):J (Y FV):=if g==0 then Z BP else U
structure qG (φ:PM) (E:Nat->Prop) (h:HF) (w:World):Prop where
 inj:∀i j b b' k,h i=Z b->h j=Z b'->φ i=Z k->φ j=Z k->i=j
 at_:∀i b,h i=Z b->∃k,φ i=Z k/\¬E k/\VD φ (tot E φ h) w k b
 el:∀k,E k->k<w.heap.size
 gl:∀g cells,G g=Z cells->mj (tot E φ h) w (.ptr cells 0) (.pointer (Z ⟨g,0,U⟩))
structure iT (φ φ':PM) (h h':HF) (w w':World):Prop where
 sub:∀i k,φ i=Z k->φ' i=Z k
 ext:Gu (own φ h) w w'
 own_:∀k,k<w.heap.size->own φ' h' k->own φ h k
theorem iT.refl (φ:PM) (h:HF) (w:World):iT φ φ h h w w:=⟨λ_ _ h=>h,Gu.refl _ _,λ_ _ h=>h⟩
theorem iT.trans {φ φ' φ'':PM} {h h' h'':HF} {w w' w'':World} (m:iT φ φ' h h' w w') (n:iT φ' φ'' h' h'' w' w''):iT φ φ'' h h'' w w'' where
 sub:=λi k e=>n.sub i k (m.sub i k e)
 ext:=⟨n.ext.os.trans m.ext.os,n.ext.tape.trans m.ext.tape,n.ext.output.trans m.ext.output,cW m.ext.size n.ext.size,
  λk hk d=>(n.ext.blk k (dx hk m.ext.size) (λh=>d (m.own_ k hk h))).trans (m.ext.blk k hk d),
  λk hk=>(n.ext.shp k (dx hk m.ext.size)).trans (m.ext.shp k hk)⟩
 own_:=λk hk h=>m.own_ k hk (n.own_ k (dx hk m.ext.size) h)
theorem Gu.mono {O O':Nat->Prop} {w w':World} (h:Gu O w w') (d:∀k,O k->O' k):Gu O' w w':=
 ⟨h.os,h.tape,h.output,h.size,λk hk hO=>h.blk k hk (λx=>hO (d k x)),h.shp⟩
theorem iT.keep {φ φ':PM} {h h':HF} {w w':World} (m:iT φ φ' h h' w w') {E:Nat->Prop} {x:AV} {v:Value} (r:cE φ (tot E φ h) w x v):cE φ' (tot E φ' h') w' x v:=
 r.ext m.sub (m.ext.mono λ_ h=>.inr h) λk hk d=>d.elim .inl λo=>.inr (m.own_ k hk o)
theorem iT.keepF {φ φ':PM} {h h':HF} {w w':World} (m:iT φ φ' h h' w w') {E:Nat->Prop} {x:FV} {v:Value} (r:mj (tot E φ h) w x v):mj (tot E φ' h') w' x v:=
 r.ext (m.ext.mono λ_ h=>.inr h) λk hk d=>d.elim .inl λo=>.inr (m.own_ k hk o)
abbrev EF:=Nat->J AV
def Mx (φ:PM) (O:Nat->Prop) (w:World) (e:EF) (a:Act):Prop:=∀t x,e t=Z x->cE φ O w x (a.tmps.getD t undef)
def BD (e:EF) (dst:J Nat) (x:AV):EF:=λt=>if dst=Z t then Z x else e t
def eE (h:HF) (wr:ι) (nw:HF):HF:=λi=>if i∈wr then nw i else h i
structure Aq where
 val:AV
 rd:ι
 wr:ι
 nw:HF
 N:ι
def gy (P:Program) (o:Oper) (e:EF) (h:HF) (f:Aq):Prop:=
 ∀(φ:PM) (E:Nat->Prop) (h':HF) (w:World) (a:Act),(∀i∈f.rd,h' i=h i)->(∀i∈f.wr,h' i=h i)->
  (∀t,.tmp t∈o.op.operands->∀y,e t=Z y->cE φ (tot E φ h') w y (a.tmps.getD t undef))->qG φ E h' w->(∀n∈f.N,φ n=U)->
  o.wp P a w (λa' w'=>∃v φ',a'=a.put o.dst v/\iT φ φ' h' (eE h' f.wr f.nw) w w'/\(∀i k,φ' i=Z k->φ i=Z k\/i∈f.N)/\
   qG φ' E (eE h' f.wr f.nw) w'/\cE φ' (tot E φ' (eE h' f.wr f.nw)) w' f.val v) (λ_ _ _=>False)
def rq:Aq:=⟨.f (.raw undef),[],[],λ_=>U,[]⟩
inductive JM (P:Program) (ops:Array Oper) (o:Oper) (f:Aq) (e:EF) (h:HF):Prop
 |run (hg:o.guard=U) (ht:gy P o e h f)
 |runG (j t:Nat) (want:Bool) (hg:o.guard=Z (j,want)) (hj:(ops[j]?).bind (·.dst)=Z t) (he:e t=Z (.f (.raw (.bool want)))) (ht:gy P o e h f)
 |skip (j t:Nat) (want:Bool) (hg:o.guard=Z (j,want)) (hj:(ops[j]?).bind (·.dst)=Z t) (v:Value) (he:e t=Z (.f (.raw v))) (hv:v≠ .bool want) (hf:f=rq)
inductive yP (P:Program) (ops:Array Oper):List (Oper×Aq)->EF->HF->EF->HF->Prop
 |nil (e:EF) (h:HF):yP P ops [] e h e h
 |cons {o:Oper} {f:Aq} {r:List (Oper×Aq)} {e e':EF} {h h':HF} (hs:JM P ops o f e h)
   (hr:yP P ops r (BD e o.dst f.val) (eE h f.wr f.nw) e' h'):yP P ops ((o,f)::r) e h e' h'
def J7 (S:Nat->Bool):Nat->Y (Oper×Aq)->EF->EF
 |_,[],e=>e
 |k,(o,f)::r,e=>J7 S (k+1) r (if S k then BD e o.dst f.val else e)
def Bi (S:Nat->Bool):Nat->Y (Oper×Aq)->HF->HF
 |_,[],h=>h
 |k,(_,f)::r,h=>Bi S (k+1) r (if S k then eE h f.wr f.nw else h)
theorem C' {S S':Nat->Bool} {t:Nat}:∀(l:Y (Oper×Aq)) (k:Nat) (e e':EF),e t=e' t->
 (∀(j:Nat) o f,l[j]? =Z (o,f)->o.dst=Z t->S (k+j)=S' (k+j))->J7 S k l e t=J7 S' k l e' t
 |[],_,_,_,he,_=>he
 |(o,f)::r,k,e,e',he,d=>by
  simp only[J7];refine C' r (k+1) _ _ ?_ (λj o f hj hd=>by have:=d (j+1) o f (by simpa using hj) hd;rwa [show k+(j+1)=k+1+j from by omega]at this);by_cases hd:o.dst=Z t
  .rw[show S k=S' k from by simpa using d 0 o f rfl hd];split
   .simp[BD,hd]
   .exact he
  .split<;>split<;>simp[BD,hd,he]
theorem C_ {S S':Nat->Bool} {t:Nat}:∀(l:Y (Oper×Aq)) (k:Nat) (e e':HF),e t=e' t->
 (∀(j:Nat) o f,l[j]? =Z (o,f)->t∈f.wr->S (k+j)=S' (k+j))->Bi S k l e t=Bi S' k l e' t
 |[],_,_,_,he,_=>he
 |(o,f)::r,k,e,e',he,d=>by
  simp only[Bi];refine C_ r (k+1) _ _ ?_ (λj o f hj hd=>by have:=d (j+1) o f (by simpa using hj) hd;rwa [show k+(j+1)=k+1+j from by omega]at this);by_cases hd:t∈f.wr
  .rw[show S k=S' k from by simpa using d 0 o f rfl hd];split
   .simp[eE,hd]
   .exact he
  .split<;>split<;>simp[eE,hd,he]
theorem Bt {S:Nat->Bool} {t:Nat}:∀(l:Y (Oper×Aq)) (k:Nat) (e:EF),(∀(j:Nat) o f,l[j]? =Z (o,f)->o.dst=Z t->S (k+j)=aa)->J7 S k l e t=e t
 |[],_,_,_=>rfl
 |(o,f)::r,k,e,d=>by
  simp only[J7];rw[Bt r (k+1) _ (λj o f hj hd=>by have:=d (j+1) o f (by simpa using hj) hd;rwa [show k+(j+1)=k+1+j from by omega]at this)];split
  .rename_i h;unfold BD;rw[aL];intro hd;have:=d 0 o f rfl hd;simp_all
  .rfl
theorem Bs {S:Nat->Bool} {t:Nat}:∀(l:Y (Oper×Aq)) (k:Nat) (e:HF),(∀(j:Nat) o f,l[j]? =Z (o,f)->t∈f.wr->S (k+j)=aa)->Bi S k l e t=e t
 |[],_,_,_=>rfl
 |(o,f)::r,k,e,d=>by
  simp only[Bi];rw[Bs r (k+1) _ (λj o f hj hd=>by have:=d (j+1) o f (by simpa using hj) hd;rwa [show k+(j+1)=k+1+j from by omega]at this)];split
  .rename_i h;unfold eE;rw[aL];intro hd;have:=d 0 o f rfl hd;simp_all
  .rfl
theorem OB {S:Nat->Bool} {t:Nat}:∀(l:Y (Oper×Aq)) (k i:Nat) (e:EF) (o:Oper) (f:Aq),l[i]? =Z (o,f)->o.dst=Z t->S (k+i)=M->
 (∀(j:Nat) o' f',i<j->l[j]? =Z (o',f')->o'.dst=Z t->S (k+j)=aa)->J7 S k l e t=Z f.val
 |[],_,_,_,_,_,h,_,_,_=>by simp at h
 |(o',f')::r,k,0,e,o,f,h,hd,d,hl=>by
  simp only[lA,af,aC]at h;obtain⟨rfl,rfl⟩:=h;simp only[J7];rw[Bt r (k+1) _ (λj o f hj hd=>by have:=hl (j+1) o f (by omega) (by simpa using hj) hd;rwa [show k+(j+1)=k+1+j from by omega]at this)];simp at d;simp[d,BD,hd]
 |(o',f')::r,k,i+1,e,o,f,h,hd,d,hl=>by
  simp only[J7];exact OB r (k+1) i _ o f (by simpa using h) hd (by rwa [show k+1+i=k+(i+1) from by omega])
   (λj o f hij hj hd=>by have:=hl (j+1) o f (by omega) (by simpa using hj) hd;rwa [show k+(j+1)=k+1+j from by omega]at this)
theorem OA {S:Nat->Bool} {t:Nat}:∀(l:Y (Oper×Aq)) (k i:Nat) (e:HF) (o:Oper) (f:Aq),l[i]? =Z (o,f)->t∈f.wr->S (k+i)=M->
 (∀(j:Nat) o' f',i<j->l[j]? =Z (o',f')->t∈f'.wr->S (k+j)=aa)->Bi S k l e t=f.nw t
 |[],_,_,_,_,_,h,_,_,_=>by simp at h
 |(o',f')::r,k,0,e,o,f,h,hd,d,hl=>by
  simp only[lA,af,aC]at h;obtain⟨rfl,rfl⟩:=h;simp only[Bi];rw[Bs r (k+1) _ (λj o f hj hd=>by have:=hl (j+1) o f (by omega) (by simpa using hj) hd;rwa [show k+(j+1)=k+1+j from by omega]at this)];simp at d;simp[d,eE,hd]
 |(o',f')::r,k,i+1,e,o,f,h,hd,d,hl=>by
  simp only[Bi];exact OA r (k+1) i _ o f (by simpa using h) hd (by rwa [show k+1+i=k+(i+1) from by omega])
   (λj o f hij hj hd=>by have:=hl (j+1) o f (by omega) (by simpa using hj) hd;rwa [show k+(j+1)=k+1+j from by omega]at this)
theorem yP.step {P:Program} {ops:Array Oper}:∀{l:Y (Oper×Aq)} {e e':EF} {h h':HF} (_:yP P ops l e h e' h') (k i:Nat) (o:Oper) (f:Aq),l[i]? =Z (o,f)->
 JM P ops o f (J7 (λj=>decide (j<k+i)) k l e) (Bi (λj=>decide (j<k+i)) k l h):=by
 intro l e e' h h' hc;induction hc with
 |nil=>intro k i o f hi;simp at hi
 |@cons o1 d r e e' h h' hs hr q=>
  intro k i o f hi;cases i with
  |zero=>
   simp only[lA,af,aC]at hi;obtain⟨rfl,rfl⟩:=hi;have e1:J7 (λj=>decide (j<k+0)) k ((o1,d)::r) e=e:=by
    funext t;rw[Bt];intro j o f _ _;simp
   have e2:Bi (λj=>decide (j<k+0)) k ((o1,d)::r) h=h:=by
    funext t;rw[Bs];intro j o f _ _;simp
   rw[e1,e2];exact hs
  |succ i=>
   have:=q (k+1) i o f (by simpa using hi);simp only[J7,Bi];rw[show k+(i+1)=k+1+i from by omega];simpa[show k<k+1+i from by omega] using this
theorem yP.final {P:Program} {ops:Array Oper}:∀{l:Y (Oper×Aq)} {e e':EF} {h h':HF} (_:yP P ops l e h e' h') (k:Nat) (S:Nat->Bool),(∀j,j<l.length->S (k+j)=M)->
 J7 S k l e=e'/\Bi S k l h=h':=by
 intro l e e' h h' hc;induction hc with
 |nil=>intro k S _;exact⟨rfl,rfl⟩
 |@cons o1 s r e e' h h' hs hr q=>
  intro k S d;have h0:S k=M:=by simpa using d 0 (by simp)
  simp only[J7,Bi,h0,bE];exact q (k+1) S (λj hj=>by have:=d (j+1) (by simpa using hj);rwa [show k+(j+1)=k+1+j from by omega]at this)
theorem Oq {P:Program} {o:Oper} {a:Act} {w:World} {K K':Act->World->Prop} {Q:Exit->Act->World->Prop} (h:∀a w,K a w->K' a w)
 (hh:o.wp P a w K (λ_ _ _=>False)):o.wp P a w K' Q:=by
 unfold Gy at*
 generalize (execOp a.eval o).run P w=r at*
 cases r with
 |ok n w'=>
  cases n<;>simp only[Oper.upon]at hh ⊢<;>
   first
    |exact h _ _ hh
    |exact Calls.mono hh (λe w'' he=>by
      cases e with
      |returned v=>exact h _ _ he
      |panicked c=>exact he.elim
      |outgrown=>obtain⟨_,_,h⟩:=he;exact h.elim)
    |exact Rows.mono hh (λ_ _ he=>h _ _ he)
 |halt x w'=>cases x<;>simp only[Oper.upon]at hh ⊢<;>first|exact hh.elim|exact hh
inductive Bef (ops:Array Oper):Nat->Nat->Prop
 |one {j:Nat} {o:Oper} {e:Edge} (h:ops[j]? =Z o) (he:e∈o.after) (hb:yQ .any e=M):Bef ops j e.on
 |more {j i:Nat} {o:Oper} {e:Edge} (h:ops[j]? =Z o) (he:e∈o.after) (hb:yQ .any e=M) (hi:Bef ops e.on i):Bef ops j i
structure NIP (ops:Array Oper) (l:List (Oper×Aq)):Prop where
 edge:∀(j:Nat) o,ops[j]? =Z o->∀e∈o.after,yQ .any e=M->e.on<j
 pair:∀(i j:Nat) oi fi oj fj,i<j->l[i]? =Z (oi,fi)->l[j]? =Z (oj,fj)->Bef ops j i\/
  (oi.apart ops oj=M/\(∀x∈fi.wr,x∉fj.rd/\x∉fj.wr)/\(∀x∈fj.wr,x∉fi.rd))
 names:∀(i j:Nat) oi fi oj fj,i<j->l[i]? =Z (oi,fi)->l[j]? =Z (oj,fj)->∀n∈fi.N,n∉fj.N
def Ef (ops:Array Oper) (listed:Array Bool):Prop:=∀(j:Nat) o,ops[j]? =Z o->listed.getD j aa=M->∀e∈o.after,yQ .any e=M->listed.getD e.on aa=M
theorem Ef.bef {ops:Array Oper} {listed:Array Bool} (hc:Ef ops listed) {j i:Nat} (h:Bef ops j i):listed.getD j aa=M->listed.getD i aa=M:=by
 induction h with
 |one h he hb=>intro hj;exact hc _ _ h hj _ he hb
 |more h he hb hi d=>intro hj;exact d (hc _ _ h hj _ he hb)
theorem VO {ops:Array Oper} {listed:Array Bool} (hc:Ef ops listed) {j i:Nat} {o:Oper} (d:ops[j]? =Z o) (hr:∀e∈o.after,yQ .any e=M->listed.getD e.on aa=M) (h:Bef ops j i):listed.getD i aa=M:=by
 cases h with
 |one h he hb=>rw[h]at d;cases d;exact hr _ he hb
 |more h he hb hi=>rw[h]at d;cases d;exact hc.bef hi (hr _ he hb)
theorem sd {listed:Array Bool} {j:Nat} (h:listed.getD j M=aa):listed.getD j aa=aa/\j<listed.size:=by
 rcases bM j listed.size with h1|h1
 .simp[h1]at h ⊢;exact h
 .simp[Array.getElem?_eq_none h1]at h
def StP (φ0:PM) (E:Nat->Prop) (e0:EF) (h0:HF) (w0:World) (a0:Act) (l:Y (Oper×Aq)) (S:Nat->Bool) (a:Act) (w:World):Prop:=
 ∃φ,iT φ0 φ h0 (Bi S 0 l h0) w0 w/\(∀i k,φ i=Z k->φ0 i=Z k\/∃(j:Nat) (o:Oper) (f:Aq),S j=M/\l[j]? =Z (o,f)/\i∈f.N)/\
  qG φ E (Bi S 0 l h0) w/\Mx φ (tot E φ (Bi S 0 l h0)) w (J7 S 0 l e0) a/\a.defers=a0.defers/\a.tmps.size=a0.tmps.size
theorem Hj {a:Act} {dst:J Tmp} {v:Value} {t:Nat} (hd:∀d,dst=Z d->d<a.tmps.size):(a.put dst v).tmps.getD t undef=if dst=Z t then v else a.tmps.getD t undef:=by
 cases dst with
 |none=>simp[MF]
 |some d=>
  by_cases h:d=t
  .subst h;simp[MF,hd d rfl]
  .simp[MF,h,pE h]
theorem OT {a:Act} {dst:J Tmp} {v:Value}:(a.put dst v).tmps.size=a.tmps.size:=by cases dst<;>simp[MF]
theorem Hk {a:Act} {dst:J Tmp} {v:Value}:(a.put dst v).defers=a.defers:=by cases dst<;>rfl
theorem Yn {P:Program} {ops:Array Oper} {l:Y (Oper×Aq)} {e0 e':EF} {h0 h':HF} {φ0:PM} {E:Nat->Prop} {w0:World} {a0:Act}
 (hl:l.map (·.1)=ops.toList) (hc:yP P ops l e0 h0 e' h') (L:NIP ops l) (hfr:∀(j:Nat) o f,l[j]? =Z (o,f)->∀n∈f.N,φ0 n=U)
 (hsz:∀(j:Nat) o,ops[j]? =Z o->∀d,o.dst=Z d->d<a0.tmps.size) {listed:Array Bool} (hcl:Ef ops listed) {i:Nat} (hi:i∈Gx .any ops listed) {Q:Exit->Act->World->Prop} {K:Act->World->Prop}
 (hK:∀a w,StP φ0 E e0 h0 w0 a0 l (λj=>(listed.setIfInBounds i M).getD j aa) a w->K a w) {a:Act} {w:World} (hst:StP φ0 E e0 h0 w0 a0 l (λj=>listed.getD j aa) a w):
 wpOp P ops Q i K a w:=by
 obtain⟨hun,o,ho,hdeps⟩:=mem_ready.1 hi;obtain⟨hnf,hlt⟩:=sd hun;have hln:∀(j:Nat) o',ops[j]? =Z o'->∃f,l[j]? =Z (o',f):=λj o' h=>by
  have h1:(l.map (·.1))[j]? =Z o':=by rw[hl];simpa using h
  rw[bf]at h1;cases hj:l[j]? with
  |none=>rw[hj]at h1;cases h1
  |some p=>rw[hj]at h1;obtain⟨a,b⟩:=p;simp at h1;subst h1;exact⟨b,rfl⟩
 have hnl:∀(j:Nat) o' f,l[j]? =Z (o',f)->ops[j]? =Z o':=λj o' f h=>by
  have h1:(l.map (·.1))[j]? =Z o':=by rw[bf,h];rfl
  rw[hl]at h1;simpa using h1
 obtain⟨f,hf⟩:=hln i o ho;have hord:∀(j:Nat) oj fj,j≠i->l[j]? =Z (oj,fj)->(listed.getD j aa=decide (j<i))\/
  (o.apart ops oj=M\/oj.apart ops o=M)/\(∀x∈f.wr,x∉fj.rd/\x∉fj.wr)/\(∀x∈fj.wr,x∉f.rd/\x∉f.wr):=by
  intro j oj fj hji hj;rcases bM j i with h|h
  .rcases L.pair j i oj fj o f h hj hf with hb|⟨h1,h2,h3⟩
   .left;rw[VO hcl ho hdeps hb];simp[h]
   .right;exact⟨.inr h1,λx q=>⟨h3 x q,λD=>(h2 x D).2 q⟩,λx q=>h2 x q⟩
  .have h:i<j:=by omega
   rcases L.pair i j o f oj fj h hf hj with hb|⟨h1,h2,h3⟩
   .left;have:listed.getD j aa=aa:=by
     cases q:listed.getD j aa with
     |false=>rfl
     |true=>have:=hcl.bef hb q;rw[hnf]at this;cases this
    rw[this];simp;omega
   .right;exact⟨.inl h1,λx q=>h2 x q,λx q=>⟨h3 x q,λD=>(h2 x D).2 q⟩⟩
 have s:∀j,(listed.setIfInBounds i M).getD j aa=if j=i then M else listed.getD j aa:=λj=>by
  by_cases h:i=j
  .subst h;simp[hlt]
  .rw[getD_set_ne aa h,aL (λe=>h e.symm)]
 have hlater:∀(j:Nat) oj fj,i<j->l[j]? =Z (oj,fj)->(listed.getD j aa=aa)\/((o.apart ops oj=M\/oj.apart ops o=M)/\(∀x∈f.wr,x∉fj.rd/\x∉fj.wr)):=by
  intro j oj fj hij hj;rcases hord j oj fj (by omega) hj with h|⟨h1,h2,_⟩
  .left;rw[h];simp;omega
  .right;exact⟨h1,h2⟩
 have hdd:∀{x y:Oper},(x.apart ops y=M\/y.apart ops x=M)->∀d,x.dst=Z d->y.dst≠Z d:=by
  intro x y h d hd he;rcases h with h|h
  .exact (Oper.apart_spec h).2.1 d hd he
  .exact (Oper.apart_spec h).2.1 d he hd
 have hlook:∀{x y:Oper},(x.apart ops y=M\/y.apart ops x=M)->∀d,y.dst=Z d->d∉x.looksAt ops:=by
  intro x y h d hd;rcases h with h|h
  .exact (Oper.apart_spec h).2.2 d hd
  .exact (Oper.apart_spec h).1 d hd
 have heL:∀t,t∈o.looksAt ops->J7 (λj=>listed.getD j aa) 0 l e0 t=J7 (λj=>decide (j<0+i)) 0 l e0 t:=λt ht=>by
  refine C' l 0 e0 e0 rfl λj oj fj hj hd=>?_
  simp only[bL];by_cases hji:j=i
  .subst hji;rw[hnf];simp
  .rcases hord j oj fj hji hj with h|⟨h,_⟩
   .exact h
   .exact dP ht (hlook h t hd)
 have hhL:∀t,t∈f.rd\/t∈f.wr->Bi (λj=>listed.getD j aa) 0 l h0 t=Bi (λj=>decide (j<0+i)) 0 l h0 t:=λt ht=>by
  refine C_ l 0 h0 h0 rfl λj oj fj hj hd=>?_
  simp only[bL];by_cases hji:j=i
  .subst hji;rw[hnf];simp
  .rcases hord j oj fj hji hj with h|⟨_,_,h⟩
   .exact h
   .rcases ht with ht|ht
    .exact dP ht (h t hd).1
    .exact dP ht (h t hd).2
 have hE':∀t,J7 (λj=>(listed.setIfInBounds i M).getD j aa) 0 l e0 t=if o.dst=Z t then Z f.val else J7 (λj=>listed.getD j aa) 0 l e0 t:=λt=>by
  by_cases hd:o.dst=Z t
  .rw[aU hd];refine OB l 0 i e0 o f hf hd (by simp[s]) λj o' f' hij hj A=>?_
   simp only[bL,s,aL (show ¬j=i by omega)];rcases hlater j o' f' hij hj with h|⟨h,_⟩
   .exact h
   .exact dP A (hdd h t hd)
  .rw[aL hd];refine C' l 0 e0 e0 rfl λj oj fj hj A=>?_
   simp only[bL,s];rw[aL];intro hji;subst hji;rw[hf]at hj;cases hj;exact hd A
 have F:Bi (λj=>(listed.setIfInBounds i M).getD j aa) 0 l h0=eE (Bi (λj=>listed.getD j aa) 0 l h0) f.wr f.nw:=by
  funext t;unfold eE;by_cases hd:t∈f.wr
  .rw[aU hd];refine OA l 0 i h0 o f hf hd (by simp[s]) λj o' f' hij hj A=>?_
   simp only[bL,s,aL (show ¬j=i by omega)];rcases hlater j o' f' hij hj with h|⟨_,h⟩
   .exact h
   .exact dP A (h t hd).2
  .rw[aL hd];refine C_ l 0 h0 h0 rfl λj oj fj hj A=>?_
   simp only[bL,s];rw[aL];intro hji;subst hji;rw[hf]at hj;cases hj;exact hd A
 obtain⟨φ,hm,hdom,hrep,henv,hdef,hsize⟩:=hst;have hfrN:∀n∈f.N,φ n=U:=λn hn=>by
  cases q:φ n with
  |none=>rfl
  |some k=>
   rcases hdom n k q with h|⟨j,oj,fj,hSj,hj,hnj⟩
   .rw[hfr i o f hf n hn]at h;cases h
   .have hji:j≠i:=by intro h;subst h;exact dP hSj (by simp only[hnf];simp)
    rcases bM j i with h|h
    .exact dP hn (L.names j i oj fj o f h hj hf n hnj)
    .exact dP hnj (L.names i j o f oj fj (by omega) hf hj n hn)
 have hdsz:∀d,o.dst=Z d->d<a.tmps.size:=λd hd=>by rw[hsize];exact hsz i o ho d hd
 have main:∀(v:Value) (φ':PM) (w':World),iT φ φ' (Bi (λj=>listed.getD j aa) 0 l h0) (eE (Bi (λj=>listed.getD j aa) 0 l h0) f.wr f.nw) w w'->
  (∀i k,φ' i=Z k->φ i=Z k\/i∈f.N)->qG φ' E (eE (Bi (λj=>listed.getD j aa) 0 l h0) f.wr f.nw) w'->
  cE φ' (tot E φ' (eE (Bi (λj=>listed.getD j aa) 0 l h0) f.wr f.nw)) w' f.val v->K (a.put o.dst v) w':=by
  intro v φ' w' m1 d1 r1 v1;refine hK _ _ ⟨φ',?_,?_,?_,?_,?_,?_⟩
  .rw[F];exact hm.trans m1
  .intro i' k h;rcases d1 i' k h with h|h
   .rcases hdom i' k h with h|⟨j,oj,fj,hSj,hj,hnj⟩
    .exact .inl h
    .refine .inr ⟨j,oj,fj,?_,hj,hnj⟩;show (listed.setIfInBounds i M).getD j aa=M;rw[s j];split
     .rfl
     .exact hSj
   .exact .inr ⟨i,o,f,(s i).trans (by simp),hf,h⟩
  .rw[F];exact r1
  .rw[F];intro t x q;rw[hE' t]at q;rw[Hj hdsz];by_cases hd:o.dst=Z t
   .rw[aU hd]at q ⊢;cases q;exact v1
   .rw[aL hd]at q ⊢;exact m1.keep (henv t x q)
  .rw[Hk];exact hdef
  .rw[OT];exact hsize
 have hstep:=hc.step 0 i o f hf;have hrun:gy P o (J7 (λj=>decide (j<0+i)) 0 l e0) (Bi (λj=>decide (j<0+i)) 0 l h0) f->o.wp P a w K Q:=by
  intro ht;refine Oq ?_ (ht φ E (Bi (λj=>listed.getD j aa) 0 l h0) w a (λt h=>hhL t (.inl h)) (λt h=>hhL t (.inr h)) ?_ hrep hfrN)
  .rintro a' w' ⟨v,φ',rfl,m1,d1,r1,v1⟩;exact main v φ' w' m1 d1 r1 v1
  .intro t ht' y hy;refine henv t y ?_;rw[heL t (jf _ (List.mem_filterMap.2 ⟨.tmp t,by simpa using ht',rfl⟩))];exact hy
 have hyield:∀(j t:Nat) (want b:Bool),o.guard=Z (j,want)->(ops[j]?).bind (·.dst)=Z t->J7 (λj=>decide (j<0+i)) 0 l e0 t=Z (.f (.raw (.bool b)))->iH o (yielded ops a.tmps)=(b==want):=by
  intro j t want b hg hj he;rw[<- heL t (ko _ (by rw[hg];simp[hj]))]at he;have h1:=henv t _ he;have h2:a.tmps.getD t undef= .bool b:=by
   generalize I:a.tmps.getD t undef=z at h1;cases h1 with
   |f h=>cases h;rfl
  have h3:a.tmps[t]? =Z (.bool b):=by
   rw[gA]at h2;cases I:a.tmps[t]? with
   |none=>rw[I]at h2;simp[undef]at h2
   |some z=>rw[I]at h2;simp at h2;rw[h2]
  unfold iH yielded;rw[hg];simp[hj,h3]
 unfold wpOp;simp only[ho];cases hstep with
 |run hg ht=>
  rw[aU (by unfold iH;rw[hg])];exact .inl (hrun ht)
 |runG j t want hg hj he ht=>
  rw[aU (by rw[hyield j t want want hg hj he];simp)];exact .inl (hrun ht)
 |skip j t want hg hj v he hv hf'=>
  have hnw:iH o (yielded ops a.tmps)=aa:=by
   rw[<- heL t (ko _ (by rw[hg];simp[hj]))]at he;have h1:=henv t _ he;have h2:a.tmps.getD t undef=v:=by
    generalize a.tmps.getD t undef=z at h1;cases h1 with
    |f h=>cases h;rfl
   unfold iH yielded;rw[hg];simp only[hj,aD];rw[gA]at h2;cases I:a.tmps[t]? with
   |none=>simp
   |some z=>
    rw[I]at h2;simp at h2;subst h2;cases z<;>simp at hv ⊢;exact hv
  rw[aL (by rw[hnw];simp)];subst hf';have hu:eE (Bi (λj=>listed.getD j aa) 0 l h0) rq.wr rq.nw=Bi (λj=>listed.getD j aa) 0 l h0:=by
   funext t;simp[eE,rq]
  refine main undef φ w ?_ (λ_ _ h=>.inl h) ?_ ?_
  .rw[hu];exact iT.refl _ _ _
  .rw[hu];exact hrep
  .exact .f (.raw _)
theorem WD {l:θ}:∀{i:Nat},l[i]? =Z aa->(l.set i M).countP id=l.countP id+1:=by
 induction l with
 |nil=>intro i h;simp at h
 |cons b l d=>
  intro i h;cases i with
  |zero=>simp at h;subst h;simp
  |succ i=>
   simp only[List.set_cons_succ,List.countP_cons];rw[d (by simpa using h)];omega
theorem N9 {l:θ} (h:l.length<=l.countP id):∀(j:Nat),j<l.length->l[j]? =Z M:=by
 have h1:l.countP id=l.length:=Nat.le_antisymm List.countP_le_length h;rw[List.countP_eq_length]at h1;intro j hj;rw[aw hj];simpa using h1 _ (qx hj)
theorem Ug {ops:Array Oper} {l:Y (Oper×Aq)} (q:NIP ops l) {listed:Array Bool} (hs:listed.size=ops.size) (hr:Gx .any ops listed=[]):
 ∀(n j:Nat),j<n->j<ops.size->listed.getD j aa=M:=by
 intro n;induction n with
 |zero=>intro j h;omega
 |succ n s=>
  intro j hj hjs;cases d:listed.getD j aa with
  |true=>rfl
  |false=>
   exfalso;have hmem:j∈Gx .any ops listed:=by
    refine mem_ready.2 ⟨?_,ops[j],hZ hjs,λe he hb=>?_⟩
    .have:j<listed.size:=by omega
     simp[this]at d ⊢;exact d
    .have h1:=q.edge j _ (hZ hjs) e he hb;exact s e.on (by omega) (by omega)
   rw[hr]at hmem;cases hmem
theorem Mq {P:Program} {ops:Array Oper} {l:Y (Oper×Aq)} {e0 e':EF} {h0 h':HF} {φ0:PM} {E:Nat->Prop} {w0:World} {a0:Act}
 (hl:l.map (·.1)=ops.toList) (hc:yP P ops l e0 h0 e' h') (s:NIP ops l) (hfr:∀(j:Nat) o f,l[j]? =Z (o,f)->∀n∈f.N,φ0 n=U)
 (hsz:∀(j:Nat) o,ops[j]? =Z o->∀d,o.dst=Z d->d<a0.tmps.size) {Q:Exit->Act->World->Prop}
 (A:∀a w,StP φ0 E e0 h0 w0 a0 l (λ_=>M) a w->Q .normal a w):
 ∀(fuel:Nat) (listed:Array Bool) (a:Act) (w:World),listed.size=ops.size->Ef ops listed->ops.size<=fuel+listed.toList.countP id->
  StP φ0 E e0 h0 w0 a0 l (λj=>listed.getD j aa) a w->wpAny P .any ops Q fuel listed a w:=by
 have hlen:l.length=ops.size:=by have:=iU ah hl;simpa using this
 have fin:∀(listed:Array Bool) (a:Act) (w:World),(∀j,j<ops.size->listed.getD j aa=M)->StP φ0 E e0 h0 w0 a0 l (λj=>listed.getD j aa) a w->Q .normal a w:=by
  intro listed a w hall hst;refine A a w ?_;have h1:=hc.final 0 (λj=>listed.getD j aa) (λj hj=>by simp only[bL];exact hall j (by omega));have h2:=hc.final 0 (λ_=>M) (λ_ _=>rfl);unfold StP at hst ⊢;rw[h1.1,h1.2]at hst;rw[h2.1,h2.2];obtain⟨φ,m,d,r⟩:=hst;refine ⟨φ,m,λi k h=>?_,r⟩;rcases d i k h with h|⟨j,o,f,_,hj,hn⟩
  .exact .inl h
  .exact .inr ⟨j,o,f,rfl,hj,hn⟩
 intro fuel;induction fuel with
 |zero=>
  intro listed a w hs hcl hcnt hst;have hall:∀j,j<ops.size->listed.getD j aa=M:=λj hj=>by
   have:=N9 (l:=listed.toList) (by simp only[im];omega) j (by simp only[im];omega);rw[cj]at this;rw[gA,this];rfl
  refine ⟨?_,fin listed a w hall hst⟩;cases hr:Gx .any ops listed with
  |nil=>rfl
  |cons i r=>
   have hi:i∈Gx .any ops listed:=by rw[hr];simp
   obtain⟨hun,o,q,_⟩:=mem_ready.1 hi;have hnf:=(sd hun).1;rw[hall i (cq.1 q).1]at hnf;cases hnf
 |succ fuel z=>
  intro listed a w hs hcl hcnt hst;refine ⟨λhr=>fin listed a w (λj hj=>Ug s hs hr (j+1) j (by omega) hj) hst,λi hi=>?_⟩;obtain⟨hun,o,q,hdeps⟩:=mem_ready.1 hi;obtain⟨hnf,hlt⟩:=sd hun;refine Yn hl hc s hfr hsz hcl hi (λa' w' h=>z _ a' w' ?_ ?_ ?_ h) hst
  .simpa using hs
  .intro j oj hoj hj e he hb;by_cases hji:i=j
   .subst hji;rw[q]at hoj;cases hoj;exact getD_set_true (hdeps e he hb)
   .rw[getD_set_ne aa hji]at hj;exact getD_set_true (hcl j oj hoj hj e he hb)
  .have h1:listed.toList[i]? =Z aa:=by
    rw[cj,hZ hlt];simp[hlt]at hnf;rw[hnf]
   rw[Array.toList_setIfInBounds,WD h1];omega
def ak8 (φ0:PM) (E:Nat->Prop) (e':EF) (h0 h':HF) (N:ι) (w0:World) (a0:Act) (a:Act) (w:World):Prop:=
 ∃φ,iT φ0 φ h0 h' w0 w/\(∀i k,φ i=Z k->φ0 i=Z k\/i∈N)/\qG φ E h' w/\Mx φ (tot E φ h') w e' a/\a.defers=a0.defers/\a.tmps.size=a0.tmps.size
theorem iT.drew {φ:PM} {h:HF} (w:World):iT φ φ h h w {w with drawn:=w.drawn+1}:=
 ⟨λ_ _ h=>h,⟨rfl,rfl,rfl,cB _,λ_ _ _=>rfl,λ_ _=>rfl⟩,λ_ _ h=>h⟩
theorem qG.moved {φ:PM} {E:Nat->Prop} {h:HF} {w w':World} (r:qG φ E h w) (m:iT φ φ h h w w') (hk:∀k,own φ h k->w'.heap[k]? =w.heap[k]?):qG φ E h w':=
 ⟨r.inj,λi b hb=>by
   obtain⟨k,h1,h2,o,h3,h4⟩:=r.at_ i b hb;exact⟨k,h1,h2,o,by rw[hk k ⟨i,b,hb,h1⟩];exact h3,h4.mono λ_ _ h=>m.keep h⟩,λk hk=>dx (r.el k hk) m.ext.size,
   λg cells hg=>m.keepF (r.gl g cells hg)⟩
theorem OR {P:Program} {ops:Array Oper} {l:Y (Oper×Aq)} {e0 e':EF} {h0 h':HF} {φ0:PM} {E:Nat->Prop} {w0:World} {a0:Act} {id:Nat} {draw:Bool}
 (hm:P.follows .mixedOrders=M) (hl:l.map (·.1)=ops.toList) (hc:yP P ops l e0 h0 e' h') (q:NIP ops l) (hfr:∀n∈l.flatMap (λp=>p.2.N),φ0 n=U)
 (hsz:∀(j:Nat) o,ops[j]? =Z o->∀d,o.dst=Z d->d<a0.tmps.size) (hrep:qG φ0 E h0 w0) (henv:Mx φ0 (tot E φ0 h0) w0 e0 a0) {Q:Exit->Act->World->Prop}
 (D:∀a w,ak8 φ0 E e' h0 h' (l.flatMap (λp=>p.2.N)) w0 a0 a w->Q .normal a w):(Code.region id ops draw).wp P Q a0 w0:=by
 have hfr':∀(j:Nat) o f,l[j]? =Z (o,f)->∀n∈f.N,φ0 n=U:=λj o f hj n hn=>hfr n (ui.2 ⟨(o,f),bg hj,hn⟩)
 have fin:∀a w,StP φ0 E e0 h0 w0 a0 l (λ_=>M) a w->Q .normal a w:=by
  rintro a w ⟨φ,m,d,r,en,F,sz⟩;have h2:=hc.final 0 (λ_=>M) (λ_ _=>rfl);rw[h2.2]at m r en;rw[h2.1]at en;refine D a w ⟨φ,m,λi k h=>?_,r,en,F,sz⟩;rcases d i k h with h|⟨j,o,f,_,hj,hn⟩
  .exact .inl h
  .exact .inr (ui.2 ⟨(o,f),bg hj,hn⟩)
 have st0:∀(w:World),iT φ0 φ0 h0 h0 w0 w->qG φ0 E h0 w->StP φ0 E e0 h0 w0 a0 l (λj=>(oa ops.size aa).getD j aa) a0 w:=by
  intro w m r;have e1:(λj=>(oa ops.size aa).getD j aa)=λ_=>aa:=by
   funext j;rw[gA,Array.getElem?_replicate];split<;>rfl
  rw[e1];have e2:J7 (λ_=>aa) 0 l e0=e0:=by funext t;rw[Bt];intros;rfl
  have e3:Bi (λ_=>aa) 0 l h0=h0:=by funext t;rw[Bs];intros;rfl
  refine ⟨φ0,by rw[e3];exact m,λ_ _ h=>.inl h,by rw[e3];exact r,?_,rfl,rfl⟩;rw[e2,e3];exact λt x A=>m.keep (henv t x A)
 have cl0:Ef ops (oa ops.size aa):=by
  intro j o I hj;rw[gA,Array.getElem?_replicate]at hj;split at hj<;>simp at hj
 cases draw with
 |true=>
  refine wp_region_any hm ?_;exact Mq hl hc q hfr' hsz fin ops.size _ a0 _ (by simp) cl0 (by omega) (st0 _ (iT.drew w0) (hrep.moved (iT.drew w0) λ_ _=>rfl))
 |false=>
  have hany:=Mq (E:=E) (w0:=w0) hl hc q hfr' hsz fin ops.size _ a0 w0 (by simp) cl0 (by omega) (st0 _ (iT.refl _ _ _) hrep);refine wp_region ?_;have key:∀(m k:Nat) (listed:Array Bool) (a:Act) (w:World),k+m=ops.size->listed.size=ops.size->(∀j,j<k->listed.getD j aa=M)->(∀j,k<=j->j<ops.size->listed.getD j M=aa)->
   wpAny P .any ops Q m listed a w->wpOps P ops Q (List.range' k m) a w:=by
   intro m;induction m with
   |zero=>intro k listed a w hk hs h1 h2 h;simpa[wpOps] using h.2
   |succ m z=>
    intro k listed a w hk hs h1 h2 h;rw[List.range'_succ,wpOps_cons];have hkr:k∈Gx .any ops listed:=by
     refine mem_ready.2 ⟨h2 k (cB _) (by omega),ops[k]'(by omega),hZ (by omega),λe he hb=>?_⟩;exact h1 _ (q.edge k _ (hZ (by omega)) e he hb)
    refine wpOp_mono (λa' w' h'=>z (k+1) (listed.setIfInBounds k M) a' w' (by omega) (by simpa using hs) ?_ ?_ h') (h.2 k hkr)
    .intro j hj;by_cases hjk:k=j
     .subst hjk;simp[show k<listed.size by omega]
     .rw[getD_set_ne aa hjk];exact h1 j (by omega)
    .intro j hj s;rw[getD_set_ne M (by omega)];exact h2 j (by omega) s
  have:=key ops.size 0 (oa ops.size aa) a0 w0 (by omega) (by simp) (by intro j hj;omega) (by
   intro j _ hj;rw[gA,Array.getElem?_replicate,aU hj];rfl) hany
  rwa [List.range_eq_range']
inductive PT (α:Type) where
 |leaf
 |node (v:Option α) (l r:PT α)
namespace PT
variable {α:Type}
def get:PT α->Nat->J α
 |leaf,_=>U
 |node v l r,n=>match n with
  |0=>v
  |m+1=>if ax (m%2) 0 then get l (m/2) else get r (m/2)
def MO:Nat->PT α->Nat->J α->PT α
 |0,t,_,_=>t
 |k+1,t,n,x=>match t with
  |leaf=>(match n with
   |0=>node x leaf leaf
   |m+1=>if ax (m%2) 0 then node U (MO k leaf (m/2) x) leaf else node U leaf (MO k leaf (m/2) x))
  |node v l r=>(match n with
   |0=>node x l r
   |m+1=>if ax (m%2) 0 then node v (MO k l (m/2) x) r else node v l (MO k r (m/2) x))
def set (t:PT α) (n:Nat) (x:J α):PT α:=MO (n+1) t n x
theorem yg:∀(k:Nat) (t:PT α) (n:Nat) (x:J α),n<k->∀i,(MO k t n x).get i=if i=n then x else t.get i
 |0,_,_,_,h,_=>dP h (vW _)
 |k+1,t,n,x,h,i=>by
  cases n with
  |zero=>
   cases t<;>cases i<;>simp[MO,get]
  |succ m=>
   have hm:m/2<k:=by have:=Nat.div_le_self m 2;omega
   cases t with
   |leaf=>
    simp only[MO];cases hb:ax (m%2) 0 with
    |true=>
     have q:m%2=0:=au hb;simp only[bE];cases i with
     |zero=>simp[get]
     |succ j=>
      simp only[get];cases hj:ax (j%2) 0 with
      |true=>
       have d:j%2=0:=au hj;simp only[bE];rw[yg k _ _ _ hm];by_cases he:j/2=m/2
       .rw[aU he,aU (by omega)]
       .rw[aL he,aL (by omega)];rfl
      |false=>
       have d:¬j%2=0:=gW hj;simp only[bG,dq];rw[aL (by omega)]
    |false=>
     have q:¬m%2=0:=gW hb;simp only[bG,dq];cases i with
     |zero=>simp[get]
     |succ j=>
      simp only[get];cases hj:ax (j%2) 0 with
      |true=>
       have d:j%2=0:=au hj;simp only[bE];rw[aL (by omega)]
      |false=>
       have d:¬j%2=0:=gW hj;simp only[bG,dq];rw[yg k _ _ _ hm];by_cases he:j/2=m/2
       .rw[aU he,aU (by omega)]
       .rw[aL he,aL (by omega)];rfl
   |node v l r=>
    simp only[MO];cases hb:ax (m%2) 0 with
    |true=>
     have q:m%2=0:=au hb;simp only[bE];cases i with
     |zero=>simp[get]
     |succ j=>
      simp only[get];cases hj:ax (j%2) 0 with
      |true=>
       have d:j%2=0:=au hj;simp only[bE];rw[yg k _ _ _ hm];by_cases he:j/2=m/2
       .rw[aU he,aU (by omega)]
       .rw[aL he,aL (by omega)]
      |false=>
       have d:¬j%2=0:=gW hj;simp only[bG,dq];rw[aL (by omega)]
    |false=>
     have q:¬m%2=0:=gW hb;simp only[bG,dq];cases i with
     |zero=>simp[get]
     |succ j=>
      simp only[get];cases hj:ax (j%2) 0 with
      |true=>
       have d:j%2=0:=au hj;simp only[bE];rw[aL (by omega)]
      |false=>
       have d:¬j%2=0:=gW hj;simp only[bG,dq];rw[yg k _ _ _ hm];by_cases he:j/2=m/2
       .rw[aU he,aU (by omega)]
       .rw[aL he,aL (by omega)]
theorem get_set (t:PT α) (n:Nat) (x:J α) (i:Nat):(t.set n x).get i=if i=n then x else t.get i:=yg (n+1) t n x (by omega) i
def mask {β:Type}:PT α->PT β->PT α
 |leaf,_=>leaf
 |node _ _ _,leaf=>leaf
 |node v l r,node u q d=>node (match u with|some _=>v|none=>U) (mask l q) (mask r d)
def mk:J α->PT α->PT α->PT α
 |none,leaf,leaf=>leaf
 |v,l,r=>node v l r
def only (m:Nat):Nat->Nat->PT α->PT α
 |_,_,leaf=>leaf
 |a,b,node v l r=>mk (if aO m b then v else U) (only m (2*a) (a+b) l) (only m (2*a) (2*a+b) r)
def exc (m:Nat):Nat->Nat->PT α->PT α
 |_,_,leaf=>leaf
 |a,b,node v l r=>mk (if aO m b then U else v) (exc m (2*a) (a+b) l) (exc m (2*a) (2*a+b) r)
def merge (m:Nat):Nat->Nat->PT α->PT α->PT α
 |a,b,leaf,t=>only m a b t
 |a,b,node v l r,leaf=>exc m a b (node v l r)
 |a,b,node v l r,node d s q=>mk (if aO m b then d else v) (merge m (2*a) (a+b) l s) (merge m (2*a) (2*a+b) r q)
def all (p:Nat->α->Bool):Nat->Nat->PT α->Bool
 |_,_,leaf=>M
 |a,b,node v l r=>(match v with|some x=>p b x|none=>M)&&all p (2*a) (a+b) l&&all p (2*a) (2*a+b) r
theorem get_all (p:Nat->α->Bool):∀(t:PT α) (a b i:Nat) (x:α),all p a b t=M->t.get i=Z x->p (a*i+b) x=M
 |leaf,_,_,_,_,_,h=>by simp[get]at h
 |node v l r,a,b,0,x,h,d=>by
  simp only[get]at d;subst d;simp only[all,ak]at h;rw[Nat.mul_zero,bL];exact h.1.1
 |node v l r,a,b,j+1,x,h,d=>by
  simp only[all,ak]at h;simp only[get]at d;cases hj:ax (j%2) 0 with
  |true=>
   have q:j%2=0:=au hj;simp only[hj,bE]at d;have key:=get_all p l _ _ _ x h.1.2 d;have:2*a*(j/2)+(a+b)=a*(j+1)+b:=by
    have e:j=2*(j/2):=by omega
    calc 2*a*(j/2)+(a+b)=a*(2*(j/2))+a+b:=by rw[Gz 2 a,Nat.mul_assoc];omega
     _=a*(j+1)+b:=by rw[<- e,Nat.mul_add];omega
   rw[this]at key;exact key
  |false=>
   have q:¬j%2=0:=gW hj;simp only[hj,bG,dq]at d;have key:=get_all p r _ _ _ x h.2 d;have:2*a*(j/2)+(2*a+b)=a*(j+1)+b:=by
    have e:j=2*(j/2)+1:=by omega
    have h2:a*(j+1)=a*(2*(j/2))+2*a:=by
     calc a*(j+1)=a*(2*(j/2)+2):=by rw[show j+1=2*(j/2)+2 from by omega]
      _=a*(2*(j/2))+2*a:=by rw[Nat.mul_add];omega
    have h3:2*a*(j/2)=a*(2*(j/2)):=by rw[Gz 2 a,Nat.mul_assoc]
    omega
   rw[this]at key;exact key
def dom:Nat->Nat->PT α->Nat->Nat
 |_,_,leaf,acc=>acc
 |a,b,node v l r,acc=>dom (2*a) (a+b) l (dom (2*a) (2*a+b) r (match v with|some _=>acc|||(1<<<b)|none=>acc))
def emp:PT α:=leaf
end PT
abbrev yO:=PT AV
abbrev nR:=PT uT
abbrev NW:=Y (Nat×uT)
def yO.put (e:yO):J Nat->AV->yO
 |none,_=>e
 |some d,x=>e.set d (Z x)
def jd:NW->HF
 |[],_=>U
 |(s,x)::r,t=>if ax s t then Z x else jd r t
theorem Yf (e:yO) (d:J Nat) (x:AV):BD e.get d x=(e.put d x).get:=by
 funext t;cases d with
 |none=>simp[BD,yO.put]
 |some d=>
  simp only[BD,yO.put,PT.get_set,af];by_cases h:d=t
  .simp[h]
  .rw[aL h,aL (λe=>h e.symm)]
def G3 (acc:ι) (s:Nat) (e:Edge):Nat:=if yQ .any e then (s|||2^e.on)|||acc.getD e.on 0 else s
def Jy:Y Oper->ι->ι
 |[],acc=>acc
 |o::r,acc=>Jy r (acc++[o.after.toList.foldl (G3 acc) 0])
theorem Jz {ops:Array Oper} {o:Oper} {k:Nat} {acc:ι} (q:ops[k]? =Z o) (z:∀(j:Nat) B,acc[j]? =Z B->∀i,B.testBit i=M->Bef ops j i):
 ∀(es:Y Edge) (s:Nat),(∀e∈es,e∈o.after)->(∀i,s.testBit i=M->Bef ops k i)->∀i,(es.foldl (G3 acc) s).testBit i=M->Bef ops k i
 |[],s,_,hs,i,hi=>hs i hi
 |e::r,s,he,hs,i,hi=>by
  refine Jz q z r (G3 acc s e) (λe' h'=>he e' (di _ h')) (λi hi=>?_) i hi;unfold G3 at hi;split at hi
  .rename_i hb;rw[bw,bw,iO,iO]at hi;rcases hi with (hi|hi)|hi
   .exact hs i hi
   .rw[Nat.testBit_two_pow]at hi;have:e.on=i:=by simpa using hi
    subst this;exact .one q (he e (eo ..)) hb
   .refine .more q (he e (eo ..)) hb ?_;rw[ay]at hi;cases d:acc[e.on]? with
    |none=>rw[d]at hi;simp at hi
    |some C=>rw[d]at hi;exact z _ C d i hi
  .exact hs i hi
theorem Mp {ops:Array Oper}:∀(rest:Y Oper) (acc:ι),(∀(j:Nat),∀o,rest[j]? =Z o->ops[acc.length+j]? =Z o)->
 (∀(j:Nat) B,acc[j]? =Z B->∀i,B.testBit i=M->Bef ops j i)->∀(j:Nat) B,(Jy rest acc)[j]? =Z B->∀i,B.testBit i=M->Bef ops j i
 |[],acc,_,d=>d
 |o::r,acc,q,d=>by
  refine Mp r _ (λj o' hj=>?_) ?_
  .rw[bY,cP,show acc.length+1+j=acc.length+(j+1) from by omega];exact q (j+1) o' (by simpa using hj)
  .intro j B hj i hi;rcases bM j acc.length with h|h
   .rw[bT h]at hj;exact d j B hj i hi
   .rw[b8 h]at hj;have s:j-acc.length=0:=by
     rcases rj (j-acc.length) with h0|h0
     .exact h0
     .rw[bJ (by simp;omega)]at hj;cases hj
    have hjl:j=acc.length:=by omega
    subst hjl;simp at hj;subst hj;have hoo:ops[acc.length]? =Z o:=by simpa using q 0 o rfl
    rw[<- Array.foldl_toList]at hi;exact Jz hoo d _ 0 (λe he=>by simpa using he) (λi hi=>by simp at hi) i hi
inductive Xh where
 |mv (x:Operand)
 |pick (c a b:Operand)
 |alloc (ty:TypeId) (z:ξ)
 |box (ty:TypeId) (x:Operand)
 |build (z:ξ) (parts:List (Nat×Nat×Operand))
 |bsl (ty:TypeId) (sz len:Nat) (z:ξ) (parts:List (Nat×Nat×Operand))
 |load (sz:Nat) (ag:Bool) (x:Operand)
 |store (sz:Nat) (x v:Operand)
 |nilc (x:Operand)
 |bin (op:BinOp) (x y:Operand)
 |eqs (neg:Bool) (ds:List TypeDesc) (x y:Operand)
 |isnil (neg:Bool) (x:Operand)
 |eqb (neg:Bool) (x y:Operand)
 |not (x:Operand)
 |conv (k:IntKind) (x:Operand)
 |mksl (ty:TypeId) (sz bytes:Nat) (z:ξ) (l c:Operand)
 |slc (sz:Nat) (x:Operand) (lo hi mx:Option Operand)
 |fad (off:Nat) (x:Operand)
 |fld (off sz:Nat) (ag:Bool) (x:Operand)
 |iad (sz:Nat) (x i:Operand)
 |iada (n sz:Nat) (x i:Operand)
 |idx (n sz:Nat) (ag:Bool) (x i:Operand)
 |ext (x:Operand) (i:Nat)
 |len (x:Operand)
 |lens (x:Operand)
 |lenm (x:Operand)
 |max (x y:Operand)
 |min (x y:Operand)
 |sidx (x i:Operand)
 |app (ty:TypeId) (sz bytes:Nat) (s x:Operand)
 |copy (sz:Nat) (d x:Operand)
 |clr (sz:Nat) (z:ξ) (x:Operand)
 |mkf (f:FuncId) (caps:List Operand)
 |mkm
 |lku (str ok:Bool) (z:Value) (x k:Operand)
 |mup (str:Bool) (x k v:Operand)
 |rng (x:Operand)
 |nxt (x:Operand)
 |bad
inductive SI where
 |op (s:Xh)
 |call (f:FuncId) (args:List Operand)
 |callv (x:Operand) (args:List Operand)
def VY (t:Nat):ι->Bool
 |[]=>aa
 |x::r=>ax x t||VY t r
def Ju:ξ->Bool
 |[]=>M
 |v::r=>v.oneCell'&&Ju r
def D5:Value->AV
 |.agg vs=>if Ju vs.toList then .agg (vs.toList.map λv=>.f (.raw v)) else .f (.raw (.agg vs))
 |v=>.f (.raw v)
def mA (e:yO):Operand->J AV
 |.tmp t=>e.get t
 |.const v=>Z (D5 v)
 |.func g=>Z (.clo g [])
 |.global g=>match G g with|some cells=>Z (.f (.ptr cells 0))|none=>U
def U9 (e:yO):Y Operand->J (Y AV)
 |[]=>Z []
 |x::xs=>match mA e x with|some y=>(match U9 e xs with|some d=>Z (y::d)|none=>U)|none=>U
structure zN where
 val:AV
 rd:ι
 wr:ι
 nw:NW
 N:ι
def zN.eff (r:zN):Aq:=⟨r.val,r.rd,r.wr,jd r.nw,r.N⟩
def rv (x:AV):J zN:=Z ⟨x,[],[],[],[]⟩
def raw (v:Value):AV:=.f (.raw v)
def pkV (ok:Bool) (v:AV) (b:Bool):AV:=match ok with|true=>.tup [v,raw (.bool b)]|false=>v
def wP:Y AV->J (Y FV)
 |[]=>Z []
 |.f x::r=>match wP r with|some l=>Z (x::l)|none=>U
 |_::_=>U
def ox (l:Y AV):BC:=match wP l with|some fs=>.fz fs|none=>.mx l
def LF (l:Y AV):AV:=match wP l with|some fs=>.f (.agg fs)|none=>.agg l
def splice {α:Type} (l:Y α) (off:Nat) (vs:Y α):Y α:=l.take off++vs++l.drop (off+vs.length)
def BC.toMx:BC->Y AV
 |.fz l=>l.map .f
 |.mx l=>l
 |_=>[]
def gh:Y AV->Bool
 |[]=>M
 |x::r=>x.isCell&&gh r
def BC.put (c:BC) (off:Nat) (vs:Y AV):J BC:=
 if c.isCells&&dN (off+vs.length) c.len&&gh vs then
  match c,wP vs with
  |.fz l,Z d=>Z (.fz (splice l off d))
  |c,_=>Z (.mx (splice c.toMx off vs))
 else U
def BC.sub? (c:BC) (off sz:Nat):Bool->J AV
 |false=>match sz with|1=>c.get off|_=>U
 |true=>match c with
  |.fz l=>if dN (off+sz) l.length then Z (.f (.agg ((l.drop off).take sz))) else U
  |.mx l=>if dN (off+sz) l.length then Z (.agg ((l.drop off).take sz)) else U
  |_=>U
def AV.cs:AV->Y AV
 |.agg l=>l
 |.f (.agg l)=>l.map .f
 |x=>[x]
def CR (h:nR) (sz:Nat) (ag:Bool):AV->J zN
 |.ptr id off=>match h.get id with
  |some b=>(match b.c.sub? off sz ag with|some v=>Z ⟨v,[id],[],[],[]⟩|none=>U)
  |none=>U
 |.f (.ptr cells off)=>(match (BC.fz cells).sub? off sz ag with|some v=>rv v|none=>U)
 |_=>U
def JB (h:nR) (sz:Nat) (v:AV):AV->J zN
 |.ptr id off=>match h.get id with
  |some b=>if v.cs.length==sz then (match b.c.put off v.cs with|some c=>Z ⟨raw undef,[id],[id],[(id,⟨b.ty,c⟩)],[]⟩|none=>U) else U
  |none=>U
 |_=>U
def yn (cells:Y AV) (e:yO):Y (Nat×Nat×Operand)->J (Y AV)
 |[]=>Z cells
 |(off,sz,x)::r=>match mA e x with
  |some v=>if v.cs.length==sz&&dN (off+sz) cells.length&&gh v.cs then yn (splice cells off v.cs) e r else U
  |none=>U
def cL (a b:Int):Bool:=decide (a<=b)
def fI (a b:Int):Bool:=decide (a<b)
def Ln (k:IntKind) (n:Int):Int:=
 match k with
 |.i64=>if cL (-9223372036854775808) n&&cL n 9223372036854775807 then n else oI .i64 n
 |.u8=>if cL 0 n&&cL n 255 then n else oI .u8 n
 |k=>oI k n
def nok:Int->Bool
 |.ofNat k=>ax k k
 |.negSucc k=>ax k k
theorem ahr (n:Int):nok n=M:=by cases n<;>exact rk _
def aZ (k:IntKind) (n:Int):Int:=bif nok n then Ln k n else 0
theorem GC (k:IntKind) (n:Int):aZ k n=Ln k n:=by unfold aZ;rw[ahr];rfl
def rJ (a b:ByteArray):Bool:=a.data.toList==b.data.toList
def sR (op:BinOp):Value->Value->J Value
 |.int k a,.int k' b=>if k==k' then
   match op with
   |.add=>Z (.int k (aZ k (a+b)))
   |.sub=>Z (.int k (aZ k (a-b)))
   |.mul=>Z (.int k (aZ k (a*b)))
   |.rem=>if b==0 then U else Z (.int k (a.tmod b))
   |.quo=>if b==0 then U else Z (.int k (aZ k (a.tdiv b)))
   |.eql=>Z (.bool (a==b))
   |.neq=>Z (.bool (a !=b))
   |.lss=>Z (.bool (fI a b))
   |.leq=>Z (.bool (cL a b))
   |.gtr=>Z (.bool (fI b a))
   |.geq=>Z (.bool (cL b a))
   |_=>U
  else U
 |.string a,.string b=>match op with
   |.eql=>Z (.bool (rJ a b))
   |.neq=>Z (.bool !(rJ a b))
   |_=>U
 |_,_=>U
def wE:TypeDesc->FV->FV->J Bool
 |.int _,.raw (.int k a),.raw (.int k' b)=>if k==k' then Z (a==b) else U
 |.bool,.raw (.bool a),.raw (.bool b)=>Z (a==b)
 |.string,.raw (.string a),.raw (.string b)=>Z (rJ a b)
 |_,_,_=>U
def oV:Y TypeDesc->Y FV->Y FV->J Bool
 |[],[],[]=>Z M
 |d::ds,x::xs,y::q=>match wE d x y with
  |some M=>oV ds xs q
  |some aa=>Z aa
  |none=>U
 |_,_,_=>U
def AV.row? (h:nR) (sz:Nat):AV->J (Y AV×Nat×ι)
 |.f (.sl cells n)=>if dN (n*sz) cells.length then Z ((cells.take (n*sz)).map .f,n,[]) else U
 |.f (.raw (.slice U 0 0))=>Z ([],0,[])
 |.emp=>Z ([],0,[])
 |.row id sz' n=>if sz'==sz then (match h.get id with|some b=>if b.c.isCells&&dN (n*sz) b.c.len then Z (b.c.toMx.take (n*sz),n,[id]) else U|none=>U) else U
 |.sl id off n=>match h.get id with|some b=>if b.c.isCells&&dN (off+n*sz) b.c.len then Z ((b.c.toMx.drop off).take (n*sz),n,[id]) else U|none=>U
 |_=>U
def AV.slen:AV->J Nat
 |.f (.sl _ n)=>Z n
 |.f (.raw (.slice _ n _))=>Z n
 |.emp=>Z 0
 |.row _ _ n=>Z n
 |.sl _ _ n=>Z n
 |_=>U
def be (n bytes:Nat):Bool:=dN n 1099511627776&&dN (n*bytes) 1099511627776
def repl (z:ξ):Nat->Y FV
 |0=>[]
 |n+1=>z.map .raw++repl z n
def sO:Value->Bool
 |.slice U 0 0=>M
 |_=>aa
def HV:AV->Bool
 |.emp=>M
 |.f (.raw v)=>sO v
 |_=>aa
def sM (k:Value):Y (Value×AV)->J (J AV)
 |[]=>Z U
 |(k',v)::r=>match sR .eql k k' with
  |some (.bool M)=>Z (Z v)
  |some (.bool aa)=>sM k r
  |_=>U
def xX (k:Value) (v:AV):Y (Value×AV)->J (Y (Value×AV))
 |[]=>Z [(k,v)]
 |(k',d)::r=>match sR .eql k k' with
  |some (.bool M)=>Z ((k,v)::r)
  |some (.bool aa)=>(match xX k v r with|some q=>Z ((k',d)::q)|none=>U)
  |_=>U
def told (n:Int):Y (Value×AV)->J AV
 |(.int .i64 k,v)::r=>if k=n then Z v else told n r
 |_=>U
def lD (n:Int) (y:AV):Y (Value×AV)->Y (Value×AV)
 |[]=>[]
 |p::r=>(p.1,match p.1 with|.int .i64 k=>if k=n then y else p.2|_=>p.2)::lD n y r
def x_:Bool->Value->Bool
 |false,.int _ _=>M
 |true,.string _=>M
 |_,_=>aa
def rnA (b:UInt8) (s:ByteArray) (p:Nat):Int:=bif eP b.toNat 128 then b.toNat else (xy s p).1
def wdA (b:UInt8) (s:ByteArray) (p:Nat):Nat:=bif eP b.toNat 128 then 1 else (xy s p).2
def ef (s:Xh) (e:yO) (h:nR) (nx:Nat):J zN:=
 match s with
 |.mv x=>match mA e x with|some v=>rv v|none=>U
 |.pick c a b=>match mA e c with
  |some (.f (.raw (.bool t)))=>(match mA e (if t then a else b) with|some v=>rv v|none=>U)
  |_=>U
 |.alloc ty z=>Z ⟨.ptr nx 0,[],[nx],[(nx,⟨ty,.fz (z.map .raw)⟩)],[nx]⟩
 |.box ty x=>match mA e x with
  |some v=>if gh v.cs then Z ⟨.ptr nx 0,[],[nx],[(nx,⟨ty,ox v.cs⟩)],[nx]⟩ else U
  |none=>U
 |.build z parts=>match yn (z.map raw) e parts with|some cs=>rv (LF cs)|none=>U
 |.bsl ty sz len z parts=>match yn ((repl z len).map .f) e parts with
  |some cs=>Z ⟨if len=0 then .emp else .row nx sz len,[],[nx],[(nx,⟨ty,ox cs⟩)],[nx]⟩
  |none=>U
 |.load sz ag x=>match mA e x with|some p=>CR h sz ag p|none=>U
 |.store sz x v=>match mA e x,mA e v with|some p,Z y=>JB h sz y p|_,_=>U
 |.nilc x=>match mA e x with
  |some (.ptr id off)=>rv (.ptr id off)
  |some (.f (.ptr cells off))=>rv (.f (.ptr cells off))
  |some (.clo g cap)=>rv (.clo g cap)
  |_=>U
 |.bin op x y=>match mA e x,mA e y with
  |some (.f (.raw u)),Z (.f (.raw v))=>(match sR op u v with|some r=>rv (raw r)|none=>U)
  |_,_=>U
 |.eqs neg ds x y=>match mA e x,mA e y with
  |some (.f (.agg a)),Z (.f (.agg b))=>(match oV ds a b with|some r=>rv (raw (.bool (r !=neg)))|none=>U)
  |_,_=>U
 |.eqb neg x y=>match mA e x,mA e y with
  |some (.f (.raw (.bool a))),Z (.f (.raw (.bool b)))=>rv (raw (.bool ((a==b) !=neg)))
  |_,_=>U
 |.isnil neg x=>match mA e x with
  |some (.row _ _ _)=>rv (raw (.bool neg))
  |some (.sl _ _ _)=>rv (raw (.bool neg))
  |some (.f (.sl _ (_+1)))=>rv (raw (.bool neg))
  |some (.f (.sl _ 0))=>rv .anyb
  |some .emp=>rv .anyb
  |some (.f (.raw v))=>if sO v then rv (raw (.bool !neg)) else U
  |_=>U
 |.not x=>match mA e x with|some (.f (.raw (.bool b)))=>rv (raw (.bool !b))|_=>U
 |.conv k x=>match mA e x with|some (.f (.raw (.int _ n)))=>rv (raw (.int k (aZ k n)))|_=>U
 |.mksl ty sz bytes z l c=>match mA e l,mA e c with
  |some (.f (.raw (.int _ a))),Z (.f (.raw (.int _ b)))=>
   if cL 0 a&&cL a b&&be b.toNat bytes then Z ⟨.row nx sz a.toNat,[],[nx],[(nx,⟨ty,.fz (repl z a.toNat)⟩)],[nx]⟩ else U
  |_,_=>U
 |.slc sz x lo hi mx=>match mA e x with
  |some v=>match lo,hi,mx with
   |none,Z (.const (.int _ 0)),Z (.const (.int _ 0))=>if v.slen.isSome then rv .emp else U
   |none,Z b,U=>match v,mA e b with
    |.row id sz' n,Z (.f (.raw (.int _ j)))=>if sz'==sz&&cL 0 j&&cL j n then (match h.get id with
     |some blk=>if blk.c.isCells&&dN (n*sz) blk.c.len then Z ⟨.row nx sz j.toNat,[id],[nx,id],[(nx,⟨blk.ty,ox (blk.c.toMx.take (j.toNat*sz))⟩)],[nx]⟩ else U
     |none=>U) else U
    |.f (.sl cells n),Z (.f (.raw (.int _ j)))=>if cL 0 j&&cL j n&&dN (n*sz) cells.length then rv (.f (.sl (cells.take (j.toNat*sz)) j.toNat)) else U
    |_,_=>U
   |some b,U,U=>match v,mA e b with
    |.row id sz' n,Z (.f (.raw (.int _ j)))=>if sz'==sz&&cL 0 j&&fI j n then rv (.sl id (j.toNat*sz) (n-j.toNat)) else U
    |.f (.sl cells n),Z (.f (.raw (.int _ j)))=>if cL 0 j&&cL j n&&dN (n*sz) cells.length then rv (.f (.sl ((cells.drop (j.toNat*sz)).take ((n-j.toNat)*sz)) (n-j.toNat))) else U
    |_,_=>U
   |none,Z b,Z b'=>match v,mA e b,mA e b' with
    |.f (.sl cells n),Z (.f (.raw (.int _ j))),Z (.f (.raw (.int _ q)))=>if decide (j=q)&&cL 0 j&&cL j n&&dN (n*sz) cells.length then rv (.ful (cells.take (j.toNat*sz)) j.toNat) else U
    |_,_,_=>U
   |_,_,_=>U
  |none=>U
 |.fad off x=>match mA e x with
  |some (.ptr id o)=>rv (.ptr id (o+off))
  |some (.f (.ptr cells o))=>rv (.f (.ptr cells (o+off)))
  |_=>U
 |.fld off sz ag x=>match mA e x with
  |some (.agg l)=>(match (BC.mx l).sub? off sz ag with|some v=>rv v|none=>U)
  |some (.f (.agg l))=>(match (BC.fz l).sub? off sz ag with|some v=>rv v|none=>U)
  |_=>U
 |.iad sz x i=>match mA e x,mA e i with
  |some v,Z (.f (.raw (.int _ j)))=>match v with
   |.row id sz' n=>if sz'==sz&&cL 0 j&&fI j n then rv (.ptr id (j.toNat*sz)) else U
   |.sl id off n=>if cL 0 j&&fI j n then rv (.ptr id (off+j.toNat*sz)) else U
   |.f (.sl cells n)=>if cL 0 j&&fI j n then rv (.f (.ptr cells (j.toNat*sz))) else U
   |_=>U
  |_,_=>U
 |.iada n sz x i=>match mA e x,mA e i with
  |some v,Z (.f (.raw (.int _ j)))=>if cL 0 j&&fI j n then (match v with
   |.ptr id off=>rv (.ptr id (off+j.toNat*sz))
   |.f (.ptr cells off)=>rv (.f (.ptr cells (off+j.toNat*sz)))
   |_=>U) else U
  |_,_=>U
 |.idx n sz ag x i=>match mA e x,mA e i with
  |some v,Z (.f (.raw (.int _ j)))=>if cL 0 j&&fI j n then (match v with
   |.agg l=>(match (BC.mx l).sub? (j.toNat*sz) sz ag with|some v=>rv v|none=>U)
   |.f (.agg l)=>(match (BC.fz l).sub? (j.toNat*sz) sz ag with|some v=>rv v|none=>U)
   |_=>U) else U
  |_,_=>U
 |.ext x i=>match mA e x with|some (.tup l)=>(match l[i]? with|some v=>rv v|none=>U)|_=>U
 |.len x=>match mA e x with
  |some v=>(match v.slen with|some n=>rv (raw (.int .i64 n))|none=>U)
  |none=>U
 |.lens x=>match mA e x with
  |some (.f (.raw (.string s)))=>rv (raw (.int .i64 s.data.toList.length))
  |_=>U
 |.lenm x=>match mA e x with
  |some (.mp id)=>(match h.get id with|some ⟨0,.mp es⟩=>Z ⟨raw (.int .i64 es.length),[id],[],[],[]⟩|_=>U)
  |_=>U
 |.max x y=>match mA e x,mA e y with
  |some (.f (.raw (.int k a))),Z (.f (.raw (.int _ b)))=>rv (raw (.int k (if fI a b then b else a)))
  |_,_=>U
 |.min x y=>match mA e x,mA e y with
  |some (.f (.raw (.int k a))),Z (.f (.raw (.int _ b)))=>rv (raw (.int k (if fI b a then b else a)))
  |_,_=>U
 |.sidx x i=>match mA e x,mA e i with
  |some (.f (.raw (.string s))),Z (.f (.raw (.int _ j)))=>if cL 0 j then (match s.data.toList[j.toNat]? with|some b=>rv (raw (.int .u8 b.toNat))|none=>U) else U
  |_,_=>U
 |.app ty sz bytes s x=>match mA e s,mA e x with
  |some b,Z y=>match y.row? h sz with
   |some (src,m,rd)=>match b with
    |.row id sz' n=>match h.get id with
     |some blk=>if sz'==sz&& !(VY id rd)&&blk.c.isCells&&dN (n*sz) blk.c.len&&blk.ty==ty&&be (n+m) bytes then
       Z ⟨.row nx sz (n+m),id::rd,[nx,id],[(nx,⟨ty,ox (blk.c.toMx.take (n*sz)++src)⟩)],[nx]⟩ else U
     |none=>U
    |.ful cells n=>if dN (n*sz) cells.length&&be (n+m) bytes then
      (if m==0 then Z ⟨.f (.sl cells n),rd,[],[],[]⟩ else Z ⟨.row nx sz (n+m),rd,[nx],[(nx,⟨ty,ox ((cells.take (n*sz)).map .f++src)⟩)],[nx]⟩) else U
    |b=>if HV b&&be m bytes then
      (if m==0 then Z ⟨b,rd,[],[],[]⟩ else Z ⟨.row nx sz m,rd,[nx],[(nx,⟨ty,ox src⟩)],[nx]⟩) else U
   |none=>U
  |_,_=>U
 |.copy sz d x=>match mA e d,mA e x with
  |some (.row id sz' n),Z y=>(match h.get id,y.row? h sz with
   |some blk,Z (src,m,rd)=>if sz'==sz&& !(VY id rd)&&dN (n*sz) blk.c.len then
     (match blk.c.put 0 (src.take (iM m n*sz)) with
     |some c=>Z ⟨raw (.int .i64 (iM m n)),id::rd,[id],[(id,⟨blk.ty,c⟩)],[]⟩
     |none=>U) else U
   |_,_=>U)
  |_,_=>U
 |.clr _ z x=>match mA e x with
  |some (.sl id off n)=>(match h.get id with
   |some blk=>if eP 0 n then (match blk.c.put off ((repl z n).map .f) with
    |some c=>Z ⟨.tup [],[id],[id],[(id,⟨blk.ty,c⟩)],[]⟩
    |none=>U) else U
   |none=>U)
  |_=>U
 |.mkf f caps=>match U9 e caps with|some l=>rv (.clo f l)|none=>U
 |.mkm=>Z ⟨.mp nx,[],[nx],[(nx,⟨0,.mp []⟩)],[nx]⟩
 |.lku str ok z x k=>match mA e x,mA e k with
  |some (.mp id),Z (.f (.raw key))=>(match h.get id with
   |some ⟨0,.mp es⟩=>if x_ str key then (match sM key es with|some (Z v)=>Z ⟨pkV ok v M,[id],[],[],[]⟩|some U=>Z ⟨pkV ok (raw z) aa,[id],[],[],[]⟩|none=>U) else U
   |some ⟨_+1,.mp es⟩=>(match key with
    |.int .i64 n=>if !str&&(!ok&&sO z) then (match told n es with|some v=>Z ⟨v,[id],[],[],[]⟩|none=>U) else U
    |_=>U)
   |_=>U)
  |_,_=>U
 |.mup str x k v=>match mA e x,mA e k,mA e v with
  |some (.mp id),Z (.f (.raw key)),Z y=>(match h.get id with
   |some ⟨0,.mp es⟩=>if x_ str key then (match xX key y es with|some es'=>Z ⟨raw undef,[id],[id],[(id,⟨0,.mp es'⟩)],[]⟩|none=>U) else U
   |some ⟨ty+1,.mp es⟩=>(match key with
    |.int .i64 n=>if str then U else Z ⟨raw undef,[id],[id],[(id,⟨ty+1,.mp (lD n y es)⟩)],[]⟩
    |_=>U)
   |_=>U)
  |_,_,_=>U
 |.rng x=>match mA e x with
  |some (.f (.raw (.string s)))=>Z ⟨.ptr nx 0,[],[nx],[(nx,⟨0,.it s 0⟩)],[nx]⟩
  |_=>U
 |.nxt x=>match mA e x with
  |some (.ptr id 0)=>(match h.get id with
   |some ⟨ty,.it s p⟩=>(match s.data.toList[p]? with
    |some b=>Z ⟨.tup [raw (.bool M),raw (.int .i64 p),raw (.int .i32 (rnA b s p))],[id],[id],[(id,⟨ty,.it s (p+wdA b s p)⟩)],[]⟩
    |none=>Z ⟨.tup [raw (.bool aa)],[id],[id],[(id,⟨ty,.it s p⟩)],[]⟩)
   |_=>U)
  |_=>U
 |.bad=>U
structure r8 where
 dst:Option Nat
 op:SI
 guard:Option (Nat×Bool)
inductive SC where
 |skip
 |reg (ops:List r8) (prs:List (Nat×Nat))
 |seq (a b:SC)
 |cond (c:Nat) (a b:SC)
 |block (id:Nat) (b:SC)
 |loop (b:SC)
 |exit (id:Nat)
 |ret
 |defer (f:FuncId) (caps:List Operand) (t:Nat)
 |bad
structure ak7 where
 val:AV
 h:nR
 nx:Nat
 wr:Nat
abbrev VB:=FuncId->Y AV->nR->Nat->J ak7
mutual
def AV.ids:AV->Nat->Nat
 |.ptr id _,acc=>acc|||(1<<<id)
 |.sl id _ _,acc=>acc|||(1<<<id)
 |.row id _ _,acc=>acc|||(1<<<id)
 |.mp id,acc=>acc|||(1<<<id)
 |.agg l,acc=>AV.idsL l acc
 |.tup l,acc=>AV.idsL l acc
 |.clo _ l,acc=>AV.idsL l acc
 |.f _,acc=>acc
 |.emp,acc=>acc
 |.anyb,acc=>acc
 |.ful _ _,acc=>acc
def AV.idsL:Y AV->Nat->Nat
 |[],acc=>acc
 |x::r,acc=>AV.idsL r (AV.ids x acc)
end
mutual
def AV.all (p:Nat->Bool):AV->Bool
 |.ptr id _=>p id
 |.sl id _ _=>p id
 |.row id _ _=>p id
 |.mp id=>p id
 |.agg l=>AV.allL p l
 |.tup l=>AV.allL p l
 |.clo _ l=>AV.allL p l
 |.f _=>M
 |.emp=>M
 |.anyb=>M
 |.ful _ _=>M
def AV.allL (p:Nat->Bool):Y AV->Bool
 |[]=>M
 |x::r=>AV.all p x&&AV.allL p r
end
def BC.ids:BC->Nat->Nat
 |.mx l,acc=>AV.idsL l acc
 |.mp es,acc=>AV.idsL (es.map (·.2)) acc
 |_,acc=>acc
def BC.all (p:Nat->Bool):BC->Bool
 |.mx l=>AV.allL p l
 |.mp es=>AV.allL p (es.map (·.2))
 |_=>M
def nR.all (p:Nat->Bool) (h:nR):Bool:=PT.all (λi b=>p i&&b.c.all p) 1 0 h
def UM:Nat->nR->Nat->Nat->Nat
 |0,_,_,Kg=>Kg
 |n+1,h,todo,Kg=>
  if ax todo 0 then Kg else
  match Nat.log2 todo with
  |id=>if aO Kg id then UM n h (todo ^^^ (1<<<id)) Kg else
   match h.get id with
   |some b=>UM n h (b.c.ids (todo ^^^ (1<<<id))) (Kg|||(1<<<id))
   |none=>UM n h (todo ^^^ (1<<<id)) Kg
section force
variable {α:Type}
def sh (n:Nat) (k:Nat->α):α:=match n with|0=>k 0|m+1=>k (m+1)
def frcI (n:Int) (k:Int->α):α:=match n with|.ofNat m=>sh m λm=>k (.ofNat m)|.negSucc m=>sh m λm=>k (.negSucc m)
def frcB (b:Bool) (k:Bool->α):α:=match b with|true=>k M|false=>k aa
def frcV (v:Value) (k:Value->α):α:=match v with
 |.int kd n=>frcI n λn=>k (.int kd n)
 |.bool b=>frcB b λb=>k (.bool b)
 |v=>k v
def ahy (x:FV) (k:FV->α):α:=match x with
 |.raw v=>frcV v λv=>k (.raw v)
 |.ptr cells off=>sh off λoff=>k (.ptr cells off)
 |.sl cells n=>sh n λn=>k (.sl cells n)
 |.agg l=>k (.agg l)
def Y3:Y FV->(Y FV->α)->α
 |[],k=>k []
 |x::r,k=>ahy x λx=>Y3 r λr=>k (x::r)
def ahx (x:FV) (k:FV->α):α:=match x with
 |.agg l=>Y3 l λl=>k (.agg l)
 |x=>ahy x k
def adv (x:AV) (k:AV->α):α:=match x with
 |.f x=>ahx x λx=>k (.f x)
 |.ptr id off=>sh id λid=>sh off λoff=>k (.ptr id off)
 |.sl id off n=>sh id λid=>sh off λoff=>sh n λn=>k (.sl id off n)
 |.row id sz n=>sh id λid=>sh sz λsz=>sh n λn=>k (.row id sz n)
 |.mp id=>sh id λid=>k (.mp id)
 |x=>k x
def PU:Y AV->(Y AV->α)->α
 |[],k=>k []
 |x::r,k=>adv x λx=>PU r λr=>k (x::r)
def ahz (x:AV) (k:AV->α):α:=match x with
 |.agg l=>PU l λl=>k (.agg l)
 |.tup l=>PU l λl=>k (.tup l)
 |.clo f l=>PU l λl=>k (.clo f l)
 |x=>adv x k
def frcC (c:BC) (k:BC->α):α:=match c with
 |.fz l=>Y3 l λl=>k (.fz l)
 |.mx l=>PU l λl=>k (.mx l)
 |.it s p=>sh p λp=>k (.it s p)
 |.mp es=>k (.mp es)
def PS {β:Type}:PT β->(PT β->α)->α
 |.leaf,k=>k .leaf
 |.node v l r,k=>(match v with
  |none=>λ(k:J β->α)=>k U
  |some x=>λk=>k (Z x)) λv=>PS l λl=>PS r λr=>k (.node v l r)
def R8 {β:Type}:Nat->PT β->Nat->J β->(PT β->α)->α
 |0,t,_,_,k=>k t
 |f+1,t,n,x,k=>match t with
  |.leaf=>(match n with
   |0=>k (.node x .leaf .leaf)
   |m+1=>if ax (m%2) 0 then sh (m/2) λq=>R8 f .leaf q x λu=>k (.node U u .leaf) else sh (m/2) λq=>R8 f .leaf q x λu=>k (.node U .leaf u))
  |.node v l r=>(match n with
   |0=>k (.node x l r)
   |m+1=>if ax (m%2) 0 then sh (m/2) λq=>R8 f l q x λu=>k (.node v u r) else sh (m/2) λq=>R8 f r q x λu=>k (.node v l u))
theorem No {β:Type}:∀(x:PT β) (k:PT β->α),PS x k=k x
 |.leaf,_=>rfl
 |.node v l r,k=>by cases v<;>simp only[PS,No l,No r]
end force
structure IS where
 e:yO
 h:nR
 nx:Nat
 wr:Nat
structure ae9 where
 val:AV
 rd:Nat
 wr:Nat
 h:nR
 nx:Nat
def bits:ι->Nat->Nat
 |[],acc=>acc
 |x::r,acc=>bits r (acc|||(1<<<x))
def ael {α:Type} (h:nR) (nw:NW):ι->(nR->α)->α
 |[],k=>k h
 |i::r,k=>match jd nw i with
  |none=>R8 (i+1) h i U λh=>ael h nw r k
  |some ⟨ty,c⟩=>frcC c λc=>R8 (i+1) h i (Z ⟨ty,c⟩) λh=>ael h nw r k
def adz (call:VB) (f:FuncId) (args:Y AV) (h:nR) (nx:Nat):J ae9:=
 sh (UM 1000000 h (AV.idsL args 0) 0) λids=>PS (PT.only ids 1 0 h) λhc=>
 if AV.allL (eP · nx) args&&nR.all (eP · nx) hc then
  match call f args hc nx with
  |some ⟨val,h',nx',wr⟩=>ahz val λval=>sh nx' λnx'=>sh wr λwr=>PS (PT.merge wr 1 0 h h') λhm=>Z ⟨val,ids,wr,hm,nx'⟩
  |none=>U
 else U
def opA (call:VB) (o:SI) (e:yO) (h:nR) (nx:Nat):J ae9:=
 match o with
 |.call f args=>match U9 e args with|some l=>adz call f l h nx|none=>U
 |.callv x args=>match mA e x,U9 e args with|some (.clo f cap),Z l=>adz call f (l++cap) h nx|_,_=>U
 |.op o=>match ef o e h nx with
  |some ⟨val,rd,wr,nw,N⟩=>ahz val λval=>sh (bits rd 0) λrd=>sh (bits wr 0) λd=>sh (nx+N.length) λnx'=>ael h nw wr λh=>Z ⟨val,rd,d,h,nx'⟩
  |none=>U
def ahf (e:yO):J (Nat×Bool)->J Bool
 |none=>Z M
 |some (t,want)=>match e.get t with
  |some (.f (.raw (.bool b)))=>Z (b==want)
  |some (.f (.raw (.tuple _)))=>Z aa
  |_=>U
def aep {α:Type} (e:yO) (dst:J Nat) (v:AV) (k:yO->α):α:=match dst with
 |none=>k e
 |some d=>R8 (d+1) e d (Z v) k
structure Z_ where
 rd:Nat
 wr:Nat
def Sb (call:VB):Y r8->IS->J (IS×Y Z_)
 |[],s=>Z (s,[])
 |o::r,⟨e,h,nx,wr⟩=>
  match ahf e o.guard with
  |some M=>(match opA call o.op e h nx with
   |some ⟨val,rd,w,h',nx'⟩=>aep e o.dst val λe'=>sh (wr|||w) λwr'=>(match Sb call r ⟨e',h',nx',wr'⟩ with
    |some (s',fs)=>Z (s',⟨rd,w⟩::fs)
    |none=>U)
   |none=>U)
  |some aa=>aep e o.dst (raw undef) λe'=>(match Sb call r ⟨e',h,nx,wr⟩ with
   |some (s',fs)=>Z (s',⟨0,0⟩::fs)
   |none=>U)
  |none=>U
def Wk:Y Z_->Nat->J Z_
 |[],_=>U
 |f::_,0=>Z f
 |_::r,n+1=>Wk r n
def CC (a b:Nat):Bool:=ax (a&&&b) 0
def Ey (fs:Y Z_):Y (Nat×Nat)->Bool
 |[]=>M
 |(i,j)::r=>(match Wk fs i,Wk fs j with
  |some a,Z b=>CC a.wr b.rd&&CC a.wr b.wr&&CC b.wr a.rd
  |_,_=>aa)&&Ey fs r
inductive Ex where
 |normal
 |exit (id:Nat)
 |ret
def adt (body:IS->J (Ex×IS)) (e0:yO):Nat->IS->J (Ex×IS)
 |0,_=>U
 |n+1,s=>match body s with
  |some (.normal,⟨e,h,nx,wr⟩)=>PS (PT.mask e e0) λe=>adt body e0 n ⟨e,h,nx,wr⟩
  |r=>r
def run (call:VB) (inert:FuncId->Bool) (fuel:Nat):SC->IS->J (Ex×IS)
 |.skip,s=>Z (.normal,s)
 |.reg ops prs,s=>match Sb call ops s with
  |some (s',fs)=>if Ey fs prs then Z (.normal,s') else U
  |none=>U
 |.seq a b,s=>match run call inert fuel a s with
  |some (.normal,s')=>run call inert fuel b s'
  |r=>r
 |.cond c a b,s=>match s.e.get c with
  |some (.f (.raw (.bool M)))=>run call inert fuel a s
  |some (.f (.raw (.bool aa)))=>run call inert fuel b s
  |_=>U
 |.block id b,s=>match run call inert fuel b s with
  |some (.exit i,s')=>if ax i id then Z (.normal,s') else Z (.exit i,s')
  |r=>r
 |.loop b,s=>adt (run call inert fuel b) s.e fuel s
 |.exit id,s=>Z (.exit id,s)
 |.ret,s=>Z (.ret,s)
 |.defer f caps t,⟨e,h,nx,wr⟩=>match U9 e caps with
  |some l=>if inert f then aep e (Z t) (.clo f l) λe'=>Z (.normal,⟨e',h,nx,wr⟩) else U
  |none=>U
 |.bad,_=>U
inductive RV where
 |tmp (t:Nat)
 |cell (a:Nat) (sz:Nat) (ag:Bool)
structure SF where
 code:SC
 res:List RV
 nt:Nat
def C8:Y AV->AV
 |[x]=>x
 |l=>.tup l
def af8:Value->Value->Bool
 |.bool a,.bool b=>a==b
 |.int k a,.int k' b=>k==k'&&a==b
 |.string a,.string b=>rJ a b
 |.slice U n c,.slice U d c'=>ax n d&&ax c c'
 |.pointer U,.pointer U=>M
 |.tuple a,.tuple b=>a.isEmpty&&b.isEmpty
 |_,_=>aa
def eY (P:Program) (t:TypeId):J Nat:=(P.info? t).map (·.size)
def D_ (P:Program) (t:TypeId):J Nat:=(P.info? t).map (·.bytes)
def sv (P:Program) (t:TypeId):J ξ:=((P.info? t).bind (·.zero)).map (·.cells.toList)
def CS (P:Program) (t:TypeId):J Bool:=(P.underlying t).map λ|.struct _=>M|.array _ _=>M|_=>aa
def zV (P:Program) (t:TypeId):J TypeId:=match P.underlying t with|some (.slice e)=>Z e|_=>U
def Ax (P:Program) (t:TypeId) (i:Nat):J (Nat×Nat):=match P.underlying t with
 |some (.struct fs)=>(fs[i]?).bind λf=>(eY P f.type).map (f.offset,·)
 |some (.array _ el)=>(eY P el).map λs=>(i*s,s)
 |some (.slice el)=>(eY P el).map λs=>(i*s,s)
 |_=>U
def v8 (P:Program) (t:TypeId):Y (Nat×Operand)->J (Y (Nat×Nat×Operand))
 |[]=>Z []
 |(i,x)::r=>match Ax P t i,v8 P t r with|some (o,s),Z l=>Z ((o,s,x)::l)|_,_=>U
def mC (z:ξ):Bool:=z.all λv=>v.oneCell'
def Hn:TypeDesc->Bool
 |.int _=>M
 |.bool=>M
 |.string=>M
 |_=>aa
def ru (P:Program):Nat→Y Field→J (Y TypeDesc)
 |_,[]=>Z []
 |k,f::r=>match P.underlying f.type,ru P (k+1) r with
  |some d,Z ds=>if f.name != "_" &&f.offset==k&&Hn d then Z (d::ds) else U
  |_,_=>U
def Yj (P:Program) (t:TypeId):J (Y TypeDesc):=match P.underlying t with
 |some (.struct fs)=>if P.stoodInHeld t then U else ru P 0 fs.toList
 |_=>U
def Q0 (P:Program) (c:Call):J Xh:=
 match c.callee with
 |.builtin .len=>(match c.args.toList,c.argTypes.toList with
  |[x],[t]=>(match P.underlying t with
   |some (.slice _)=>Z (.len x)
   |some .string=>Z (.lens x)
   |some (.map _ _)=>Z (.lenm x)
   |_=>U)
  |_,_=>U)
 |.builtin .max=>(match c.args.toList with
  |[x,y]=>Z (.max x y)
  |_=>U)
 |.builtin .min=>(match c.args.toList with
  |[x,y]=>Z (.min x y)
  |_=>U)
 |.builtin .copy=>(match c.args.toList,c.argTypes.toList with
  |[d,x],[t,u]=>(match zV P t,zV P u with
   |some el,Z _=>(eY P el).bind λsz=>if sz !=0 then Z (.copy sz d x) else U
   |_,_=>U)
  |_,_=>U)
 |.builtin .clear=>(match c.args.toList,c.argTypes.toList with
  |[x],[t]=>(zV P t).bind λel=>(sv P el).bind λz=>(eY P el).bind λsz=>if mC z&&z.length==sz&&sz !=0 then Z (.clr sz z x) else U
  |_,_=>U)
 |.builtin .append=>(match c.args.toList,c.argTypes.toList with
  |[s,x],[t,u]=>(match zV P t,zV P u with
   |some el,Z _=>(eY P el).bind λsz=>(D_ P el).bind λb=>(sv P el).bind λz=>if sz !=0&&z.length==sz then Z (.app el sz b s x) else U
   |_,_=>U)
  |_,_=>U)
 |_=>U
def dk (P:Program):Op->J Xh
 |.move x=>Z (.mv x)
 |.assign x=>Z (.mv x)
 |.pick c a b=>Z (.pick c a b)
 |.alloc t=>(sv P t).bind λz=>if mC z then Z (.alloc t z) else U
 |.box t x=>Z (.box t x)
 |.build t ps=>match P.underlying t with
  |some (.struct fs)=>(sv P t).bind λz=>if mC z&&(fs.toList.all λf=>(eY P f.type).isSome) then (v8 P t ps.toList).map (.build z) else U
  |some (.array _ el)=>(sv P t).bind λz=>if mC z&&(eY P el).isSome then (v8 P t ps.toList).map (.build z) else U
  |_=>U
 |.buildSlice t n ps=>(zV P t).bind λel=>(sv P el).bind λz=>(eY P el).bind λsz=>if mC z&&z.length==sz&&dN (n*sz) 65536&&sz !=0 then (v8 P t ps.toList).map (.bsl el sz n z) else U
 |.load t x=>(eY P t).bind λsz=>(CS P t).map λag=>.load sz ag x
 |.store t x v=>(eY P t).map λsz=>.store sz x v
 |.nilCheck x=>Z (.nilc x)
 |.binOp op t x y _=>match P.underlying t with
  |some (.int _)|some .string=>Z (.bin op x y)
  |some .bool=>(match op with|.eql=>Z (.eqb aa x y)|.neq=>Z (.eqb M x y)|_=>U)
  |some (.slice _)=>(match op,y with
   |.eql,.const (.slice U 0 0)=>Z (.isnil aa x)
   |.neq,.const (.slice U 0 0)=>Z (.isnil M x)
   |_,_=>U)
  |some (.struct _)=>(Yj P t).bind λds=>(match op with|.eql=>Z (.eqs aa ds x y)|.neq=>Z (.eqs M ds x y)|_=>U)
  |_=>U
 |.unOp .not _ x=>Z (.not x)
 |.unOp .neg t x=>match P.underlying t with|some (.int k)=>Z (.bin .sub (.const (.int k 0)) x)|_=>U
 |.convert s d x=>match P.underlying s,P.underlying d with|some (.int _),Z (.int k)=>Z (.conv k x)|_,_=>U
 |.makeSlice t l c=>(zV P t).bind λel=>(sv P el).bind λz=>(eY P el).bind λsz=>(D_ P el).bind λb=>if mC z&&z.length==sz&&sz !=0 then Z (.mksl el sz b z l c) else U
 |.slice t x lo hi mx=>(zV P t).bind λel=>(eY P el).map λsz=>.slc sz x lo hi mx
 |.fieldAddr t x k=>match P.underlying t with
  |some (.struct fs)=>(fs[k]?).bind λf=>(eY P f.type).bind λsz=>if sz !=0 then Z (.fad f.offset x) else U
  |_=>U
 |.field t x k=>match P.underlying t with
  |some (.struct fs)=>(fs[k]?).bind λf=>(eY P f.type).bind λsz=>(CS P f.type).map λag=>.fld f.offset sz ag x
  |_=>U
 |.indexAddr t x i=>match P.underlying t with
  |some (.slice el)=>(eY P el).map λsz=>.iad sz x i
  |some (.array n el)=>(eY P el).map λsz=>.iada n sz x i
  |_=>U
 |.index t x i=>match P.underlying t with
  |some (.array n el)=>(eY P el).bind λsz=>(CS P el).map λag=>.idx n sz ag x i
  |some .string=>Z (.sidx x i)
  |_=>U
 |.extract x i=>Z (.ext x i)
 |.makeFunc (.func f) first caps=>if first.isEmpty then Z (.mkf f caps.toList) else U
 |.makeMap t U=>match P.underlying t with|some (.map _ _)=>Z .mkm|_=>U
 |.lookup t x k ok=>match P.underlying t with
  |some (.map q el)=>(match P.underlying q,(P.info? el).bind (·.zero) with
   |some (.int _),Z z=>if z.oneCell' then Z (.lku aa ok z x k) else U
   |some .string,Z z=>if z.oneCell' then Z (.lku M ok z x k) else U
   |_,_=>U)
  |_=>U
 |.mapUpdate t m k v=>match P.underlying t with
  |some (.map q _)=>(match P.underlying q with
   |some (.int _)=>Z (.mup aa m k v)
   |some .string=>Z (.mup M m k v)
   |_=>U)
  |_=>U
 |.range t x=>match P.underlying t with|some .string=>Z (.rng x)|_=>U
 |.next x M=>Z (.nxt x)
 |.call c=>Q0 P c
 |_=>U
def NY:Op->J SI
 |.call c=>(match c.callee with
  |.value (.func f)=>Z (.call f c.args.toList)
  |.value (.tmp t)=>Z (.callv (.tmp t) c.args.toList)
  |_=>U)
 |_=>U
def xx (P:Program) (op:Op):SI:=match NY op with
 |some i=>i
 |none=>(match dk P op with|some s=>.op s|none=>.op .bad)
def Xh.still:Xh->Bool
 |.mv _|.pick _ _ _|.build _ _|.nilc _|.bin _ _ _|.eqs _ _ _ _|.isnil _ _|.eqb _ _ _|.not _|.conv _ _|.fad _ _|.fld _ _ _ _|.iad _ _ _|.iada _ _ _ _|.idx _ _ _ _ _|.ext _ _|.max _ _|.min _ _|.sidx _ _|.mkf _ _|.bad=>M
 |_=>aa
def SI.still:SI->Bool
 |.op s=>s.still
 |_=>aa
def rI (P:Program) (ops:Array Oper):Y Oper->J (Y r8)
 |[]=>Z []
 |o::r=>match rI P ops r with
  |some l=>(match o.guard with
   |none=>Z (⟨o.dst,xx P o.op,U⟩::l)
   |some (j,want)=>(match (ops[j]?).bind (·.dst) with
    |some t=>Z (⟨o.dst,xx P o.op,Z (t,want)⟩::l)
    |none=>U))
  |none=>U
def LA (ops:Array Oper) (l:Y r8):J (Y (Nat×Nat)):=
 let B:=Jy ops.toList []
 if (fd ops.size).all λj=>((ops[j]?).all λoj=>oj.after.toList.all λe=> !yQ .any e||decide (e.on<j))&&
     (fd j).all λi=>aO (B.getD j 0) i||(match ops[i]?,ops[j]? with|some oi,Z oj=>oi.apart ops oj|_,_=>aa)
 then Z ((fd ops.size).flatMap λj=>(fd j).filterMap λi=>
  if aO (B.getD j 0) i||(match l[i]?,l[j]? with|some a,Z b=>a.op.still||b.op.still|_,_=>aa) then U else Z (i,j))
 else U
def CE (ops:Array Oper) (d:Bool):J (FuncId×Y Operand×Nat):=match ops.toList,d with
 |[p,q],aa=>(match p.op,p.guard,p.dst,q.op,q.guard,q.dst with
  |.makeFunc (.func f) first caps,U,Z t,.defer c,U,U=>(match c.callee,c.args.toList with
   |.value (.tmp t'),[]=>if ax t t'&&first.isEmpty then Z (f,caps.toList,t) else U
   |_,_=>U)
  |_,_,_,_,_,_=>U)
 |_,_=>U
def ci (P:Program) (nt:Nat):Code->SC
 |.skip=>.skip
 |.region _ ops q=>if ops.toList.all λo=>match o.dst with|some d=>decide (d<nt)|none=>M then
   (match CE ops q with
   |some (f,caps,t)=>.defer f caps t
   |none=>(match rI P ops ops.toList with
    |some l=>(match LA ops l with|some prs=>.reg l prs|none=>.bad)
    |none=>.bad)) else .bad
 |.seq a b=>.seq (ci P nt a) (ci P nt b)
 |.cond (.tmp c) a b=>.cond c (ci P nt a) (ci P nt b)
 |.cond (.const (.bool M)) a _=>ci P nt a
 |.cond (.const (.bool aa)) _ b=>ci P nt b
 |.block id b=>.block id (ci P nt b)
 |.loop b=>.loop (ci P nt b)
 |.exit id=>.exit id
 |.ret=>.ret
 |_=>.bad
def uD (P:Program):Y ResultVar->J (Y RV)
 |[]=>Z []
 |.tmp t::r=>match uD P r with|some l=>Z (.tmp t::l)|none=>U
 |.cell a t::r=>match uD P r,eY P t,CS P t with|some l,Z sz,Z ag=>Z (.cell a sz ag::l)|_,_,_=>U
def yH (P:Program) (f:FuncId):J SF:=
 match P.funcs[f]? with
 |some fn=>if fn.name== "runtime.NumGoroutine" then U else (match fn.body,uD P fn.results.toList with
  |some c,Z r=>Z ⟨ci P fn.ntmps c,r,fn.ntmps⟩
  |_,_=>U)
 |none=>U
inductive Xp where
 |mk (op n:Int) (name:ζ) (l:List Xp)
inductive Sx where
 |mk (op line:Int) (name arg:ζ) (index:List Xp) (expr:Xp) (body els:List Sx)
def Xp.op:Xp->Int|.mk a _ _ _=>a
def Xp.n:Xp->Int|.mk _ a _ _=>a
def Xp.name:Xp->ζ|.mk _ _ a _=>a
def Xp.l:Xp->Y Xp|.mk _ _ _ a=>a
def Sx.op:Sx->Int|.mk a _ _ _ _ _ _ _=>a
def Sx.line:Sx->Int|.mk _ a _ _ _ _ _ _=>a
def Sx.name:Sx->ζ|.mk _ _ a _ _ _ _ _=>a
def Sx.arg:Sx->ζ|.mk _ _ _ a _ _ _ _=>a
def Sx.index:Sx->Y Xp|.mk _ _ _ _ a _ _ _=>a
def Sx.expr:Sx->Xp|.mk _ _ _ _ _ a _ _=>a
def Sx.body:Sx->Y Sx|.mk _ _ _ _ _ _ a _=>a
def Sx.els:Sx->Y Sx|.mk _ _ _ _ _ _ _ a=>a
inductive Ty where
 |int (k:IntKind)
 |bool
 |str
 |sl (t:Ty)
 |st (t:Ty)
 |pr (a b:Ty)
 |un
 |ex
 |sm
 deriving DecidableEq
@[reducible] def Ty.den:Ty->Type
  |.int _=>Int
  |.bool=>Bool
  |.str=>ζ
  |.sl t=>Y t.den
  |.st t=>t.den
  |.pr a b=>a.den×b.den
  |.un=>Unit
  |.ex=>Xp
  |.sm=>Sx
def Ty.size:Ty->Nat
 |.st t=>t.size
 |.pr a b=>a.size+b.size
 |.un=>0
 |.ex=>4
 |.sm=>11
 |_=>1
def Ty.zero:(t:Ty)->t.den
 |.int _=>(0:Int)
 |.bool=>aa
 |.str=>[]
 |.sl _=>[]
 |.st t=>t.zero
 |.pr a b=>(a.zero,b.zero)
 |.un=>()
 |.ex=>.mk 0 0 [] []
 |.sm=>.mk 0 0 [] [] [] (.mk 0 0 [] []) [] []
def Ty.one:Ty->Bool
 |.int _=>M
 |.bool=>M
 |.str=>M
 |.sl _=>M
 |_=>aa
def LZ:Ty:=.pr (.int .i64) (.pr (.int .i64) (.pr .str (.sl .ex)))
def Lv:Ty:=.pr (.int .i64) (.pr (.int .i64) (.pr .str (.pr .str (.pr (.sl .ex) (.pr .ex (.pr (.sl .sm) (.sl .sm)))))))
def MH (e:Xp):LZ.den:=(e.op,e.n,e.name,e.l)
def d8 (x:LZ.den):Xp:=.mk x.1 x.2.1 x.2.2.1 x.2.2.2
def MG (e:Sx):Lv.den:=(e.op,e.line,e.name,e.arg,e.index,e.expr,e.body,e.els)
def ov (x:Lv.den):Sx:=.mk x.1 x.2.1 x.2.2.1 x.2.2.2.1 x.2.2.2.2.1 x.2.2.2.2.2.1 x.2.2.2.2.2.2.1 x.2.2.2.2.2.2.2
mutual
def vB:Xp->Y FV
 |.mk op n name l=>[.raw (.int .i64 op),.raw (.int .i64 n),.raw (.string ⟨name.toArray⟩),.sl (Iz l) l.length]
def Iz:Y Xp->Y FV
 |[]=>[]
 |x::r=>vB x++Iz r
end
mutual
def xa:Sx->Y FV
 |.mk op line name arg index expr body els=>[.raw (.int .i64 op),.raw (.int .i64 line),.raw (.string ⟨name.toArray⟩),.raw (.string ⟨arg.toArray⟩),.sl (Iz index) index.length]++vB expr++[.sl (Iy body) body.length,.sl (Iy els) els.length]
def Iy:Y Sx->Y FV
 |[]=>[]
 |x::r=>xa x++Iy r
end
def bO:(T:Ty)->T.den->Y FV
 |.int k,n=>[.raw (.int k n)]
 |.bool,b=>[.raw (.bool b)]
 |.str,s=>[.raw (.string ⟨s.toArray⟩)]
 |.sl t,xs=>[.sl (List.flatMap (bO t) xs) (ah xs)]
 |.st t,v=>bO t v
 |.pr a b,v=>bO a v.1++bO b v.2
 |.un,_=>[]
 |.ex,v=>vB v
 |.sm,v=>xa v
def gg:(T:Ty)->T.den->FV
 |.int k,n=>.raw (.int k n)
 |.bool,b=>.raw (.bool b)
 |.str,s=>.raw (.string ⟨s.toArray⟩)
 |.sl t,xs=>.sl (List.flatMap (bO t) xs) (ah xs)
 |.st t,v=>.agg (bO t v)
 |.pr a b,v=>.agg (bO a v.1++bO b v.2)
 |.un,_=>.agg []
 |.ex,v=>.agg (vB v)
 |.sm,v=>.agg (xa v)
def L2:(T:Ty)->T.den->T.den->Bool
 |.int _,a,b=>decide ((a:Int)=b)
 |.bool,a,b=>(a:Bool)==b
 |.str,a,b=>decide ((a:ζ)=b)
 |.st t,a,b=>L2 t a b
 |.pr x y,a,b=>L2 x a.1 b.1&&L2 y a.2 b.2
 |_,_,_=>M
def sF {S:Ty} (T:Ty) (v:S.den):J T.den:=if h:S=T then Z (h▸v) else U
def fm (j:Int) (n:Nat):Bool:=cL 0 j&&fI j n
def aH {T:Ty} (xs:Y T.den) (j:Int):T.den:=xs.getD j.toNat T.zero
def cJ {α:Type} (xs:Y α) (j:Int) (x:α):Y α:=xs.set j.toNat x
def RN {α:Type} (xs d:Y α):Y α:=d.take xs.length++xs.drop d.length
def lh (a b:Int):Int:=if fI a b then b else a
def FJ (a b:Int):Int:=if fI b a then b else a
def qB (s:ζ) (j:Int):Int:=aT (s.getD j.toNat 0).toNat
def aE {R:Type} (b:Bool) (t f:J R):J R:=match b with|true=>t|false=>f
def chk {R:Type} (b:Bool) (k:b=M->J R):J R:=match b,k with|true,k=>k rfl|false,_=>U
open Classical in
def D' {R:Type} (a b:J R):J R:=if a=b then a else U
open Classical in
def same {α R:Type} (a b:α) (r:J R):J R:=if a=b then r else U
def av {α R:Type} (o:J α) (k:α->J R):J R:=match o with|some x=>k x|none=>U
def lt {α R:Type} (x:α) (k:α->J R):J R:=k x
def jn {α R:Type} (o:J (R⊕α)) (k:α->J R):J R:=match o with|some (.inr x)=>k x|some (.inl r)=>Z r|none=>U
def iterN {σ R:Type} (step:σ->J (σ⊕R)):Nat->σ->J R
 |0,_=>U
 |n+1,x=>match step x with
  |some (.inl y)=>iterN step n y
  |some (.inr r)=>Z r
  |none=>U
open Classical in
def iter {σ R:Type} (step:σ->J (σ⊕R)) (x:σ):J R:=
 if h:∃n,(iterN step n x).isSome=M then iterN step (Classical.choose h) x else U
def fX {σ R:Type} (step:σ->J (σ⊕R)) (x:σ):J R:=iterN step 18446744073709551616 x
abbrev yN:Type 1:=∀σ R:Type,(σ->J (σ⊕R))->σ->J R
def li {R:Type} (a b:J R):Prop:=∀y,a=Z y->b=Z y
theorem li.rfl {R:Type} {a:J R}:li a a:=λ_ h=>h
theorem li.bcase {R:Type} {b:Bool} {t f t' f':J R} (h1:li t t') (h2:li f f'):li (AI.aE b t f) (AI.aE b t' f'):=by cases b<;>assumption
theorem li.chk {R:Type} {b:Bool} {k k':J R} (h:li k k'):li (AI.chk b λ_=>k) (AI.chk b λ_=>k'):=by
 cases b with
 |true=>exact h
 |false=>exact λ_ h=>by cases h
theorem li.obind {α R:Type} {o o':J α} {k k':α->J R} (h:li o o') (hk:∀x,li (k x) (k' x)):li (AI.av o k) (AI.av o' k'):=by
 intro y d;cases o with
 |none=>cases d
 |some x=>rw[h x (by exact Eq.refl _)];exact hk x y d
theorem li.lt {α R:Type} {x:α} {k k':α->J R} (h:∀y,li (k y) (k' y)):li (AI.lt x k) (AI.lt x k'):=h x
theorem li.jn {α R:Type} {o o':J (R⊕α)} {k k':α->J R} (h:li o o') (hk:∀x,li (k x) (k' x)):li (AI.jn o k) (AI.jn o' k'):=by
 intro y d;cases o with
 |none=>cases d
 |some x=>
  rw[h x (by exact Eq.refl _)];cases x with
  |inl r=>exact d
  |inr a=>exact hk a y d
theorem li.iterN {σ R:Type} {f g:σ->J (σ⊕R)} (h:∀x,li (f x) (g x)):∀(n:Nat) (x:σ),li (AI.iterN f n x) (AI.iterN g n x)
 |0,_=>λ_ h=>by cases h
 |n+1,x=>by
  intro y d;cases hf:f x with
  |none=>rw[AI.iterN,hf]at d;cases d
  |some s=>
   rw[AI.iterN,hf]at d;rw[AI.iterN,h x s hf];cases s with
   |inl z=>exact li.iterN h n z y d
   |inr r=>exact d
theorem HU {σ R:Type} {f:σ->J (σ⊕R)}:∀{n:Nat} {x:σ} {r:R},iterN f n x=Z r->iterN f (n+1) x=Z r
 |0,x,r,h=>by cases h
 |n+1,x,r,h=>by
  cases hf:f x with
  |none=>rw[iterN,hf]at h;cases h
  |some s=>
   cases s with
   |inl y=>rw[iterN,hf]at h;rw[iterN,hf];exact HU h
   |inr q=>rw[iterN,hf]at h;rw[iterN,hf];exact h
theorem vo {σ R:Type} {f:σ->J (σ⊕R)} {n m:Nat} {x:σ} {r:R} (h:iterN f n x=Z r) (hle:n<=m):iterN f m x=Z r:=by
 induction hle with
 |refl=>exact h
 |step _ d=>exact HU d
theorem HR {σ R:Type} {f:σ->J (σ⊕R)} {n:Nat} {x:σ} {r:R} (h:iterN f n x=Z r):iter f x=Z r:=by
 have q:∃n,(iterN f n x).isSome=M:=⟨n,by rw[h];exact Eq.refl _⟩
 unfold iter;rw[dif_pos q];have hc:=Classical.choose_spec q;obtain⟨s,d⟩:=iI.1 hc;rw[d];rcases Nat.le_total n (Classical.choose q) with hl|hl
 .rw[vo h hl]at d;exact d.symm
 .rw[vo d hl]at h;exact h
theorem li.iter {σ R:Type} {f g:σ->J (σ⊕R)} {x:σ} (h:∀x,li (f x) (g x)):li (fX f x) (AI.iter g x):=λy d=>HR (li.iterN h _ x y d)
def orE {R:Type} (a b:J R):J R:=match a with|some y=>Z y|none=>b
def fuel:Nat:=Classical.choose (⟨100000,rfl⟩:∃n:Nat,n=100000)
theorem qi:fuel=100000:=Classical.choose_spec (⟨100000,rfl⟩:∃n:Nat,n=100000)
def FB (a:Ty):Ty->Ty
 |.un=>a
 |.int k=>.pr a (.int k)
 |.bool=>.pr a .bool
 |.str=>.pr a .str
 |.sl t=>.pr a (.sl t)
 |.st t=>.pr a (.st t)
 |.pr x y=>.pr a (.pr x y)
 |.ex=>.pr a .ex
 |.sm=>.pr a .sm
def spr:Ty->Ty->Ty
 |.un,b=>b
 |.int k,b=>FB (.int k) b
 |.bool,b=>FB .bool b
 |.str,b=>FB .str b
 |.sl t,b=>FB (.sl t) b
 |.st t,b=>FB (.st t) b
 |.pr x y,b=>FB (.pr x y) b
 |.ex,b=>FB .ex b
 |.sm,b=>FB .sm b
def O2 (a:Ty):(b:Ty)->a.den->b.den->(FB a b).den
 |.un,x,_=>x
 |.int _,x,y=>(x,y)
 |.bool,x,y=>(x,y)
 |.str,x,y=>(x,y)
 |.sl _,x,y=>(x,y)
 |.st _,x,y=>(x,y)
 |.pr _ _,x,y=>(x,y)
 |.ex,x,y=>(x,y)
 |.sm,x,y=>(x,y)
def fsN (a:Ty):(b:Ty)->(FB a b).den->a.den
 |.un,z=>z
 |.int _,z=>z.1
 |.bool,z=>z.1
 |.str,z=>z.1
 |.sl _,z=>z.1
 |.st _,z=>z.1
 |.pr _ _,z=>z.1
 |.ex,z=>z.1
 |.sm,z=>z.1
def snN (a:Ty):(b:Ty)->(FB a b).den->b.den
 |.un,_=>()
 |.int _,z=>z.2
 |.bool,z=>z.2
 |.str,z=>z.2
 |.sl _,z=>z.2
 |.st _,z=>z.2
 |.pr _ _,z=>z.2
 |.ex,z=>z.2
 |.sm,z=>z.2
def So:(a b:Ty)->a.den->b.den->(spr a b).den
 |.un,_,_,y=>y
 |.int k,b,x,y=>O2 (.int k) b x y
 |.bool,b,x,y=>O2 .bool b x y
 |.str,b,x,y=>O2 .str b x y
 |.sl t,b,x,y=>O2 (.sl t) b x y
 |.st t,b,x,y=>O2 (.st t) b x y
 |.pr u v,b,x,y=>O2 (.pr u v) b x y
 |.ex,b,x,y=>O2 .ex b x y
 |.sm,b,x,y=>O2 .sm b x y
def Nn:(a b:Ty)->(spr a b).den->a.den
 |.un,_,_=>()
 |.int k,b,z=>fsN (.int k) b z
 |.bool,b,z=>fsN .bool b z
 |.str,b,z=>fsN .str b z
 |.sl t,b,z=>fsN (.sl t) b z
 |.st t,b,z=>fsN (.st t) b z
 |.pr u v,b,z=>fsN (.pr u v) b z
 |.ex,b,z=>fsN .ex b z
 |.sm,b,z=>fsN .sm b z
def Ke:(a b:Ty)->(spr a b).den->b.den
 |.un,_,z=>z
 |.int k,b,z=>snN (.int k) b z
 |.bool,b,z=>snN .bool b z
 |.str,b,z=>snN .str b z
 |.sl t,b,z=>snN (.sl t) b z
 |.st t,b,z=>snN (.st t) b z
 |.pr u v,b,z=>snN (.pr u v) b z
 |.ex,b,z=>snN .ex b z
 |.sm,b,z=>snN .sm b z
theorem sQ (a b:Ty) (x:a.den) (y:b.den):Nn a b (So a b x y)=x:=by cases a<;>cases b<;>rfl
theorem ul (a b:Ty) (x:a.den) (y:b.den):Ke a b (So a b x y)=y:=by cases a<;>cases b<;>rfl
inductive TV where
 |f (T:Ty) (v:T.den)
 |fel (T:Ty) (xs:List T.den) (j:Int) (h:fm j xs.length=M) (off:Nat)
 |pel (id sz:Nat) (j:Int) (off:Nat)
 |ptr (id off:Nat)
 |row (id:Nat)
 |csl (id sz n:Nat)
 |emp
 |nil
 |mp (id:Nat)
 |agg (l:List TV)
 |tup (l:List TV)
 |clo (g:FuncId) (l:List TV)
 |undef
 |np
 |anyb
 |rtl (id:Nat) (j:Int)
 |ful (T:Ty) (xs:List T.den)
instance cty (n:Nat):OfNat (J TypeId) n:=⟨Z n⟩
inductive hX where
 |rows (ty:TypeId) (p:Bool) (T:Ty) (xs:List T.den)
 |cells (ty:Option TypeId) (l:List TV)
 |dead (p:Bool) (sz n:Nat)
 |mp (K V:Ty) (es:List (K.den×V.den))
abbrev iJ:=PT TV
abbrev bl:=PT hX
def cst:Value->J TV
 |.int k n=>Z (.f (.int k) n)
 |.bool b=>Z (.f .bool b)
 |.string s=>Z (.f .str s.data.toList)
 |.slice U 0 0=>Z .nil
 |.pointer U=>Z .np
 |_=>U
def Jd:ξ->J (Y TV)
 |[]=>Z []
 |v::r=>match cst v,Jd r with|some x,Z l=>Z (x::l)|_,_=>U
def af2:Value->J TV
 |.agg vs=>if Ju vs.toList then (match Jd vs.toList with|some l=>Z (.agg l)|none=>U) else U
 |v=>cst v
def cellsOf:Nat->(T:Ty)->T.den->J (Y TV)
 |0,_,_=>U
 |n+1,.st t,v=>cellsOf n t v
 |n+1,.pr a b,v=>match cellsOf n a v.1,cellsOf n b v.2 with|some x,Z y=>Z (x++y)|_,_=>U
 |_+1,.un,_=>Z []
 |n+1,.ex,v=>cellsOf n LZ (MH v)
 |n+1,.sm,v=>cellsOf n Lv (MG v)
 |_+1,.int k,v=>Z [.f (.int k) v]
 |_+1,.bool,v=>Z [.f .bool v]
 |_+1,.str,v=>Z [.f .str v]
 |_+1,.sl t,v=>Z [.f (.sl t) v]
def TV.isC:TV->Bool
 |.f T _=>T.one
 |.fel _ _ _ _ _=>M
 |.pel _ _ _ _=>M
 |.ptr _ _=>M
 |.row _=>M
 |.csl _ _ _=>M
 |.emp=>M
 |.nil=>M
 |.np=>M
 |.mp _=>M
 |.clo _ _=>M
 |_=>aa
def kA:Y TV->Bool
 |[]=>M
 |x::r=>x.isC&&kA r
def TV.cs (v:TV):J (Y TV):=match v with
 |.agg l=>if kA l then Z l else U
 |.f T x=>cellsOf 40 T x
 |x=>if x.isC then Z [x] else U
def kn (i:Nat):Nat:=1<<<i
def g_ (h:bl) (T:Ty):TV->J (T.den×Nat)
 |.f _ v=>match sF T v with|some x=>Z (x,0)|none=>U
 |.emp=>(match T with|.sl _=>Z ([],0)|_=>U)
 |.nil=>(match T with|.sl _=>Z ([],0)|_=>U)
 |.row id=>match h.get id with
  |some (.rows _ _ S xs)=>(match sF (S:=.sl S) T xs with|some x=>Z (x,kn id)|none=>U)
  |_=>U
 |_=>U
def eK (h:bl):Nat->(T:Ty)->Y TV->J (T.den×Nat×Y TV)
 |0,_,_=>U
 |n+1,.st t,l=>eK h n t l
 |n+1,.pr a b,l=>match eK h n a l with
  |some (x,m,r)=>(match eK h n b r with|some (y,m',d)=>Z ((x,y),m|||m',d)|none=>U)
  |none=>U
 |_+1,.un,l=>Z ((),0,l)
 |n+1,.ex,l=>match eK h n LZ l with|some (x,m,r)=>Z (d8 x,m,r)|none=>U
 |n+1,.sm,l=>match eK h n Lv l with|some (x,m,r)=>Z (ov x,m,r)|none=>U
 |_+1,.int k,l=>match l with|c::r=>(match g_ h (.int k) c with|some (x,m)=>Z (x,m,r)|none=>U)|[]=>U
 |_+1,.bool,l=>match l with|c::r=>(match g_ h .bool c with|some (x,m)=>Z (x,m,r)|none=>U)|[]=>U
 |_+1,.str,l=>match l with|c::r=>(match g_ h .str c with|some (x,m)=>Z (x,m,r)|none=>U)|[]=>U
 |_+1,.sl t,l=>match l with|c::r=>(match g_ h (.sl t) c with|some (x,m)=>Z (x,m,r)|none=>U)|[]=>U
def Bj (h:bl) (T:Ty) (v:TV):J (T.den×Nat):=match v with
 |.agg l=>if T.one then U else (match eK h 40 T l with|some (x,m,[])=>Z (x,m)|_=>U)
 |x=>g_ h T x
def nS:Nat->(T:Ty)->T.den->Nat->Nat->Bool->J TV
 |0,_,_,_,_,_=>U
 |n+1,.st t,v,off,sz,ag=>if ax off 0&&ax sz t.size&&ag then Z (.f (.st t) v) else nS n t v off sz ag
 |n+1,.pr a b,v,off,sz,ag=>if eP off a.size then nS n a v.1 off sz ag else nS n b v.2 (off-a.size) sz ag
 |_+1,.un,_,_,_,_=>U
 |n+1,.ex,v,off,sz,ag=>if ax off 0&&ax sz 4&&ag then Z (.f .ex v) else nS n LZ (MH v) off sz ag
 |n+1,.sm,v,off,sz,ag=>if ax off 0&&ax sz 11&&ag then Z (.f .sm v) else nS n Lv (MG v) off sz ag
 |_+1,.int k,v,off,sz,ag=>if ax off 0&&ax sz 1&& !ag then Z (.f (.int k) v) else U
 |_+1,.bool,v,off,sz,ag=>if ax off 0&&ax sz 1&& !ag then Z (.f .bool v) else U
 |_+1,.str,v,off,sz,ag=>if ax off 0&&ax sz 1&& !ag then Z (.f .str v) else U
 |_+1,.sl t,v,off,sz,ag=>if ax off 0&&ax sz 1&& !ag then Z (.f (.sl t) v) else U
def gH (h:bl) (x:TV):Nat->(T:Ty)->T.den->Nat->Nat->J (T.den×Nat)
 |0,_,_,_,_=>U
 |n+1,.st t,v,off,sz=>match (if ax off 0&&ax sz t.size then Bj h (.st t) x else U) with
  |some y=>Z y
  |none=>gH h x n t v off sz
 |n+1,.pr a b,v,off,sz=>if eP off a.size then (match gH h x n a v.1 off sz with|some (y,m)=>Z ((y,v.2),m)|none=>U) else (match gH h x n b v.2 (off-a.size) sz with|some (y,m)=>Z ((v.1,y),m)|none=>U)
 |_+1,.un,_,_,_=>U
 |n+1,.ex,v,off,sz=>match (if ax off 0&&ax sz 4 then Bj h .ex x else U) with
  |some y=>Z y
  |none=>(match gH h x n LZ (MH v) off sz with|some (y,m)=>Z (d8 y,m)|none=>U)
 |n+1,.sm,v,off,sz=>match (if ax off 0&&ax sz 11 then Bj h .sm x else U) with
  |some y=>Z y
  |none=>(match gH h x n Lv (MG v) off sz with|some (y,m)=>Z (ov y,m)|none=>U)
 |_+1,.int k,_,off,sz=>if ax off 0&&ax sz 1 then g_ h (.int k) x else U
 |_+1,.bool,_,off,sz=>if ax off 0&&ax sz 1 then g_ h .bool x else U
 |_+1,.str,_,off,sz=>if ax off 0&&ax sz 1 then g_ h .str x else U
 |_+1,.sl t,_,off,sz=>if ax off 0&&ax sz 1 then g_ h (.sl t) x else U
def xN (h:bl) (T:Ty):Nat->Y TV->J (Y T.den×Nat)
 |0,[]=>Z ([],0)
 |0,_::_=>U
 |n+1,l=>match eK h 40 T l with
  |some (x,m,r)=>(match xN h T n r with|some (xs,m')=>Z (x::xs,m|||m')|none=>U)
  |none=>U
def su:Ty->ξ
 |.int k=>[.int k 0]
 |.bool=>[.bool aa]
 |.str=>[.string ⟨#[]⟩]
 |.sl _=>[.slice U 0 0]
 |.st t=>su t
 |.pr a b=>su a++su b
 |.un=>[]
 |.ex=>[.int .i64 0,.int .i64 0,.string ⟨#[]⟩,.slice U 0 0]
 |.sm=>[.int .i64 0,.int .i64 0,.string ⟨#[]⟩,.string ⟨#[]⟩,.slice U 0 0,.int .i64 0,.int .i64 0,.string ⟨#[]⟩,.slice U 0 0,.slice U 0 0,.slice U 0 0]
def Q_:ξ->ξ->Bool
 |[],[]=>M
 |x::xs,y::d=>af8 x y&&Q_ xs d
 |_,_=>aa
def Ty.flat:Ty->Bool
 |.int _=>M
 |.bool=>M
 |.str=>M
 |.st t=>t.flat
 |.pr a b=>a.flat&&b.flat
 |.un=>M
 |_=>aa
def qF:Y TypeDesc->J Ty
 |[]=>Z .un
 |.int k::r=>match qF r with|some t=>Z (.pr (.int k) t)|none=>U
 |.bool::r=>match qF r with|some t=>Z (.pr .bool t)|none=>U
 |.string::r=>match qF r with|some t=>Z (.pr .str t)|none=>U
 |_=>U
inductive PV where
 |d (T:Ty)
 |ptr (id off:Nat)
 |row (id:Nat)
 |csl (id sz n:Nat)
 |mp (id:Nat)
 |nil
 |emp
 |clo (q:FuncId) (id off:Nat)
 |agg (l:List PV)
inductive PB where
 |rows (ty:TypeId) (p:Bool) (T:Ty)
 |rowsP (ty:TypeId) (T:Ty)
 |cells (ty:Option TypeId) (l:List PV)
 |mp (K V:Ty)
 |gone
mutual
def PV.ty:PV->Ty
 |.d T=>T
 |.agg l=>PV.tyL l
 |.ptr _ _=>.un
 |.row _=>.un
 |.csl _ _ _=>.un
 |.clo _ _ _=>.un
 |.mp _=>.un
 |.nil=>.un
 |.emp=>.un
def PV.tyL:Y PV->Ty
 |[]=>.un
 |p::r=>spr p.ty (PV.tyL r)
end
def PB.ty:PB->Ty
 |.rows _ _ T=>.sl T
 |.rowsP _ T=>.pr .bool (.sl T)
 |.cells _ l=>PV.tyL l
 |.mp K V=>.sl (.pr K V)
 |.gone=>.un
def PB.tyL:Y PB->Ty
 |[]=>.un
 |p::r=>spr p.ty (PB.tyL r)
structure Tm where
 vs:List PV
 bs:List PB
def Tm.ty (t:Tm):Ty:=spr (PV.tyL t.vs) (PB.tyL t.bs)
mutual
def pl (g:Nat->Nat) (h:bl):(p:PV)->Y TV->J (p.ty.den×Nat×Y TV)
 |.d T,l=>eK h 40 T l
 |.ptr i o,l=>match l with|.ptr i' o'::r=>if ax (g i) i'&&ax o o' then Z ((),0,r) else U|_=>U
 |.row i,l=>match l with|.row i'::r=>if ax (g i) i' then Z ((),0,r) else U|_=>U
 |.csl i s n,l=>match l with|.csl i' s' n'::r=>if ax (g i) i'&&ax s s'&&ax n n' then Z ((),0,r) else U|_=>U
 |.clo q i o,l=>match l with|.clo q' [.ptr i' o']::r=>if ax q q'&&ax (g i) i'&&ax o o' then Z ((),0,r) else U|_=>U
 |.mp i,l=>match l with|.mp i'::r=>if ax (g i) i' then Z ((),0,r) else U|_=>U
 |.nil,l=>match l with|.nil::r=>Z ((),0,r)|_=>U
 |.emp,l=>match l with|.nil::r=>Z ((),0,r)|.emp::r=>Z ((),0,r)|_=>U
 |.agg ps,l=>yh g h ps l
def yh (g:Nat->Nat) (h:bl):(ps:Y PV)->Y TV->J ((PV.tyL ps).den×Nat×Y TV)
 |[],l=>Z ((),0,l)
 |p::r,l=>match pl g h p l with
  |some (x,m,l')=>(match yh g h r l' with|some (y,m',l'')=>Z (So p.ty (PV.tyL r) x y,m|||m',l'')|none=>U)
  |none=>U
end
def wz (g:Nat->Nat) (h:bl):(p:PV)->TV->J (p.ty.den×Nat)
 |.d T,v=>Bj h T v
 |.agg ps,v=>if v.isC then U else (match v.cs with
  |some l=>(match yh g h ps l with|some (x,m,[])=>Z (x,m)|_=>U)
  |none=>U)
 |.ptr i o,v=>match pl g h (.ptr i o) [v] with|some (x,m,_)=>Z (x,m)|none=>U
 |.row i,v=>match pl g h (.row i) [v] with|some (x,m,_)=>Z (x,m)|none=>U
 |.csl i s n,v=>match pl g h (.csl i s n) [v] with|some (x,m,_)=>Z (x,m)|none=>U
 |.clo q i o,v=>match pl g h (.clo q i o) [v] with|some (x,m,_)=>Z (x,m)|none=>U
 |.mp i,v=>match pl g h (.mp i) [v] with|some (x,m,_)=>Z (x,m)|none=>U
 |.nil,v=>match pl g h .nil [v] with|some (x,m,_)=>Z (x,m)|none=>U
 |.emp,v=>match pl g h .emp [v] with|some (x,m,_)=>Z (x,m)|none=>U
def w_ (g:Nat->Nat) (h:bl):(ps:Y PV)->Y TV->J ((PV.tyL ps).den×Nat)
 |[],[]=>Z ((),0)
 |p::r,v::vs=>match wz g h p v with
  |some (x,m)=>(match w_ g h r vs with|some (y,m')=>Z (So p.ty (PV.tyL r) x y,m|||m')|none=>U)
  |none=>U
 |[],_::_=>U
 |_::_,[]=>U
def DJ (g:Nat->Nat) (h:bl) (i:Nat):(b:PB)->J (b.ty.den×Nat)
 |.rows ty p T=>match h.get (g i) with
  |some (.rows ty' d S xs)=>if ty==ty'&&p==d then (match sF (S:=.sl S) (.sl T) xs with|some x=>Z (x,0)|none=>U) else U
  |_=>U
 |.rowsP ty T=>match h.get (g i) with
  |some (.rows ty' d S xs)=>if ty==ty' then (match sF (S:=.sl S) (.sl T) xs with|some x=>Z ((d,x),0)|none=>U) else U
  |_=>U
 |.cells ty ps=>match h.get (g i) with
  |some (.cells ty' l)=>if ty==ty' then (match yh g h ps l with|some (x,m,[])=>Z (x,m)|_=>U) else U
  |_=>U
 |.mp K V=>match h.get (g i) with
  |some (.mp K' V' es)=>(match sF (S:=.sl (.pr K' V')) (.sl (.pr K V)) es with|some x=>Z (x,0)|none=>U)
  |_=>U
 |.gone=>Z ((),0)
def zU (g:Nat->Nat) (h:bl):Nat->(bs:Y PB)->J ((PB.tyL bs).den×Nat)
 |_,[]=>Z ((),0)
 |i,b::r=>match DJ g h i b with
  |some (x,m)=>(match zU g h (i+1) r with|some (y,m')=>Z (So b.ty (PB.tyL r) x y,m|||m')|none=>U)
  |none=>U
mutual
def pF (g:Nat->Nat):(p:PV)->p.ty.den->J (Y TV)
 |.d T,x=>cellsOf 40 T x
 |.ptr i o,_=>Z [.ptr (g i) o]
 |.row i,_=>Z [.row (g i)]
 |.csl i s n,_=>Z [.csl (g i) s n]
 |.mp i,_=>Z [.mp (g i)]
 |.clo q i o,_=>Z [.clo q [.ptr (g i) o]]
 |.nil,_=>Z [.nil]
 |.emp,_=>Z [.emp]
 |.agg ps,x=>qD g ps x
def qD (g:Nat->Nat):(ps:Y PV)->(PV.tyL ps).den->J (Y TV)
 |[],_=>Z []
 |p::r,x=>match pF g p (Nn p.ty (PV.tyL r) x) with
  |some a=>(match qD g r (Ke p.ty (PV.tyL r) x) with|some b=>Z (a++b)|none=>U)
  |none=>U
end
def sK (g:Nat->Nat):(p:PV)->p.ty.den->J TV
 |.d T,x=>Z (.f T x)
 |.ptr i o,_=>Z (.ptr (g i) o)
 |.row i,_=>Z (.row (g i))
 |.csl i s n,_=>Z (.csl (g i) s n)
 |.mp i,_=>Z (.mp (g i))
 |.clo q i o,_=>Z (.clo q [.ptr (g i) o])
 |.nil,_=>Z .nil
 |.emp,_=>Z .emp
 |.agg ps,x=>match qD g ps x with|some l=>Z (.agg l)|none=>U
def pO (g:Nat->Nat):(ps:Y PV)->(PV.tyL ps).den->J (Y TV)
 |[],_=>Z []
 |p::r,x=>match sK g p (Nn p.ty (PV.tyL r) x) with
  |some a=>(match pO g r (Ke p.ty (PV.tyL r) x) with|some b=>Z (a::b)|none=>U)
  |none=>U
def BF (g:Nat->Nat):(b:PB)->b.ty.den->J (J hX)
 |.rows ty p T,x=>Z (Z (.rows ty p T x))
 |.rowsP ty T,x=>Z (Z (.rows ty x.1 T x.2))
 |.cells ty ps,x=>match qD g ps x with|some l=>Z (Z (.cells ty l))|none=>U
 |.mp K V,x=>Z (Z (.mp K V x))
 |.gone,_=>Z U
def ut:hX->hX
 |.rows _ p T xs=>.dead p T.size xs.length
 |.cells _ _=>.dead M 0 0
 |.mp _ _ _=>.dead M 0 0
 |.dead p sz n=>.dead p sz n
def kill (h:bl) (i:Nat):bl:=match h.get i with
 |some b=>h.set i (Z (ut b))
 |none=>h
def oe (g:Nat->Nat):(bs:Y PB)->(PB.tyL bs).den->J (Y (J hX))
 |[],_=>Z []
 |b::r,x=>match BF g b (Nn b.ty (PB.tyL r) x) with
  |some c=>(match oe g r (Ke b.ty (PB.tyL r) x) with|some l=>Z (c::l)|none=>U)
  |none=>U
def zC (g:Nat->Nat):Nat->Y (J hX)->bl->bl
 |_,[],h=>h
 |i,Z c::r,h=>zC g (i+1) r (h.set (g i) (Z c))
 |i,U::r,h=>zC g (i+1) r (kill h (g i))
def Lz (g:Nat->Nat) (bs:Y PB) (x:(PB.tyL bs).den) (h:bl):J bl:=match oe g bs x with
 |some l=>Z (zC g 0 l h)
 |none=>U
def oy {K V:Ty} (k:K.den):Y (K.den×V.den)->J V.den
 |[]=>U
 |(k',v)::r=>if L2 K k k' then Z v else oy k r
def xT {K V:Ty} (k:K.den) (v:V.den):Y (K.den×V.den)->Y (K.den×V.den)
 |[]=>[(k,v)]
 |(k',d)::r=>if L2 K k k' then (k,v)::r else (k',d)::xT k v r
def aer {K V:Ty} (k:K.den) (es:Y (K.den×V.den)):Bool:=match oy k es with|some _=>M|none=>aa
def sw {K V:Ty} (k:K.den) (es:Y (K.den×V.den)) (z:V.den):V.den:=match oy k es with|some v=>v|none=>z
def aho (T:Ty):Nat->Ty
 |0=>.un
 |1=>T
 |n+2=>.pr T (aho T (n+1))
def kwT:Ty:=.st (aho .str 22)
def kwV:kwT.den:=([118,97,114],[118,111,108,97,116,105,108,101],[109,117,116,101,120],[114,119,108,111,99,107],[99,111,110,100],[102,117,116,117,114,101],[116,104,114,101,97,100],[105,102],[101,108,115,101],[119,104,105,108,101],[108,111,99,107],[114,101,97,100],[119,114,105,116,101],[116,114,97,110,115,97,99,116,105,111,110],[97,116,111,109,105,99],[119,97,105,116],[110,111,116,105,102,121],[110,111,116,105,102,121,97,108,108],[115,112,97,119,110],[106,111,105,110],[115,101,116],[103,101,116])
@[simp] theorem dJ {R:Type} (t f:J R):aE M t f=t:=Eq.trans rfl rfl
@[simp] theorem dZ {R:Type} (t f:J R):aE aa t f=f:=Eq.trans rfl rfl
@[simp] theorem chk_t {R:Type} (k:M=M->J R):chk M k=k rfl:=Eq.trans rfl rfl
theorem cD {R:Type} {b:Bool} (h:b=M) (k:J R):chk b (λ_=>k)=k:=by cases b with|true=>rfl|false=>cases h
@[simp] theorem dA {α R:Type} (x:α) (k:α->J R):av (Z x) k=k x:=Eq.trans rfl rfl
@[simp] theorem mg {α R:Type} (x:α) (k:α->J R):jn (Z (.inr x)) k=k x:=Eq.trans rfl rfl
@[simp] theorem jn_l {α R:Type} (r:R) (k:α->J R):jn (Z (.inl r)) k=Z r:=Eq.trans rfl rfl
theorem abc {σ R:Type} {f:σ->J (σ⊕R)} {n:Nat} {x:σ} {r:R} (h:iterN f n x=Z r) (hn:n<=18446744073709551616):fX f x=Z r:=vo h hn
theorem ya {σ R:Type} {f:σ->J (σ⊕R)} (n:Nat) (hn:n<18446744073709551616) (st:Nat->σ) {r:R} (h0:∀i,i<n->f (st i)=Z (.inl (st (i+1)))) (h1:f (st n)=Z (.inr r)):fX f (st 0)=Z r:=by
 have key:∀k i,i+k=n->iterN f (k+1) (st i)=Z r:=by
  intro k;induction k with
  |zero=>intro i hi;have:i=n:=by omega
         subst this;simp only[iterN,h1]
  |succ k d=>intro i hi;rw[iterN,h0 i (by omega)];exact d (i+1) (by omega)
 exact abc (key n 0 (by omega)) (by omega)
@[simp] theorem YM {a b:Int}:cL a b=M↔a<=b:=by unfold cL;simp
@[simp] theorem YL {a b:Int}:fI a b=M↔a<b:=by unfold fI;simp
theorem qE {a b:Int} (h:a<=b):cL a b=M:=YM.2 h
theorem vr {a b:Int} (h:a<b):fI a b=M:=YL.2 h
theorem YN {a b:Int} (h:b<a):cL a b=aa:=by unfold cL;simp;omega
theorem ye {a b:Int} (h:b<=a):fI a b=aa:=by unfold fI;simp;omega
theorem aht {j:Int} {n:Nat} (h0:0<=j) (h1:j<n):fm j n=M:=by unfold fm;rw[qE h0,vr h1];rfl
theorem c_ {j n:Nat} (h1:j<n):fm (j:Int) n=M:=aht (by omega) (by omega)
theorem vZ {n b:Nat} (h0:n<=1099511627776) (h1:n*b<=1099511627776):be n b=M:=by
 unfold be;rw[bt h0,bt h1];rfl
theorem adf {n:Int} (h0: -9223372036854775808<=n) (h1:n<=9223372036854775807):aZ .i64 n=n:=by
 rw[GC];unfold Ln;simp only[];rw[qE h0,qE h1];rfl
theorem qI {i n:Nat} (h:i<n) (hn:n<=1099511627776):aZ .i64 ((i:Int)+1)=((i+1:Nat):Int):=by
 rw[adf (by omega) (by omega)];omega
theorem yc (a b:Nat):lh (aT a) (aT b)=((max a b:Nat):Int):=by
 unfold lh;by_cases h:a<b
 .rw[vr (by simp;omega),aU rfl];simp;omega
 .rw[ye (by simp;omega)];simp;omega
theorem tL {T:Ty} (xs:Y T.den) (i:Nat):aH xs (i:Int)=xs.getD i T.zero:=by unfold aH;simp
theorem q_ (xs:Y η) (i:Nat):aH (T:=.sl (.int .i64)) xs (i:Int)=xs.getD i []:=tL (T:=.sl (.int .i64)) xs i
theorem aev (xs:η) (i:Nat):aH (T:=.int .i64) xs (i:Int)=xs.getD i 0:=tL (T:=.int .i64) xs i
theorem fV {α:Type} (xs:Y α) (i:Nat) (x:α):cJ xs (i:Int) x=xs.set i x:=by unfold cJ;simp
structure ch where
 pre:Tm
 post:Tm
 m:pre.ty.den->Option post.ty.den
mutual
def ae0:PV->Y TV->PT Nat->PT Nat×Y TV
 |.d T,l,σ=>(σ,l.drop T.size)
 |.ptr i _,l,σ=>match l with|.ptr a _::r=>(σ.set i (Z a),r)|l=>(σ,l.drop 1)
 |.row i,l,σ=>match l with|.row a::r=>(σ.set i (Z a),r)|l=>(σ,l.drop 1)
 |.csl i _ _,l,σ=>match l with|.csl a _ _::r=>(σ.set i (Z a),r)|l=>(σ,l.drop 1)
 |.mp i,l,σ=>match l with|.mp a::r=>(σ.set i (Z a),r)|l=>(σ,l.drop 1)
 |.clo _ i _,l,σ=>match l with|.clo _ [.ptr a _]::r=>(σ.set i (Z a),r)|l=>(σ,l.drop 1)
 |.nil,l,σ=>(σ,l.drop 1)
 |.emp,l,σ=>(σ,l.drop 1)
 |.agg ps,l,σ=>Ub ps l σ
def Ub:Y PV->Y TV->PT Nat->PT Nat×Y TV
 |[],l,σ=>(σ,l)
 |p::r,l,σ=>match ae0 p l σ with|(σ',l')=>Ub r l' σ'
end
def ai7 (p:PV) (v:TV) (σ:PT Nat):PT Nat:=match p with
 |.d _=>σ
 |p=>match v.cs with|some l=>(ae0 p l σ).1|none=>σ
def Zu:Y PV->Y TV->PT Nat->PT Nat
 |p::r,v::vs,σ=>Zu r vs (ai7 p v σ)
 |_,_,σ=>σ
def Uc (h:bl):Nat->Y PB->PT Nat->PT Nat
 |_,[],σ=>σ
 |i,b::r,σ=>Uc h (i+1) r (match b with
  |.cells _ ps=>(match σ.get i with
   |some a=>(match h.get a with|some (.cells _ l)=>(Ub ps l σ).1|_=>σ)
   |none=>σ)
  |_=>σ)
def gZ (σ:PT Nat) (i:Nat):Nat:=match σ.get i with|some a=>a|none=>0
def X_ (σ:PT Nat):Nat->Nat->Nat->J Nat
 |0,_,acc=>Z acc
 |n+1,i,acc=>match σ.get i with
  |some a=>if aO acc a then U else X_ σ n (i+1) (acc|||kn a)
  |none=>U
def idn:Nat->PT Nat
 |0=>.leaf
 |n+1=>(idn n).set n (Z n)
def U6 (σ:PT Nat):Nat->Bool
 |0=>M
 |n+1=>(match σ.get n with|some a=>ax a n|none=>aa)&&U6 σ n
structure aec (t:Tm) where
 x:t.ty.den
 m:Nat
 σ:PT Nat
 sm:Nat
def Dk (np:Nat) (t:Tm) (vs:Y TV) (h:bl):J (aec t):=
 PS (Uc h 0 t.bs (Uc h 0 t.bs (Zu t.vs vs (idn np)))) λσ=>
 match X_ σ t.bs.length 0 0 with
 |some sm=>(match w_ (gZ σ) h t.vs vs with
  |some (x,m)=>(match zU (gZ σ) h 0 t.bs with
   |some (y,m')=>if CC (m|||m') sm&&U6 σ np then Z ⟨So _ _ x y,m|||m',σ,sm⟩ else U
   |none=>U)
  |none=>U)
 |none=>U
def PT.updI {α:Type} (f:Nat->α->α):Nat->Nat->PT α->PT α
 |_,_,.leaf=>.leaf
 |a,b,.node v l r=>.node (match v with|some x=>Z (f b x)|none=>U) (PT.updI f (2*a) (a+b) l) (PT.updI f (2*a) (2*a+b) r)
def d9 (m:Nat) (h:bl):bl:=if ax m 0 then h else PT.updI (λi b=>if aO m i then ut b else b) 1 0 h
def Sv:Operand->Bool
 |.const (.agg _)=>M
 |_=>aa
def e9 (e:iJ):Operand->J TV
 |.tmp t=>e.get t
 |.const v=>af2 v
 |.func g=>Z (.clo g [])
 |.global g=>match G g with|some _=>Z (.fel kwT [kwV] 0 (Eq.refl M) 0)|none=>U
def Ez (e:iJ):Y Operand->J (Y TV)
 |[]=>Z []
 |x::xs=>match e9 e x with|some y=>(match Ez e xs with|some d=>Z (y::d)|none=>U)|none=>U
def Iq (cells:Y TV) (e:iJ):Y (Nat×Nat×Operand)->J (Y TV)
 |[]=>Z cells
 |(off,sz,x)::r=>match e9 e x with
  |some v=>(match v.cs with
   |some cs=>if cs.length==sz&&dN (off+sz) cells.length then Iq (splice cells off cs) e r else U
   |none=>U)
  |none=>U
def R4 (l:Y TV) (off sz:Nat):Bool->J TV
 |false=>if ax sz 1 then l[off]? else U
 |true=>if dN (off+sz) l.length then Z (.agg ((l.drop off).take sz)) else U
def eh (h:bl) (id:Nat):J (Bool×Nat×Nat):=match h.get id with
 |some (.rows _ p T xs)=>Z (p,T.size,xs.length)
 |some (.dead p sz n)=>Z (p,sz,n)
 |_=>U
def lenOf (h:bl):TV->J Nat
 |.f (.sl _) xs=>Z (ah xs)
 |.emp=>Z 0
 |.nil=>Z 0
 |.row id=>match eh h id with|some (_,_,n)=>Z n|none=>U
 |.csl _ _ n=>Z n
 |_=>U
mutual
def Km (h:bl):TV->Bool
 |.row id=>(eh h id).isSome
 |.rtl id _=>(eh h id).isSome
 |.ful _ _=>M
 |.agg l=>kO h l
 |.tup l=>kO h l
 |.clo _ l=>kO h l
 |.f _ _=>M
 |.fel _ _ _ _ _=>M
 |.pel _ _ _ _=>M
 |.ptr _ _=>M
 |.csl _ _ _=>M
 |.emp=>M
 |.nil=>M
 |.mp _=>M
 |.undef=>M
 |.np=>M
 |.anyb=>M
def kO (h:bl):Y TV->Bool
 |[]=>M
 |x::r=>Km h x&&kO h r
end
mutual
def Ko (n:Nat):TV->Bool
 |.row id=>eP id n
 |.rtl id _=>eP id n
 |.ful _ _=>M
 |.pel id _ _ _=>eP id n
 |.ptr id _=>eP id n
 |.csl id _ _=>eP id n
 |.mp id=>eP id n
 |.agg l=>qX n l
 |.tup l=>qX n l
 |.clo _ l=>qX n l
 |.f _ _=>M
 |.fel _ _ _ _ _=>M
 |.emp=>M
 |.nil=>M
 |.undef=>M
 |.np=>M
 |.anyb=>M
def qX (n:Nat):Y TV->Bool
 |[]=>M
 |x::r=>Ko n x&&qX n r
end
def BV (t:Tm) (x:t.ty.den):J (Y TV×bl):=
 match pO (λi=>i) t.vs (Nn _ _ x) with
 |some vs=>(match Lz (λi=>i) t.bs (Ke _ _ x) PT.leaf with
  |some h=>if kO h vs&&qX t.bs.length vs&&PT.all (λ_ b=>match b with|.cells _ l=>kO h l&&qX t.bs.length l|_=>M) 1 0 h then Z (vs,h) else U
  |none=>U)
 |none=>U
abbrev KO (R:Type):=TV->Nat->Nat->bl->Nat->J R
def OP:Y TV->TV
 |[x]=>x
 |l=>.tup l
def AD:Y PB->Bool
 |[]=>M
 |.gone::_=>aa
 |_::r=>AD r
def G6:Y PB->Bool
 |[]=>M
 |.rows _ _ _::r=>G6 r
 |_::_=>aa
def s_ (h h2:bl) (g:Nat->Nat):Nat->Bool
 |0=>M
 |n+1=>(match eh h (g n) with
  |some (p,s,k)=>(match eh h2 (g n) with|some (d,s',k')=>(p==d)&&ax s s'&&ax k k'|none=>aa)
  |none=>M)&&s_ h h2 g n
def Vm {R:Type} (con:FuncId->J ch) (f:FuncId) (l:Y TV) (h:bl) (nx:Nat) (K:KO R):J R:=
 match con f with
 |some c=>(match Dk 0 c.pre l h with
  |some ⟨x,m,σ,sm⟩=>(match BV c.pre x with
   |some _=>av (c.m x) λy=>(match BV c.post y with
    |some _=>if dN c.pre.bs.length c.post.bs.length&&AD c.pre.bs then
      let np:=c.pre.bs.length
      let d:=c.post.bs.length-np
      let g:=λi=>if eP i np then gZ σ i else nx+(i-np)
      (match pO g c.post.vs (Nn _ _ y) with
      |some rs=>if !(ax m 0)&&ax c.post.bs.length 0&&(PV.tyL c.post.vs).flat then K (OP rs) m 0 h nx else
       (match Lz g c.post.bs (Ke _ _ y) (d9 m h) with
       |some h2=>chk (s_ h h2 g np) λ_=>K (OP rs) (sm|||m) (sm|||m|||(((1<<<d)-1)<<<nx)) h2 (nx+d)
       |none=>U)
      |none=>U) else if ax c.post.bs.length 0&&G6 c.pre.bs then
      let np:=c.pre.bs.length
      let g:=λi=>if eP i np then gZ σ i else nx+(i-np)
      (match pO g c.post.vs (Nn _ _ y) with
      |some rs=>(match Lz g c.pre.bs (Ke _ _ x) (d9 m h) with
       |some h2=>K (OP rs) (sm|||m) m h2 nx
       |none=>U)
      |none=>U) else U
    |none=>U)
   |none=>U)
  |none=>U)
 |none=>U
def af7 {R:Type} (op:BinOp) (x y:TV) (q:TV->J R):J R:=
 match x,y with
 |.f (.int k) a,.f (.int k') b=>if k==k' then
   (match op with
   |.add=>q (.f (.int k) (aZ k (a+b)))
   |.sub=>q (.f (.int k) (aZ k (a-b)))
   |.mul=>q (.f (.int k) (aZ k (a*b)))
   |.rem=>chk (!decide ((b:Int)=0)) λ_=>q (.f (.int k) (bo a b))
   |.quo=>chk (!decide ((b:Int)=0)) λ_=>q (.f (.int k) (aZ k (Int.tdiv a b)))
   |.eql=>q (.f .bool (decide ((a:Int)=b)))
   |.neq=>q (.f .bool (!decide ((a:Int)=b)))
   |.lss=>q (.f .bool (fI a b))
   |.leq=>q (.f .bool (cL a b))
   |.gtr=>q (.f .bool (fI b a))
   |.geq=>q (.f .bool (cL b a))
   |_=>U)
  else U
 |.f .str a,.f .str b=>match op with
   |.eql=>q (.f .bool (decide ((a:ζ)=b)))
   |.neq=>q (.f .bool (!decide ((a:ζ)=b)))
   |_=>U
 |_,_=>U
def V0:Bool->Ty->Bool
 |false,.int _=>M
 |true,.str=>M
 |_,_=>aa
abbrev itK:Ty:=.st (.pr .str (.int .i64))
def isIt:Ty->Bool
 |.st (.pr .str (.int .i64))=>M
 |_=>aa
def Sn (K:Ty):Bool:= !isIt K
def GO:Y ((ζ×Int)×Unit)->ζ
 |[]=>[]
 |e::_=>e.1.1
def FI:Y ((ζ×Int)×Unit)->Nat
 |[]=>0
 |e::_=>aP e.1.2
def MR (s:ζ) (p:Nat):Int:=rnA (List.getD s p 0) ⟨eQ s⟩ p
def RU (s:ζ) (p:Nat):Nat:=wdA (List.getD s p 0) ⟨eQ s⟩ p
def itE:(K V:Ty)->Y (K.den×V.den)->J (ζ×Nat)
 |.st (.pr .str (.int .i64)),.un,es=>Z (GO es,FI es)
 |_,_,_=>U
def mpE:(K V:Ty)->Y (K.den×V.den)->Bool
 |.un,.un,[]=>M
 |_,_,_=>aa
def wO (T:Ty):Y TV->J (Y T.den)
 |[]=>Z []
 |.f S v::r=>match sF (S:=S) T v with
  |some x=>(match wO T r with|some l=>Z (x::l)|none=>U)
  |none=>U
 |_::_=>U
def Zz:Y TV->J ((T:Ty)×Y T.den)
 |.f T v::r=>match wO T (.f T v::r) with|some l=>Z ⟨T,l⟩|none=>U
 |_=>U
def ahu (n sz:Nat) (v:TV):Bool->J ((T:Ty)×Y T.den)
 |true=>U
 |false=>if ax sz 1&& !v.isC then (match v.cs with|some l=>if ax l.length n then Zz l else U|none=>U) else U
def arrB (n sz off:Nat):J hX->J ((T:Ty)×Y T.den)
 |some (.cells (Z _) l)=>if ax sz 1&&ax off 0&&ax l.length n then Zz l else U
 |_=>U
def adx:Ty->Nat
 |.pr .un t=>adx t+1
 |_=>0
def CJ:J Ty->J Nat
 |some (.pr .un t)=>Z (adx t)
 |_=>U
def ady {R:Type} (ty:TypeId) (sz bytes:Nat) (b y:TV) (h:bl) (nx:Nat) (K:KO R):J R:=match y with
 |.csl id2 sz2 m=>(match h.get id2 with
  |some (.cells (Z _) l2)=>if ax sz2 sz&&ax l2.length (m*sz)&& !(ax m 0) then (match b with
   |.csl id sz1 n=>(match h.get id with
    |some (.cells (Z ty1) l)=>if ax sz1 sz&&ty1==ty&&ax l.length (n*sz)&& !(ax id id2) then
      chk (be (n+m) bytes) λ_=>K (.csl nx sz (n+m)) (kn id|||kn id2) (kn id|||kn nx) ((h.set id (Z (.dead M 0 0))).set nx (Z (.cells (Z ty) (l++l2)))) (nx+1) else U
    |_=>U)
   |.nil=>chk (be m bytes) λ_=>K (.csl nx sz m) (kn id2) (0|||kn nx) ((d9 0 h).set nx (Z (.cells (Z ty) l2))) (nx+1)
   |_=>U) else U
  |_=>U)
 |_=>U
def pkT (ok:Bool) (v b:TV):TV:=match ok with|true=>.tup [v,b]|false=>v
def dS {R:Type} (con:FuncId->J ch) (bZ:TypeId->J Ty) (o:SI) (e:iJ) (h:bl) (nx:Nat) (K:KO R):J R:=
 match o with
 |.call f args=>match Ez e args with|some l=>Vm con f l h nx K|none=>U
 |.callv x args=>match e9 e x,Ez e args with
  |some (.clo f cap),Z l=>Vm con f (l++cap) h nx K
  |_,_=>U
 |.op s=>match s with
  |.mksl ty sz bytes z l c=>match CJ (bZ ty) with
   |some n=>(match Jd z,e9 e l,e9 e c with
    |some F,Z (.f (.int _) a),Z (.f (.int _) b)=>chk (cL 0 a&&cL a b&&be (aP b) bytes&&decide ((a:Int)=aT n)) λ_=>K (.csl nx sz n) 0 (0|||kn nx) ((d9 0 h).set nx (Z (.cells (Z ty) (aA n F).flatten))) (nx+1)
    |_,_,_=>U)
   |none=>match bZ ty,e9 e l,e9 e c with
   |some T,Z (.f (.int _) a),Z (.f (.int _) b)=>if ax sz T.size&&Q_ z (su T) then
     chk (cL 0 a&&cL a b&&be (aP b) bytes) λ_=>K (.row nx) 0 (kn nx) (h.set nx (Z (.rows ty aa T (aA (aP a) T.zero)))) (nx+1) else U
   |_,_,_=>U
  |.bsl ty sz len z parts=>match CJ (bZ ty) with
   |some _=>(match Jd z with
    |some F=>(match Iq ((aA len F).flatten) e parts with
     |some cs=>if ax len 0 then U else K (.csl nx sz len) 0 (0|||kn nx) ((d9 0 h).set nx (Z (.cells (Z ty) cs))) (nx+1)
     |none=>U)
    |none=>U)
   |none=>match bZ ty,Jd z with
   |some T,Z F=>if ax sz T.size then (match Iq ((aA len F).flatten) e parts with
    |some cs=>(match xN h T len cs with
     |some (xs,m)=>K (.row nx) m (m|||kn nx) ((d9 m h).set nx (Z (.rows ty (ax len 0) T xs))) (nx+1)
     |none=>U)
    |none=>U) else U
   |_,_=>U
  |.app ty sz bytes s x=>match CJ (bZ ty) with
   |some _=>(match e9 e s,e9 e x with
    |some b,Z y=>ady ty sz bytes b y h nx K
    |_,_=>U)
   |none=>match bZ ty,e9 e s,e9 e x with
   |some T,Z b,Z y=>if ax sz T.size then (match Bj h (.sl T) y with
    |some (q,m)=>(match b with
     |.row id=>(match h.get id with
      |some (.rows ty' p S xs)=>(match sF (S:=.sl S) (.sl T) xs with
       |some xs=>if ty'==ty&& !(aO m id) then
         chk (be (ah xs+ah q) bytes) λ_=>K (.row nx) (kn id|||m) (kn id|||kn nx) ((h.set id (Z (.dead p sz (ah xs)))).set nx (Z (.rows ty p T (xs++q)))) (nx+1)
        else U
       |none=>U)
      |_=>U)
     |.ful S xs=>if ax m 0 then (match sF (S:=.sl S) (.sl T) xs with
      |some xs=>chk (be (ah xs+ah q) bytes) λ_=>aE (ax (ah q) 0) (K (.f (.sl T) xs) 0 0 h nx) (K (.row nx) 0 (0|||kn nx) ((d9 0 h).set nx (Z (.rows ty aa T (xs++q)))) (nx+1))
      |none=>U) else U
     |.emp=>chk (be (ah q) bytes) λ_=>K (.row nx) m (kn nx) (h.set nx (Z (.rows ty M T q))) (nx+1)
     |.nil=>chk (be (ah q) bytes) λ_=>K (.row nx) m (kn nx) (h.set nx (Z (.rows ty M T q))) (nx+1)
     |_=>U)
    |none=>U) else U
   |_,_,_=>U
  |.copy sz d x=>match e9 e d,e9 e x with
   |some (.row id),Z y=>(match h.get id with
    |some (.rows ty p T xs)=>if ax sz T.size then (match Bj h (.sl T) y with
     |some (q,m)=>if !(aO m id)&& !p then
       K (.f (.int .i64) (aT (iM (ah q) (ah xs)))) (kn id|||m) (kn id) (h.set id (Z (.rows ty p T (RN xs q)))) nx else U
     |none=>U) else U
    |_=>U)
   |_,_=>U
  |.clr sz z x=>match e9 e x with
   |some (.rtl id j)=>(match h.get id with
    |some (.rows ty p T xs)=>if (ax sz T.size&&Q_ z (su T))&&mC z then
      chk (cL 0 j&&fI j (ah xs)) λ_=>K (.tup []) (kn id) (0|||kn id) ((d9 0 h).set id (Z (.rows ty p T (dh (aP j) xs++aA (ah xs-aP j) T.zero)))) nx
     else U
    |_=>U)
   |_=>U
  |.mv x=>match e9 e x with|some v=>K v 0 0 h nx|none=>U
  |.pick c a b=>match e9 e c with
   |some (.f .bool t)=>aE t (match e9 e a with|some v=>K v 0 0 h nx|none=>U) (match e9 e b with|some v=>K v 0 0 h nx|none=>U)
   |_=>U
  |.alloc ty z=>match Jd z with
   |some l=>K (.ptr nx 0) 0 (kn nx) (h.set nx (Z (.cells (Z ty) l))) (nx+1)
   |none=>U
  |.box ty x=>match e9 e x with
   |some v=>(match v.cs with|some l=>K (.ptr nx 0) 0 (kn nx) (h.set nx (Z (.cells (Z ty) l))) (nx+1)|none=>U)
   |none=>U
  |.build z parts=>match Jd z with
   |some l=>(match Iq l e parts with|some cs=>K (.agg cs) 0 0 h nx|none=>U)
   |none=>U
  |.load sz ag x=>match e9 e x with
   |some (.ptr id off)=>(match h.get id with
    |some (.cells (Z _) l)=>(match R4 l off sz ag with|some v=>K v (kn id) 0 h nx|none=>U)
    |_=>U)
   |some (.pel id sz' j off)=>(match h.get id with
    |some (.rows _ _ T xs)=>if ax sz' T.size then chk (fm j xs.length) λ_=>(match nS 40 T (aH xs j) off sz ag with|some v=>K v (kn id) 0 h nx|none=>U) else U
    |some (.cells (Z _) l)=>(match ag with
     |true=>U
     |false=>if ax sz 1&&ax sz' 1&&ax off 0 then (match Zz l with
      |some ⟨T,xs⟩=>chk (fm j l.length) λ_=>K (.f T (aH xs j)) (kn id) 0 h nx
      |none=>U) else U)
    |_=>U)
   |some (.fel T xs j _ off)=>(match nS 40 T (aH xs j) off sz ag with|some v=>K v 0 0 h nx|none=>U)
   |_=>U
  |.store sz x v=>match e9 e x,e9 e v with
   |some (.ptr id off),Z y=>(match h.get id with
    |some (.cells (Z ty) l)=>(match y.cs with
     |some cs=>if cs.length==sz&&dN (off+sz) l.length then K .undef (kn id) (kn id) (h.set id (Z (.cells (Z ty) (splice l off cs)))) nx else U
     |none=>U)
    |_=>U)
   |some (.pel id sz' j off),Z y=>(match h.get id with
    |some (.rows ty p T xs)=>if ax sz' T.size then chk (fm j xs.length) λ_=>(match gH h y 40 T (aH xs j) off sz with
     |some (z,m)=>if aO m id then U else K .undef (m|||kn id) (m|||kn id) ((d9 m h).set id (Z (.rows ty p T (cJ xs j z)))) nx
     |none=>U) else U
    |some (.cells (Z ty) l)=>if ax sz 1&&(ax sz' 1&&ax off 0) then chk (fm j l.length) λ_=>(match y.cs with
     |some cs=>if ax cs.length 1 then K .undef (kn id) (kn id) (h.set id (Z (.cells (Z ty) (splice l j.toNat cs)))) nx else U
     |none=>U) else U
    |_=>U)
   |_,_=>U
  |.nilc x=>match e9 e x with
   |some (.ptr id off)=>K (.ptr id off) 0 0 h nx
   |some (.pel id sz j off)=>K (.pel id sz j off) 0 0 h nx
   |some (.fel T xs j hj off)=>K (.fel T xs j hj off) 0 0 h nx
   |some (.clo g cap)=>K (.clo g cap) 0 0 h nx
   |_=>U
  |.bin op x y=>match e9 e x,e9 e y with
   |some u,Z v=>af7 op u v λr=>K r 0 0 h nx
   |_,_=>U
  |.eqs neg ds x y=>match qF ds,e9 e x,e9 e y with
   |some T,Z u,Z v=>if u.isC||v.isC||Sv x||Sv y then U else (match u.cs,v.cs with
    |some lu,Z lv=>(match eK PT.leaf 40 T lu,eK PT.leaf 40 T lv with
     |some (a,_,[]),Z (b,_,[])=>K (.f .bool (L2 T a b !=neg)) 0 0 h nx
     |_,_=>U)
    |_,_=>U)
   |_,_,_=>U
  |.isnil neg x=>match e9 e x with
   |some .nil=>K (.f .bool (!neg)) 0 0 h nx
   |some .emp=>K .anyb 0 0 h nx
   |some (.f (.sl _) xs)=>aE (ax (ah xs) 0) (K .anyb 0 0 h nx) (K (.f .bool neg) 0 0 h nx)
   |some (.row id)=>(match h.get id with
    |some (.rows _ aa _ _)=>K (.f .bool neg) 0 0 h nx
    |_=>U)
   |_=>U
  |.eqb neg x y=>match e9 e x,e9 e y with
   |some (.f .bool a),Z (.f .bool b)=>K (.f .bool ((a==b) !=neg)) 0 0 h nx
   |_,_=>U
  |.not x=>match e9 e x with|some (.f .bool b)=>K (.f .bool (!b)) 0 0 h nx|_=>U
  |.conv k x=>match e9 e x with|some (.f (.int _) n)=>K (.f (.int k) (aZ k n)) 0 0 h nx|_=>U
  |.slc sz x lo hi mx=>match e9 e x with
   |some v=>(match lo,hi,mx with
    |none,Z (.const (.int _ 0)),Z (.const (.int _ 0))=>if (lenOf h v).isSome then K .emp 0 0 h nx else U
    |none,Z b,U=>(match v,e9 e b with
     |.f (.sl T) xs,Z (.f (.int _) j)=>if ax sz T.size then chk (cL 0 j&&cL j (ah xs)) λ_=>K (.f (.sl T) (dh (aP j) xs)) 0 0 h nx else U
     |.row id,Z (.f (.int _) j)=>(match h.get id with
      |some (.rows ty p T xs)=>if ax sz T.size then
        chk (cL 0 j&&fI j (ah xs)) λ_=>K (.row nx) (kn id) (kn id|||kn nx) ((h.set id (Z (.dead p sz (ah xs)))).set nx (Z (.rows ty aa T (dh (aP j) xs)))) (nx+1)
       else U
      |_=>U)
     |_,_=>U)
    |some b,U,U=>(match v,e9 e b with
     |.f (.sl T) xs,Z (.f (.int _) j)=>if ax sz T.size then chk (cL 0 j&&cL j (ah xs)) λ_=>K (.f (.sl T) (List.drop (aP j) xs)) 0 0 h nx else U
     |.row id,Z (.f (.int _) j)=>(match h.get id with
      |some (.rows _ _ T xs)=>if ax sz T.size then chk (cL 0 j&&fI j (ah xs)) λ_=>K (.rtl id j) 0 0 h nx else U
      |_=>U)
     |_,_=>U)
    |none,Z b,Z b'=>(match v,e9 e b,e9 e b' with
     |.f (.sl T) xs,Z (.f (.int _) j),Z (.f (.int _) j')=>if ax sz T.size then chk ((decide (j=j')&&cL 0 j)&&cL j (ah xs)) λ_=>K (.ful T (dh (aP j) xs)) 0 0 h nx else U
     |_,_,_=>U)
    |_,_,_=>U)
   |none=>U
  |.fad off x=>match e9 e x with
   |some (.ptr id o)=>K (.ptr id (o+off)) 0 0 h nx
   |some (.pel id sz j o)=>K (.pel id sz j (o+off)) 0 0 h nx
   |some (.fel T xs j hj o)=>K (.fel T xs j hj (o+off)) 0 0 h nx
   |_=>U
  |.fld off sz ag x=>match e9 e x with
   |some (.agg l)=>(match R4 l off sz ag with|some v=>K v 0 0 h nx|none=>U)
   |some (.f T v)=>if T.one then U else (match nS 40 T v off sz ag with|some v=>K v 0 0 h nx|none=>U)
   |_=>U
  |.iad sz x i=>match e9 e x,e9 e i with
   |some (.row id),Z (.f (.int _) j)=>(match h.get id with
    |some (.rows _ _ T xs)=>if ax sz T.size then chk (fm j xs.length) λ_=>K (.pel id sz j 0) 0 0 h nx else U
    |_=>U)
   |some (.f (.sl T) xs),Z (.f (.int _) j)=>if ax sz T.size then chk (fm j (ah xs)) λhj=>K (.fel T xs j hj 0) 0 0 h nx else U
   |some (.csl id sz' n),Z (.f (.int _) j)=>if ax sz' sz then chk (cL 0 j&&fI j n) λ_=>K (.ptr id (aP j*sz)) 0 0 h nx else U
   |_,_=>U
  |.iada n sz x i=>match e9 e x,e9 e i with
   |some (.ptr id off),Z (.f (.int _) j)=>(match arrB n sz off (h.get id) with
    |some _=>chk (cL 0 j&&fI j n) λ_=>K (.pel id sz j off) 0 0 h nx
    |none=>chk (cL 0 j&&fI j n) λ_=>K (.ptr id (off+aP j*sz)) 0 0 h nx)
   |_,_=>U
  |.idx n sz ag x i=>match e9 e x,e9 e i with
   |some v,Z (.f (.int _) j)=>(match ahu n sz v ag with
    |some ⟨T,xs⟩=>chk (cL 0 j&&fI j n) λ_=>K (.f T (aH xs j)) 0 0 h nx
    |none=>(match v with
     |.agg l=>chk (cL 0 j&&fI j n) λ_=>(match R4 l (aP j*sz) sz ag with|some v=>K v 0 0 h nx|none=>U)
     |.f T v=>if T.one then U else chk (cL 0 j&&fI j n) λ_=>(match nS 40 T v (aP j*sz) sz ag with|some v=>K v 0 0 h nx|none=>U)
     |_=>U))
   |_,_=>U
  |.ext x i=>match e9 e x with|some (.tup l)=>(match l[i]? with|some v=>K v 0 0 h nx|none=>U)|_=>U
  |.len x=>match e9 e x with
   |some v=>(match lenOf h v with|some n=>K (.f (.int .i64) (aT n)) 0 0 h nx|none=>U)
   |none=>U
  |.lens x=>match e9 e x with
   |some (.f .str s)=>K (.f (.int .i64) (aT (ah s))) 0 0 h nx
   |_=>U
  |.max x y=>match e9 e x,e9 e y with
   |some (.f (.int k) a),Z (.f (.int k') b)=>if k==k' then K (.f (.int k) (lh a b)) 0 0 h nx else U
   |_,_=>U
  |.min x y=>match e9 e x,e9 e y with
   |some (.f (.int k) a),Z (.f (.int k') b)=>if k==k' then K (.f (.int k) (FJ a b)) 0 0 h nx else U
   |_,_=>U
  |.sidx x i=>match e9 e x,e9 e i with
   |some (.f .str s),Z (.f (.int _) j)=>chk (fm j (ah s)) λ_=>K (.f (.int .u8) (qB s j)) 0 0 h nx
   |_,_=>U
  |.rng x=>match e9 e x with
   |some (.f .str s)=>K (.ptr nx 0) 0 (0|||kn nx) ((d9 0 h).set nx (Z (.mp itK .un [((s,0),())]))) (nx+1)
   |_=>U
  |.nxt x=>match e9 e x with
   |some (.ptr id 0)=>(match h.get id with
    |some (.mp K' V es)=>(match itE K' V es with
     |some (s,p)=>aE (eP p (ah s)) (K (.tup [.f .bool M,.f (.int .i64) (aT p),.f (.int .i32) (MR s p)]) (kn id) (0|||kn id) ((d9 0 h).set id (Z (.mp itK .un [((s,aT (p+RU s p)),())]))) nx)
       (K (.tup [.f .bool aa]) (kn id) (0|||kn id) ((d9 0 h).set id (Z (.mp itK .un [((s,aT p),())]))) nx)
     |none=>U)
    |_=>U)
   |_=>U
  |.mkm=>K (.mp nx) 0 (0|||kn nx) ((d9 0 h).set nx (Z (.mp .un .un []))) (nx+1)
  |.lku str ok z x k=>match e9 e x,e9 e k with
   |some (.mp id),Z (.f KT D)=>(match h.get id with
    |some (.mp K' V es)=>if V0 str KT&&Sn K' then (match mpE K' V es with
     |true=>(match cst z with|some v=>K (pkT ok v (.f .bool aa)) (kn id) 0 h nx|none=>U)
     |false=>(match sF (S:=KT) K' D,cst z with
      |some kv',Z (.f A L)=>(match sF (S:=A) V L with
       |some zv'=>K (pkT ok (.f V (sw kv' es zv')) (.f .bool (aer kv' es))) (kn id) 0 h nx
       |none=>U)
      |_,_=>U)) else U
    |some (.cells U l)=>(match sF (S:=KT) (.int .i64) D with
     |some n=>if !str&&(!ok&&sO z)&&(cL 0 n&&fI n l.length) then (match l[aP n]? with|some v=>K v (kn id) 0 h nx|none=>U) else U
     |none=>U)
    |_=>U)
   |_,_=>U
  |.mup str x k v=>match e9 e x,e9 e k,e9 e v with
   |some (.mp id),Z (.f KT D),Z (.f VT I)=>(match h.get id with
    |some (.mp K' V es)=>if (V0 str KT&&VT.one)&&Sn K' then (match mpE K' V es with
     |true=>K .undef (kn id) (0|||kn id) ((d9 0 h).set id (Z (.mp KT VT [(D,I)]))) nx
     |false=>(match sF (S:=KT) K' D,sF (S:=VT) V I with
      |some kv',Z vv'=>K .undef (kn id) (0|||kn id) ((d9 0 h).set id (Z (.mp K' V (xT kv' vv' es)))) nx
      |_,_=>U)) else U
    |_=>U)
   |some (.mp id),Z (.f KT D),Z (.row i)=>(match h.get id with
    |some (.cells U l)=>(match sF (S:=KT) (.int .i64) D with
     |some n=>if !str&&(cL 0 n&&fI n l.length) then K .undef (kn id) (0|||kn id) ((d9 0 h).set id (Z (.cells U (splice l (aP n) [.row i])))) nx else U
     |none=>U)
    |_=>U)
   |_,_,_=>U
  |.lenm x=>match e9 e x with
   |some (.mp id)=>(match h.get id with
    |some (.mp K' _ es)=>if Sn K' then K (.f (.int .i64) (aT es.length)) (kn id) 0 h nx else U
    |_=>U)
   |_=>U
  |.mkf f caps=>match Ez e caps with|some l=>K (.clo f l) 0 0 h nx|none=>U
  |_=>U
def XW {R:Type} (e:iJ) (g:J (Nat×Bool)) (K:Bool->iJ->J R):J R:=match g with
 |none=>K M e
 |some (t,want)=>match e.get t with
  |some (.f .bool b)=>(match want with
   |true=>aE b (K M (e.set t (Z (.f .bool M)))) (K aa (e.set t (Z (.f .bool aa))))
   |false=>aE b (K aa (e.set t (Z (.f .bool M)))) (K M (e.set t (Z (.f .bool aa)))))
  |some .undef=>K aa e
  |_=>U
def Dc (e:iJ) (d:J Nat) (v:TV):iJ:=match d with
 |none=>e
 |some d=>e.set d (Z v)
structure TS where
 e:iJ
 h:bl
 nx:Nat
def Kj {R:Type} (con:FuncId->J ch) (bZ:TypeId->J Ty):Y r8->TS->Y Z_->(TS->Y Z_->J R)->J R
 |[],s,fs,K=>K s fs.reverse
 |o::r,s,fs,K=>XW s.e o.guard λrun e=>match run with
  |true=>dS con bZ o.op e s.h s.nx λv rd wr h nx=>if Km h v then Kj con bZ r ⟨Dc e o.dst v,h,nx⟩ (⟨rd,wr⟩::fs) K else U
  |false=>Kj con bZ r ⟨Dc e o.dst .undef,s.h,s.nx⟩ (⟨0,0⟩::fs) K
inductive Adj where
 |nil (k:Nat) (ty:TypeId) (T:Ty)
 |cel (k:Nat) (off:Nat) (ty:TypeId) (T:Ty)
 |mpt (k:Nat) (K V:Ty)
 |mz (k n:Nat)
 |pk (k:Nat) (off:Nat) (T:Ty)
 |ren (k:Nat) (off:Nat)
mutual
def Kb (id sz n:Nat):TV->TV
 |.csl i s m=>if ax i id&&ax s sz&&ax m n then .row id else .csl i s m
 |.agg l=>.agg (Br id sz n l)
 |.tup l=>.tup (Br id sz n l)
 |.clo g l=>.clo g (Br id sz n l)
 |.f T v=>.f T v
 |.fel T xs j h off=>.fel T xs j h off
 |.pel a b c d=>.pel a b c d
 |.ptr a b=>.ptr a b
 |.row a=>.row a
 |.rtl a j=>.rtl a j
 |.ful T xs=>.ful T xs
 |.emp=>.emp
 |.nil=>.nil
 |.mp a=>.mp a
 |.undef=>.undef
 |.np=>.np
 |.anyb=>.anyb
def Br (id sz n:Nat):Y TV->Y TV
 |[]=>[]
 |x::r=>Kb id sz n x::Br id sz n r
end
def VH (id sz n:Nat):hX->hX
 |.cells ty l=>.cells ty (Br id sz n l)
 |.rows ty p T xs=>.rows ty p T xs
 |.dead p s m=>.dead p s m
 |.mp K V es=>.mp K V es
def ai5 (s:TS) (k off:Nat):J (Nat×Nat×Nat):=match s.e.get k with
 |some (.csl id sz n)=>Z (id,sz,n)
 |some (.agg l)=>(match l[off]? with|some (.csl id sz n)=>Z (id,sz,n)|_=>U)
 |some (.ptr a o)=>(match s.h.get a with
  |some (.cells (Z _) l)=>(match l[o+off]? with|some (.csl id sz n)=>Z (id,sz,n)|_=>U)
  |_=>U)
 |_=>U
def pkS (s:TS) (T:Ty) (id sz n:Nat):J TS:=match s.h.get id with
 |some (.cells (Z ty) l)=>if ax sz T.size then (match xN s.h T n l with
  |some (xs,m)=>if aO m id then U else Z ⟨PT.updI (λ_ v=>Kb id sz n v) 1 0 s.e,(PT.updI (λ_ b=>VH id sz n b) 1 0 (d9 m s.h)).set id (Z (.rows ty aa T xs)),s.nx⟩
  |none=>U) else U
 |_=>U
def abd:TV->Bool
 |.nil=>M
 |.emp=>M
 |_=>aa
def ahn:J TV->J (Nat×Nat)
 |some (.ptr id o)=>Z (id,o)
 |some (.csl id _ _)=>Z (id,0)
 |some (.mp id)=>Z (id,0)
 |_=>U
def Lc (s:TS):Adj->J TS
 |.nil k ty T=>match s.e.get k with
  |some v=>if abd v then Z ⟨s.e.set k (Z (.row s.nx)),s.h.set s.nx (Z (.rows ty M T [])),s.nx+1⟩ else Z s
  |none=>U
 |.cel k off ty T=>match ahn (s.e.get k) with
  |some (id,o)=>(match s.h.get id with
   |some (.cells cty l)=>(match l[o+off]? with
    |some v=>if abd v then Z ⟨s.e,(s.h.set s.nx (Z (.rows ty M T []))).set id (Z (.cells cty (splice l (o+off) [.row s.nx]))),s.nx+1⟩ else Z s
    |none=>U)
   |_=>U)
  |_=>U
 |.mpt k K V=>match s.e.get k with
  |some (.mp id)=>(match s.h.get id with
   |some (.mp K' V' es)=>(match mpE K' V' es&&Sn K with
    |true=>Z ⟨s.e,s.h.set id (Z (.mp K V [])),s.nx⟩
    |false=>Z s)
   |_=>U)
  |_=>U
 |.mz k n=>match s.e.get k with
  |some (.mp id)=>(match s.h.get id with
   |some (.mp K' V' es)=>(match mpE K' V' es with
    |true=>Z ⟨s.e,s.h.set id (Z (.cells U (aA n .nil))),s.nx⟩
    |false=>U)
   |_=>Z s)
  |_=>U
 |.pk k off T=>match ai5 s k off with
  |some (id,sz,n)=>pkS s T id sz n
  |none=>U
 |.ren k off=>match s.e.get k with
  |some (.ptr b o)=>(match s.h.get b with
   |some (.cells (Z cty) l)=>(match l[o+off]? with
    |some (.row id)=>(match s.h.get id with
     |some (.rows ty p T xs)=>Z ⟨s.e,((s.h.set id (Z (.dead p T.size xs.length))).set s.nx (Z (.rows ty p T xs))).set b (Z (.cells (Z cty) (splice l (o+off) [.row s.nx]))),s.nx+1⟩
     |_=>U)
    |_=>U)
   |_=>U)
  |some (.row id)=>(match s.h.get id with
   |some (.rows ty p T xs)=>Z ⟨s.e.set k (Z (.row s.nx)),(s.h.set id (Z (.dead p T.size xs.length))).set s.nx (Z (.rows ty p T xs)),s.nx+1⟩
   |_=>U)
  |_=>U
def W2 (s:TS):Y Adj->J TS
 |[]=>Z s
 |a::r=>match Lc s a with|some s'=>W2 s' r|none=>U
structure XP where
 keep:ι
 ks:ι
 t:Tm
 pre:List Adj
abbrev XP.D (A:XP):Type:=A.t.ty.den
mutual
def tG:TV->Bool
 |.f _ _=>M
 |.fel _ _ _ _ _=>M
 |.emp=>M
 |.nil=>M
 |.undef=>M
 |.np=>M
 |.anyb=>M
 |.agg l=>qd l
 |.tup l=>qd l
 |.pel _ _ _ _=>aa
 |.ptr _ _=>aa
 |.csl _ _ _=>aa
 |.row _=>aa
 |.rtl _ _=>aa
 |.ful _ _=>aa
 |.mp _=>aa
 |.clo _ _=>aa
def qd:Y TV->Bool
 |[]=>M
 |x::r=>tG x&&qd r
end
def BU (am:Nat) (e:iJ):ι->iJ
 |[]=>PT.leaf
 |k::r=>match e.get k with|some v=>if tG v&& !(aO am k) then (BU am e r).set k (Z v) else BU am e r|none=>BU am e r
def nM (e:iJ):ι->J (Y TV)
 |[]=>Z []
 |k::r=>match e.get k with|some v=>(match nM e r with|some l=>Z (v::l)|none=>U)|none=>U
def VM (e:iJ):ι->Y TV->iJ
 |k::r,v::l=>(VM e r l).set k (Z v)
 |_,_=>e
def GM (am:Nat) (e0 e:iJ):ι->Bool
 |[]=>M
 |k::r=>(match e0.get k with
  |some v=> !(tG v)||aO am k||(match e.get k with|some _=>M|none=>aa)
  |none=>M)&&GM am e0 e r
def KM (np:Nat) (A:XP) (am:Nat) (d s:TS):J A.D:=if dN np A.t.bs.length&&GM am d.e s.e A.keep then (match W2 s A.pre with
 |some s=>(match nM s.e A.ks with
  |some vs=>(match Dk np A.t vs s.h with
   |some ⟨x,_,_,_⟩=>Z x
   |none=>U)
  |none=>U)
 |none=>U) else U
def FC (A:XP) (am:Nat) (s:TS) (x:A.D):J TS:=match BV A.t x with
 |some (vs,h)=>if ax vs.length A.ks.length then Z ⟨VM (BU am s.e A.keep) A.ks vs,h,A.t.bs.length⟩ else U
 |none=>U
inductive TC where
 |skip
 |reg (ops:List r8) (prs:List (Nat×Nat))
 |seq (a b:TC)
 |jseq (A:XP) (a b:TC)
 |cond (c:Nat) (a b:TC)
 |block (id:Nat) (b:TC)
 |jblock (A:XP) (id:Nat) (b:TC)
 |loop (A:XP) (b:TC)
 |exit (id:Nat)
 |ret
 |defer (f:FuncId) (caps:List Operand) (t:Nat)
 |adj (l:List Adj) (c:TC)
 |split (k off lo n:Nat) (c:TC)
 |bsp (t:Nat) (a b:TC)
 |unl (n:Nat) (b:TC)
 |bad
def N6:Y r8->Nat->Nat
 |[],acc=>acc
 |o::r,acc=>N6 r (match o.dst with|some d=>acc|||kn d|none=>acc)
def Kp:ι->Nat->Nat
 |[],acc=>acc
 |k::r,acc=>Kp r (acc|||kn k)
def mh:Y Adj->Nat->Nat
 |[],acc=>acc
 |.nil k _ _::r,acc=>mh r (acc|||kn k)
 |.cel _ _ _ _::r,acc=>mh r acc
 |.mpt _ _ _::r,acc=>mh r acc
 |.mz _ _::r,acc=>mh r acc
 |.pk _ _ _::r,acc=>mh r acc
 |.ren k _::r,acc=>mh r (acc|||kn k)
def TC.asg:TC->Nat->Nat
 |.reg ops _,acc=>N6 ops acc
 |.seq a b,acc=>b.asg (a.asg acc)
 |.jseq A a b,acc=>b.asg (a.asg (Kp A.ks acc))
 |.cond _ a b,acc=>b.asg (a.asg acc)
 |.block _ b,acc=>b.asg acc
 |.jblock A _ b,acc=>b.asg (Kp A.ks acc)
 |.loop A b,acc=>b.asg (Kp A.ks acc)
 |.defer _ _ t,acc=>acc|||kn t
 |.adj l c,acc=>c.asg (mh l acc)
 |.split _ _ _ _ c,acc=>c.asg acc
 |.bsp _ a b,acc=>b.asg (a.asg acc)
 |.unl _ b,acc=>b.asg acc
 |.skip,acc=>acc
 |.exit _,acc=>acc
 |.ret,acc=>acc
 |.bad,acc=>acc
inductive Z8 where
 |j (A:XP)
 |a (l:List Adj)
 |s (k off lo n:Nat)
 |b (t k off lo n:Nat)
 |u (n:Nat)
def G_ (H:PT Z8) (n:Nat) (c:TC):TC:=match H.get n with|some (.a l)=>.adj l c|some (.s k off lo m)=>.split k off lo m c|some (.b t k off lo m)=>.bsp t (.split k off lo m c) c|_=>c
def CF (H:PT Z8):SC->Nat->TC×Nat
 |.skip,n=>(G_ H n .skip,n+1)
 |.reg o p,n=>(G_ H n (.reg o p),n+1)
 |.seq a b,n=>match CF H a (n+1) with
  |(a',k)=>(match CF H b k with|(b',k')=>((match H.get n with|some (.j A)=>.jseq A a' b'|_=>.seq a' b'),k'))
 |.cond c a b,n=>match CF H a (n+1) with
  |(a',k)=>(match CF H b k with|(b',k')=>(G_ H n (.cond c a' b'),k'))
 |.block id b,n=>match CF H b (n+1) with|(b',k)=>((match H.get n with|some (.j A)=>.jblock A id b'|_=>.block id b'),k)
 |.loop b,n=>match CF H b (n+1) with|(b',k)=>((match H.get n with|some (.j A)=>.loop A b'|some (.u m)=>.unl m b'|_=>.bad),k)
 |.exit id,n=>(G_ H n (.exit id),n+1)
 |.ret,n=>(G_ H n .ret,n+1)
 |.defer f c t,n=>(.defer f c t,n+1)
 |.bad,n=>(.bad,n+1)
def YH (s:TS) (k off:Nat):J (IntKind×Int):=match s.e.get k with
 |some (.f (.int kd) v)=>Z (kd,v)
 |some (.ptr a o)=>(match s.h.get a with
  |some (.cells (Z _) l)=>(match l[o+off]? with|some (.f (.int kd) v)=>Z (kd,v)|_=>U)
  |_=>U)
 |_=>U
def R9 (s:TS) (k off:Nat) (kd:IntKind) (v:Int):J TS:=match s.e.get k with
 |some (.f (.int _) _)=>Z ⟨s.e.set k (Z (.f (.int kd) v)),s.h,s.nx⟩
 |some (.ptr a o)=>(match s.h.get a with
  |some (.cells (Z ty) l)=>Z ⟨s.e,s.h.set a (Z (.cells (Z ty) (splice l (o+off) [.f (.int kd) v]))),s.nx⟩
  |_=>U)
 |_=>U
def spl {R:Type} (v:Int) (f:Nat->J R):Nat->Nat->J R
 |_,0=>U
 |i,m+1=>aE (decide ((v:Int)=aT i)) (f i) (spl v f (i+1) m)
def aaj {R:Type} (f:TS->(Ex->TS->J R)->J R):Nat->TS->(Ex->TS->J R)->J R
 |0,_,_=>U
 |m+1,s,K=>f s λex s'=>match ex with
  |.normal=>aaj f m s' K
  |ex=>K ex s'
def nu {R:Type} (np:Nat) (con:FuncId->J ch) (bZ:TypeId->J Ty) (inert:FuncId->Bool):TC->TS->(Ex->TS->J R)->J R
 |.skip,s,K=>K .normal s
 |.reg ops prs,s,K=>Kj con bZ ops s [] λs' fs=>if Ey fs prs then K .normal s' else U
 |.seq a b,s,K=>nu np con bZ inert a s λex s'=>match ex with|.normal=>nu np con bZ inert b s' K|ex=>K ex s'
 |.jseq A a b,s,K=>jn (nu np con bZ inert a s λex s'=>match ex with
   |.normal=>av (KM np A (a.asg 0) s s') λx=>Z (.inr x)
   |ex=>av (K ex s') λr=>Z (.inl r)) λx=>(match FC A (a.asg 0) s x with|some s'=>nu np con bZ inert b s' K|none=>U)
 |.cond c a b,s,K=>match s.e.get c with
  |some (.f .bool t)=>aE t (nu np con bZ inert a s K) (nu np con bZ inert b s K)
  |some .anyb=>D' (nu np con bZ inert a s K) (nu np con bZ inert b s K)
  |_=>U
 |.block id b,s,K=>nu np con bZ inert b s λex s'=>match ex with
  |.exit i=>if ax i id then K .normal s' else K (.exit i) s'
  |ex=>K ex s'
 |.jblock A id b,s,K=>jn (nu np con bZ inert b s λex s'=>match ex with
   |.normal=>av (KM np A (b.asg 0) s s') λx=>Z (.inr x)
   |.exit i=>if ax i id then av (KM np A (b.asg 0) s s') λx=>Z (.inr x) else av (K (.exit i) s') λr=>Z (.inl r)
   |.ret=>av (K .ret s') λr=>Z (.inl r)) λx=>(match FC A (b.asg 0) s x with|some s'=>K .normal s'|none=>U)
 |.loop A b,s,K=>av (KM np A (b.asg 0) s s) λx=>iter (λx=>match FC A (b.asg 0) s x with
   |some s'=>nu np con bZ inert b s' λex s'=>(match ex with
    |.normal=>av (KM np A (b.asg 0) s s') λy=>Z (.inl y)
    |ex=>av (K ex s') λr=>Z (.inr r))
   |none=>U) x
 |.exit id,s,K=>K (.exit id) s
 |.ret,s,K=>K .ret s
 |.defer f caps t,s,K=>match Ez s.e caps with
  |some l=>if inert f then K .normal ⟨s.e.set t (Z (.clo f l)),s.h,s.nx⟩ else U
  |none=>U
 |.adj l c,s,K=>match W2 s l with|some s'=>nu np con bZ inert c s' K|none=>U
 |.split k off lo n c,s,K=>match YH s k off with
  |some (kd,v)=>spl v (λi=>match R9 s k off kd (aT i) with|some s'=>nu np con bZ inert c s' K|none=>U) lo n
  |none=>U
 |.bsp t a b,s,K=>match s.e.get t with
  |some (.f .bool v)=>aE v (nu np con bZ inert a ⟨s.e.set t (Z (.f .bool M)),s.h,s.nx⟩ K) (nu np con bZ inert b ⟨s.e.set t (Z (.f .bool aa)),s.h,s.nx⟩ K)
  |_=>U
 |.unl n b,s,K=>aaj (λs K=>nu np con bZ inert b s K) n s K
 |.bad,_,_=>U
def JD:Nat->Y TV->iJ
 |_,[]=>PT.leaf
 |k,x::r=>(JD (k+1) r).set k (Z x)
def rvT (s:TS):RV->J TV
 |.tmp t=>s.e.get t
 |.cell a sz ag=>match s.e.get a with
  |some (.ptr id off)=>(match s.h.get id with|some (.cells (Z _) l)=>R4 l off sz ag|_=>U)
  |_=>U
def Sa (s:TS):Y RV->J (Y TV)
 |[]=>Z []
 |x::r=>match rvT s x with|some v=>(match Sa s r with|some l=>Z (v::l)|none=>U)|none=>U
structure FT where
 pre:Tm
 post:Tm
 hints:PT Z8
def X5 (con:FuncId->J ch) (bZ:TypeId->J Ty) (inert:FuncId->Bool) (F:J SF) (D:FT) (x:D.pre.ty.den):J D.post.ty.den:=
 match F with
 |some d=>(match BV D.pre x with
  |some (args,h)=>if dN args.length d.nt&&dN D.pre.bs.length D.post.bs.length then
    nu D.pre.bs.length con bZ inert (CF D.hints d.code 0).1 ⟨JD 0 args,h,D.pre.bs.length⟩ λex s=>(match ex with
    |.exit _=>U
    |_=>(match Sa s d.res with
     |some l=>(match Dk D.pre.bs.length D.post l s.h with
      |some ⟨y,_,_,_⟩=>(match BV D.post y with|some _=>Z y|none=>U)
      |none=>U)
     |none=>U)) else U
  |none=>U)
 |none=>U
abbrev aM:Ty:=(.int .i64)
abbrev kB:Ty:=(.st (.pr .str (.pr aM (.pr aM (.pr .bool aM)))))
abbrev qr:Ty:=(.st (.pr .str .bool))
abbrev ll:Ty:=(.st (.pr .str aM))
abbrev nQ:Ty:=(.st (.pr aM (.pr aM aM)))
abbrev nj:Ty:=(.st (.pr (.sl kB) (.pr (.sl qr) (.pr (.sl ll) (.pr (.sl .str) (.pr (.sl .str) (.sl nQ)))))))
abbrev uR:Ty:=(.sl (.sl aM))
abbrev eG:Ty:=(.st (.pr aM (.pr (.sl aM) (.pr uR aM))))
abbrev qz:Ty:=(.st (.pr aM (.pr aM (.pr aM (.pr aM (.pr aM aM))))))
abbrev dl:Ty:=(.st (.pr aM (.sl aM)))
abbrev l9:Ty:=(.sl .bool)
abbrev gC:Ty:=(.st (.pr aM (.pr aM .bool)))
abbrev CX:Ty:=(.st (.pr (.sl dl) (.pr aM (.pr l9 (.sl gC)))))
abbrev fZ:Ty:=(.st (.pr aM (.pr aM (.pr aM (.pr aM (.pr aM (.pr (.sl aM) (.sl aM))))))))
abbrev Fx:Ty:=(.st (.pr aM (.pr aM (.pr .str (.pr aM (.pr aM .str))))))
abbrev sq:Ty:=(.st (.pr .str (.pr aM (.pr (.sl .str) (.sl .sm)))))
abbrev Mw:Ty:=(.st (.pr (.sl Fx) (.sl sq)))
abbrev vS:Ty:=(.st (.pr aM (.sl qz)))
abbrev tY:Ty:=(.st (.pr nj (.sl vS)))
abbrev uS:Ty:=(.st (.pr CX (.pr (.sl aM) (.pr (.sl aM) (.sl eG)))))
abbrev iK:Ty:=(.st (.pr CX (.pr (.sl aM) (.pr (.sl aM) (.sl aM)))))
abbrev CY:Ty:=(.sl (.int .u8))
abbrev xF:Ty:=(.st (.pr CY aM))
abbrev ij:Ty:=(.st (.pr aM aM))
abbrev Ka24:Ty:=(.st (.pr nj (.sl fZ)))
abbrev Rf:=(ζ×Int×Int×Bool×Int)
abbrev ne:=(Y Rf)
abbrev mi:=(Y (ζ×Bool))
abbrev jw:=(ζ×Int)
abbrev dg:=(Y ζ)
abbrev eX:=(ne×mi×(Y jw)×dg×dg×Y ν)
abbrev rL:=(ne×mi×(Y jw)×dg×dg×(Y ν)×dg×Int×Int)
abbrev iG:=(Y (Int×η))
abbrev dG:=(Int×Int×Bool)
abbrev pG:=(iG×Int×(θ)×Y dG)
abbrev uO:=(Int×(η)×(Y η)×Int)
abbrev k9:=(ω)
abbrev jN:=(Int×Int×Int×Int×Int×(η)×η)
abbrev afe:=(Int×Int×(ζ)×Int×Int×ζ)
abbrev vQ:=(Y afe)
abbrev vP:=(ζ×Int×dg×Y Sx)
abbrev Bl:=(Int×Int×Bool×Bool×Bool×Bool)
abbrev Bk:=(eX×Y (Int×Y k9))
abbrev CV:=(υ)
abbrev fP:=(pG×(η)×(η)×η)
abbrev gP:=(η×Int)
abbrev wR:=(pG×(η)×(η)×Y uO)
abbrev Ui:=(Int×Int×(ζ)×(ζ)×Int×Int×ζ)
abbrev wQ:=(vQ×(Y vP)×Int)
abbrev Rg:=(Bool×Y ζ)
abbrev Ya23:=(Int×Int×uO×uO×Int×(η)×(Y η)×Int)
abbrev Ya24:=(uO×Int×Int×uO×Int×(η)×(Y η)×Int)
abbrev Ya25:=(uO×uO×Int×Int×Int×(η)×(Y η)×Int)
abbrev ZJ:=((Y Sx)×Bl×gP×Bool×Y ζ)
abbrev Ya27:=(Int×Int×uO×Int×(η)×(Y η)×Int)
abbrev Ya28:=(uO×Int×Int×Int×(η)×(Y η)×Int)
abbrev Ya29:=(Int×Int×Int×(η)×(Y η)×Int)
abbrev W4:=(Int×Bl×gP×Bool×Y ζ)
abbrev ZI:=(Sx×Bl×gP×Bool×Y ζ)
abbrev acl:=(Γ×wQ×(Bool×Y Sx)×dg×Y ζ)
abbrev Ld:=(Sx×rL×Y k9)
abbrev CU:=(wR×jN×Bool)
abbrev ZH:=((Sx×Int×Int×Int)×rL×Y k9)
abbrev ack:=(Γ×Bl×gP×Bool×Y ζ)
abbrev acj:=(jw×Bl×gP×Bool×Y ζ)
abbrev W3:=(Bl×gP×Rg×Y Sx)
abbrev aci:=(Xp×Bl×gP×Bool×Y ζ)
abbrev Ya42:=(uO×uO×uO×Int×Int)
abbrev ZG:=((Y Sx)×rL×Y k9)
abbrev aY {α:Type} (l:Y α):Int:=aT (ah l)
abbrev ct (n:Int):Int:=aZ .i64 (n+1)
abbrev aB {R α:Type} (x:α):J (R⊕α):=Z (b7 x)
abbrev cH {R α:Type} (x:R):J (R⊕α):=Z (nk x)
abbrev bF {R:Type} (T:Ty) (l:Y T.den) (j:Int) (k:T.den->J R):J R:=chk (fm j (ah l)) λ_=>lt (aH (T:=T) l j) k
abbrev kF {R:Type} (T:Ty) (l:Y T.den) (j:Int) (k:T.den->J R):J R:=chk (fm j (ah l)) λ_=>chk (fm j (ah l)) λ_=>lt (aH (T:=T) l j) k
abbrev mF {R α:Type} (j:Int) (l:Y α) (k:J R):J R:=chk (fm j (ah l)) λ_=>k
abbrev bp {R:Type} (b:Bool) (k:J R):J R:=chk b λ_=>k
abbrev bi {R:Type} (a b:Int) (t f:J R):J R:=aE (decide (a=b)) t f
abbrev iA {R:Type} (a b:Int) (t f:J R):J R:=aE (!decide (a=b)) t f
abbrev bx {R:Type} (a b:Int) (t f:J R):J R:=aE (fI a b) t f
abbrev ja {R:Type} (a b:Int) (t f:J R):J R:=aE (cL a b) t f
def ck {R:Type} (b:Bool) (k:J R):J R:=chk b λ_=>chk b λ_=>k
def dW (s:Sx):Sx:=ov (Sx.op s,Sx.line s,Sx.name s,Sx.arg s,Sx.index s,d8 (Xp.op (Sx.expr s),Xp.n (Sx.expr s),Xp.name (Sx.expr s),Xp.l (Sx.expr s)),Sx.body s,Sx.els s)
def oo (x:Unit):J dg:=
 (Z ([[118,97,114],[118,111,108,97,116,105,108,101],[109,117,116,101,120],[114,119,108,111,99,107],[99,111,110,100],[102,117,116,117,114,101],[116,104,114,101,97,100],[105,102],[101,108,115,101],[119,104,105,108,101],[108,111,99,107],[114,101,97,100],[119,114,105,116,101],[116,114,97,110,115,97,99,116,105,111,110],[97,116,111,109,105,99],[119,97,105,116],[110,111,116,105,102,121],[110,111,116,105,102,121,97,108,108],[115,112,97,119,110],[106,111,105,110],[115,101,116],[103,101,116]]))
def jC (x:ζ):J (Bool):=
 (av (oo ()) λd=>(iter (σ:=Int) (λx2=>(bx x2 (aY d) (bF (.str) d x2 λq=>(aE (decide ((q:ζ)=x)) (aB M) (cH (ct x2)))) (aB aa))) 0))
def lx (x:Int):J (Bool):=
 (jn (ja 97 x (ja x 122 (aB M) (ja 65 x (aB (cL x 90)) (aB aa))) (ja 65 x (aB (cL x 90)) (aB aa))) λx1=>(Z x1))
def tw (x:Int):J (Bool):=
 (jn (ja 48 x (aB (cL x 57)) (aB aa)) λx1=>(Z x1))
def pi (x:Int):J (Bool):=
 (jn (av (lx x) λq=>(aE q (aB M) (av (tw x) λd=>(aE d (aB M) (aB (decide ((x:Int)=95))))))) λx1=>(Z x1))
def fb (x:ζ):J (Bool):=
 (jn (bx (aY x) 1 (aB M) (bx 12 (aY x) (aB M) (mF 0 x (av (lx (qB x 0)) λs=>(aE (!s) (aB M) (av (jC x) λq=>(aB q))))))) λx1=>(aE x1 (Z aa) (iter (σ:=Int) (λx4=>(bx x4 (aY x) (mF x4 x (av (pi (qB x x4)) λd=>(aE (!d) (aB aa) (cH (ct x4))))) (aB M))) 0)))
def fD (x:Bool):J (Int):=
 (aE x (Z 1) (Z 0))
def tm (x:Γ):J (Int×Bool):=
 (bi x.1 4 (Z ((aZ .i64 (0-x.2)),M)) (bi x.1 5 (av (fD (decide ((x.2:Int)=0))) λd=>(Z (d,M))) (Z (0,aa))))
def rP (x:ν):J (Int×Bool):=
 (bi x.1 6 (Z ((aZ .i64 (x.2.1+x.2.2)),M)) (bi x.1 7 (Z ((aZ .i64 (x.2.1-x.2.2)),M)) (bi x.1 8 (Z ((aZ .i64 (x.2.1*x.2.2)),M)) (bi x.1 9 (bi x.2.2 0 (Z (0,M)) (bp (!decide ((x.2.2:Int)=0)) (Z ((aZ .i64 (Int.tdiv x.2.1 x.2.2)),M)))) (bi x.1 10 (bi x.2.2 0 (Z (0,M)) (bp (!decide ((x.2.2:Int)=0)) (Z ((bo x.2.1 x.2.2),M)))) (bi x.1 11 (av (fD (decide ((x.2.1:Int)=x.2.2))) λy1=>(Z (y1,M))) (bi x.1 12 (av (fD (!decide ((x.2.1:Int)=x.2.2))) λy2=>(Z (y2,M))) (bi x.1 13 (av (fD (fI x.2.1 x.2.2)) λL=>(Z (L,M))) (bi x.1 14 (av (fD (cL x.2.1 x.2.2)) λI=>(Z (I,M))) (bi x.1 15 (av (fD (fI x.2.2 x.2.1)) λF=>(Z (F,M))) (bi x.1 16 (av (fD (cL x.2.2 x.2.1)) λD=>(Z (D,M))) (bi x.1 17 (jn (iA x.2.1 0 (av (fD (!decide ((x.2.2:Int)=0))) λA=>(aB (A,M))) (av (fD aa) λz=>(aB (z,M)))) λx7=>(Z x7)) (bi x.1 18 (jn (iA x.2.1 0 (av (fD M) λq=>(aB (q,M))) (av (fD (!decide ((x.2.2:Int)=0))) λd=>(aB (d,M)))) λs=>(Z s)) (Z (0,aa)))))))))))))))
def qP (x:Γ):J (Int):=
 (bx x.2 1 (Z 0) (bp (!decide ((x.2:Int)=0)) (jn (bx (bo x.1 x.2) 0 (aB (aZ .i64 ((bo x.1 x.2)+x.2))) (aB (bo x.1 x.2))) λx1=>(Z x1))))
def om (x:Int):J (Int):=
 (jn (bi x 1 (aB M) (aB (decide ((x:Int)=2)))) λx1=>(aE x1 (Z 0) (jn (ja 3 x (aB (cL x 5)) (aB aa)) λx2=>(aE x2 (Z 1) (jn (ja 6 x (aB (cL x 18)) (aB aa)) λx3=>(aE x3 (Z 2) (Z (-1))))))))
def oR (rr02_ShapedExpr:Xp->J (Bool)) (x:Xp):J (Bool):=
 (jn (bi (Xp.op x) 2 (aB (M,d8 ((Xp.op x),(Xp.n x),(Xp.name x),(Xp.l x)))) (aB ((decide (((Xp.op x):Int)=3)),d8 ((Xp.op x),(Xp.n x),(Xp.name x),(Xp.l x))))) λx1=>(jn (α:=Bool×Xp) (av (om (Xp.op x1.2)) λA=>(iA A (aT (ah (Xp.l x1.2))) (aB (M,d8 ((Xp.op x1.2),(Xp.n x1.2),(Xp.name x1.2),(Xp.l x1.2)))) (aE ((x1.1==(!decide (((Xp.name x1.2):ζ)=([])))) !=M) (aB (M,d8 ((Xp.op x1.2),(Xp.n x1.2),(Xp.name x1.2),(Xp.l x1.2)))) (aE x1.1 (av (fb (Xp.name x1.2)) λz=>(aE (!z) (aB (M,d8 ((Xp.op x1.2),(Xp.n x1.2),(Xp.name x1.2),(Xp.l x1.2)))) (bx (Xp.n x1.2) 0 (aB (M,d8 ((Xp.op x1.2),(Xp.n x1.2),(Xp.name x1.2),(Xp.l x1.2)))) (iA (Xp.op x1.2) 1 (aB ((!decide (((Xp.n x1.2):Int)=0)),d8 ((Xp.op x1.2),(Xp.n x1.2),(Xp.name x1.2),(Xp.l x1.2)))) (aB (aa,d8 ((Xp.op x1.2),(Xp.n x1.2),(Xp.name x1.2),(Xp.l x1.2)))))))) (bx (Xp.n x1.2) 0 (aB (M,d8 ((Xp.op x1.2),(Xp.n x1.2),(Xp.name x1.2),(Xp.l x1.2)))) (iA (Xp.op x1.2) 1 (aB ((!decide (((Xp.n x1.2):Int)=0)),d8 ((Xp.op x1.2),(Xp.n x1.2),(Xp.name x1.2),(Xp.l x1.2)))) (aB (aa,d8 ((Xp.op x1.2),(Xp.n x1.2),(Xp.name x1.2),(Xp.l x1.2)))))))))) λx2=>(aE x2.1 (Z aa) (iter (σ:=Int×Xp) (λd=>(bx d.1 (aT (ah (Xp.l d.2))) (bF (.ex) (Xp.l d.2) d.1 λq=>(av (rr02_ShapedExpr q) λs=>(aE (!s) (aB aa) (cH ((ct d.1),d8 ((Xp.op d.2),(Xp.n d.2),(Xp.name d.2),(Xp.l d.2))))))) (aB M))) (0,d8 ((Xp.op x2.2),(Xp.n x2.2),(Xp.name x2.2),(Xp.l x2.2)))))))
def i_:Nat->Xp->J (Bool)
 |0,_=>U
 |n+1,x=>oR (i_ n) x
theorem yk (n:Nat) (x:Xp):i_ (n+1) x=oR (i_ n) x:=rfl
def j7 (x:Xp):J (Bool):=i_ fuel x
def qQ (x:Xp):J (Bool):=
 (jn (α:=Bool) (bi (Xp.op x) 0 (bi (Xp.n x) 0 (aE (decide (((Xp.name x):ζ)=([]))) (aB (decide (((aT (ah (Xp.l x))):Int)=0))) (aB aa)) (aB aa)) (aB aa)) λx1=>(Z x1))
def oQ (rr02_ShapedStmt:Sx->J (Bool)) (rr02_ShapedStmts:(Y Sx)->J (Bool)) (x:Sx):J (Bool):=
 (jn (bx (Sx.op x) 1 (aB (M,dW x)) (aB ((fI 15 (Sx.op x)),dW x))) λx1=>(aE x1.1 (Z aa) (jn (bi (Sx.op x1.2) 2 (aB (M,dW x1.2)) (bi (Sx.op x1.2) 3 (aB (M,dW x1.2)) (bi (Sx.op x1.2) 7 (aB (M,dW x1.2)) (aB ((decide (((Sx.op x1.2):Int)=8)),dW x1.2))))) λx2=>(jn (α:=Bool×Sx) (aE x2.1 (aE (!decide (((Sx.name x2.2):ζ)=([]))) (aB (M,dW x2.2)) (aE (!x2.1) (av (fb (Sx.name x2.2)) λy4=>(aB ((!y4),dW x2.2))) (aB (aa,dW x2.2)))) (aE (!x2.1) (av (fb (Sx.name x2.2)) λy5=>(aB ((!y5),dW x2.2))) (aB (aa,dW x2.2)))) λx3=>(aE x3.1 (Z aa) (jn (α:=Bool×Sx) (bi (Sx.op x3.2) 15 (av (fb (Sx.arg x3.2)) λy7=>(aE (!y7) (aB (M,dW x3.2)) (iA (Sx.op x3.2) 15 (aB ((!decide (((Sx.arg x3.2):ζ)=([]))),dW x3.2)) (aB (aa,dW x3.2))))) (iA (Sx.op x3.2) 15 (aB ((!decide (((Sx.arg x3.2):ζ)=([]))),dW x3.2)) (aB (aa,dW x3.2)))) λs=>(aE s.1 (Z aa) (jn (bx 1 (aT (ah (Sx.index s.2))) (aB (M,dW s.2)) (iA (Sx.op s.2) 1 (bx 0 (aT (ah (Sx.index s.2))) (aB (M,dW s.2)) (bi (aT (ah (Sx.index s.2))) 1 (bF (.ex) (Sx.index s.2) 0 λz9=>(av (j7 z9) λy10=>(aB ((!y10),dW s.2)))) (aB (aa,dW s.2)))) (bi (aT (ah (Sx.index s.2))) 1 (bF (.ex) (Sx.index s.2) 0 λF=>(av (j7 F) λy12=>(aB ((!y12),dW s.2)))) (aB (aa,dW s.2))))) λA=>(aE A.1 (Z aa) (jn (bi (Sx.op A.2) 1 (aB (M,dW A.2)) (bi (Sx.op A.2) 2 (aB (M,dW A.2)) (bi (Sx.op A.2) 3 (aB (M,dW A.2)) (aB ((decide (((Sx.op A.2):Int)=14)),dW A.2))))) λd=>(jn (aE d.1 (av (j7 (d8 ((Xp.op (Sx.expr d.2)),(Xp.n (Sx.expr d.2)),(Xp.name (Sx.expr d.2)),(Xp.l (Sx.expr d.2))))) λy15=>(aE (!y15) (aB (M,dW d.2)) (aE (!d.1) (av (qQ (d8 ((Xp.op (Sx.expr d.2)),(Xp.n (Sx.expr d.2)),(Xp.name (Sx.expr d.2)),(Xp.l (Sx.expr d.2))))) λy16=>(aB ((!y16),dW d.2))) (aB (aa,dW d.2))))) (aE (!d.1) (av (qQ (d8 ((Xp.op (Sx.expr d.2)),(Xp.n (Sx.expr d.2)),(Xp.name (Sx.expr d.2)),(Xp.l (Sx.expr d.2))))) λy17=>(aB ((!y17),dW d.2))) (aB (aa,dW d.2)))) λz=>(aE z.1 (Z aa) (jn (ja 2 (Sx.op z.2) (aB ((cL (Sx.op z.2) 8),dW z.2)) (aB (aa,dW z.2))) λq=>(jn (aE (!q.1) (bx 0 (aT (ah (Sx.body q.2))) (aB (M,dW q.2)) (iA (Sx.op q.2) 2 (aB ((fI 0 (aT (ah (Sx.els q.2)))),dW q.2)) (aB (aa,dW q.2)))) (iA (Sx.op q.2) 2 (aB ((fI 0 (aT (ah (Sx.els q.2)))),dW q.2)) (aB (aa,dW q.2)))) λD=>(aE D.1 (Z aa) (jn (av (rr02_ShapedStmts (Sx.body D.2)) λL=>(aE L (av (rr02_ShapedStmts (Sx.els D.2)) λI=>(aB I)) (aB aa))) λx20=>(Z x20)))))))))))))))))
def nJ (rr02_ShapedStmt:Sx->J (Bool)) (rr02_ShapedStmts:(Y Sx)->J (Bool)) (x:Y Sx):J (Bool):=
 (iter (σ:=Int) (λx1=>(bx x1 (aY x) (mF x1 x (av (rr02_ShapedStmt (aH (T:=.sm) x x1)) λd=>(aE (!d) (aB aa) (cH (ct x1))))) (aB M))) 0)
mutual
def gV:Nat->Sx->J (Bool)
 |0,_=>U
 |n+1,x=>oQ (gV n) (fq n) x
def fq:Nat->(Y Sx)->J (Bool)
 |0,_=>U
 |n+1,x=>nJ (gV n) (fq n) x
end
def qR (x:Y Sx):J (Bool):=fq fuel x
def lX (x:Int×Int×(ζ)×Int×Int×ζ):J (Bool):=
 (jn (bx x.1 1 (aB (M,x)) (bx 6 x.1 (aB (M,x)) (av (fb x.p2) λq=>(aE (!q) (aB (M,x)) (bx x.p3 0 (aB (M,x)) (iA x.1 1 (aB ((!decide ((x.p3:Int)=0)),x)) (aB (aa,x)))))))) λx1=>(aE x1.1 (Z aa) (jn (α:=Bool×Int×Int×(ζ)×Int×Int×ζ) (bi x1.2.1 5 (av (fb x1.q6) λd=>(aE (!d) (aB (M,x1.2)) (iA x1.2.1 5 (aB ((!decide ((x1.q6:ζ)=([]))),x1.2)) (aB (aa,x1.2))))) (iA x1.2.1 5 (aB ((!decide ((x1.q6:ζ)=([]))),x1.2)) (aB (aa,x1.2)))) λx3=>(aE x3.1 (Z aa) (jn (α:=Bool) (bx (-9223372036854775808) x3.p5 (bi x3.p5 0 (aB M) (bi x3.2.1 1 (aB M) (aB (decide ((x3.2.1:Int)=2))))) (aB aa)) λs=>(Z s))))))
def rR (x:vQ×Y vP):J (Bool):=
 (iter (σ:=Int×vQ×Y vP) (λx1=>(bx x1.1 (aY x1.2.1) (bF Fx x1.2.1 x1.1 λF=>(av (lX F) λL=>(aE (!L) (aB aa) (cH ((ct x1.1),x1.2))))) (av (iter (σ:=Int×vQ×Y vP) (λx4=>(bx x4.1 (aY x4.2.2) (bF sq x4.2.2 x4.1 λD=>(iter (σ:=Int×(vQ×Y vP)×(ζ)×Int×dg×Y Sx) (λd=>(bx d.1 (aY d.p4) (bF (.str) d.p4 d.1 λA=>(av (fb A) λI=>(aE (!I) (aB (b7 aa)) (cH ((ct d.1),d.2))))) (av (jn (av (fb d.p2) λs=>(aE (!s) (aB (M,d.2.1)) (av (qR d.q5) λq=>(aB ((!q),d.2.1))))) λz=>(aE z.1 (aB aa) (cH ((ct x4.1),z.2)))) λr=>Z (b7 r)))) (0,x4.2,D))) (aB (fI 0 (aY x4.2.2))))) (0,x1.2)) λr=>Z (b7 r)))) (0,x))
def jT (x:dg×ζ):J (Int):=
 (iter (σ:=Int) (λx1=>(bx x1 (aY x.1) (bF (.str) x.1 x1 λd=>(aE (decide ((d:ζ)=x.2)) (aB x1) (cH (ct x1)))) (aB (-1)))) 0)
def iD (x:vQ×ζ):J (Int):=
 (iter (σ:=Int) (λx1=>(bx x1 (aY x.1) (bF Fx x.1 x1 λd=>(aE (decide ((d.2.2.1:ζ)=x.2)) (aB x1) (cH (ct x1)))) (aB (-1)))) 0)
def iv (x:(Y vP)×ζ):J (Int):=
 (iter (σ:=Int) (λx1=>(bx x1 (aY x.1) (bF sq x.1 x1 λd=>(aE (decide ((d.1:ζ)=x.2)) (aB x1) (cH (ct x1)))) (aB (-1)))) 0)
def rQ (x:(vQ×Y vP)×Int×ζ):J (Int):=
 (jn (ja 0 x.2.1 (bx x.2.1 (aY x.1.2) (bF sq x.1.2 x.2.1 λD=>(av (jT (D.2.2.1,x.2.2)) λI=>(aB ((cL 0 I),x.1)))) (aB (aa,x.1))) (aB (aa,x.1))) λx1=>(aE x1.1 (Z 8) (av (iD (x1.2.1,x.2.2)) λq=>(bx q 0 (av (iv (x1.2.2,x.2.2)) λF=>(ja 0 F (Z 7) (Z 0))) (mF q x1.2.1 (lt ((aH (T:=Fx) x1.2.1 q).1) λd=>(bi d 1 (bF Fx x1.2.1 q λA=>(iA A.2.2.2.1 0 (Z 2) (Z 1))) (bi d 2 (Z 1) (jn (bi d 3 (aB ((decide ((d:Int)=3)),x1.2)) (bi d 4 (aB ((decide ((d:Int)=4)),x1.2)) (bi d 5 (aB ((decide ((d:Int)=5)),x1.2)) (aB ((decide ((d:Int)=6)),x1.2))))) λs=>(aE s.1 (bF Fx s.2.1 q λz=>(Z z.1)) (Z 9)))))))))))
def gO (x:(vQ×Y vP)×Int×(ζ)×Int×Int):J (Int):=
 (av (rQ (x.1,x.2.1,x.p2)) λd=>(bi d 0 (Z 5) (jn (iA d x.p3 (aB (!decide ((d:Int)=x.q4))) (aB aa)) λx2=>(aE x2 (Z 6) (Z 0)))))
def wv (rr04_Nodes:Xp->J Γ) (x:Xp):J Γ:=
 (iter (σ:=(ν)×Xp) (λx1=>(bx x1.1.2.2 (aT (ah (Xp.l x1.2))) (bF (.ex) (Xp.l x1.2) x1.1.2.2 λq=>(av (rr04_Nodes q) λd=>(cH (((aZ .i64 (x1.1.1+d.1)),(lh x1.1.2.1 d.2),(ct x1.1.2.2)),d8 ((Xp.op x1.2),(Xp.n x1.2),(Xp.name x1.2),(Xp.l x1.2)))))) (aB (x1.1.1,(ct x1.1.2.1))))) ((1,0,0),d8 ((Xp.op x),(Xp.n x),(Xp.name x),(Xp.l x))))
def po:Nat->Xp->J Γ
 |0,_=>U
 |n+1,x=>wv (po n) x
theorem F4 (n:Nat) (x:Xp):po (n+1) x=wv (po n) x:=rfl
def HC (x:Xp):J Γ:=po fuel x
def wu (rr04_names:((vQ×Y vP)×Int×Xp)->J (Int)) (x:(vQ×Y vP)×Int×Xp):J (Int):=
 (jn (α:=Int×(vQ×Y vP)×Xp) (bi (Xp.op x.2.2) 2 (av (gO (x.1,x.2.1,(Xp.name x.2.2),8,1)) λA=>(aB (A,x.1,d8 ((Xp.op x.2.2),(Xp.n x.2.2),(Xp.name x.2.2),(Xp.l x.2.2))))) (bi (Xp.op x.2.2) 3 (av (gO (x.1,x.2.1,(Xp.name x.2.2),2,2)) λz=>(aB (z,x.1,d8 ((Xp.op x.2.2),(Xp.n x.2.2),(Xp.name x.2.2),(Xp.l x.2.2))))) (aB (0,x.1,d8 ((Xp.op x.2.2),(Xp.n x.2.2),(Xp.name x.2.2),(Xp.l x.2.2)))))) λx1=>(iter (σ:=(Γ)×(vQ×Y vP)×Xp) (λx4=>(jn (bx x4.1.2 (aT (ah (Xp.l x4.2.2))) (aB ((decide ((x4.1.1:Int)=0)),x4.2.1,d8 ((Xp.op x4.2.2),(Xp.n x4.2.2),(Xp.name x4.2.2),(Xp.l x4.2.2)))) (aB (aa,x4.2.1,d8 ((Xp.op x4.2.2),(Xp.n x4.2.2),(Xp.name x4.2.2),(Xp.l x4.2.2))))) λd=>(aE d.1 (bF (.ex) (Xp.l d.2.2) x4.1.2 λq=>(av (rr04_names (d.2.1,x.2.1,q)) λs=>(cH ((s,(ct x4.1.2)),d.2.1,d8 ((Xp.op d.2.2),(Xp.n d.2.2),(Xp.name d.2.2),(Xp.l d.2.2)))))) (aB x4.1.1)))) ((x1.1,0),x1.2.1,d8 ((Xp.op x1.2.2),(Xp.n x1.2.2),(Xp.name x1.2.2),(Xp.l x1.2.2)))))
def pn:Nat->((vQ×Y vP)×Int×Xp)->J (Int)
 |0,_=>U
 |n+1,x=>wu (pn n) x
theorem F3 (n:Nat) (x:(vQ×Y vP)×Int×Xp):pn (n+1) x=wu (pn n) x:=rfl
def HB (x:(vQ×Y vP)×Int×Xp):J (Int):=pn fuel x
def nC (x:(vQ×Y vP)×Int×Xp):J (Int):=
 (av (j7 (d8 ((Xp.op x.2.2),(Xp.n x.2.2),(Xp.name x.2.2),(Xp.l x.2.2)))) λs=>(aE (!s) (Z 3) (av (HC (d8 ((Xp.op x.2.2),(Xp.n x.2.2),(Xp.name x.2.2),(Xp.l x.2.2)))) λd=>(jn (bx 24 d.1 (aB (M,x.1,d8 ((Xp.op x.2.2),(Xp.n x.2.2),(Xp.name x.2.2),(Xp.l x.2.2)))) (aB ((fI 6 d.2),x.1,d8 ((Xp.op x.2.2),(Xp.n x.2.2),(Xp.name x.2.2),(Xp.l x.2.2))))) λx3=>(aE x3.1 (Z 2) (av (HB (x3.2.1,x.2.1,d8 ((Xp.op x3.2.2),(Xp.n x3.2.2),(Xp.name x3.2.2),(Xp.l x3.2.2)))) λq=>(Z q)))))))
def c9 (x:Bool):J (Int):=
 (aE x (Z 7) (Z 0))
def ji (x:Γ):J (Int):=
 (iA x.1 0 (Z x.1) (Z x.2))
def ej (x:(Int×Int×ζ)×wQ×(Bool×Y Sx)×dg×Y ζ):J (Bool×wQ×(Bool×Y Sx)×dg×Y ζ):=
 (iter (σ:=Int×wQ×(Bool×Y Sx)×dg×Y ζ) (λx1=>(bx x1.1 (aY x1.p2.2) (kF (.sm) x1.p2.2 x1.1 λd=>(jn (α:=Bool×wQ×(Bool×Y Sx)×dg×Y ζ) (bi (Sx.op d) x.1.1 (aE (decide ((x.1.2.2:ζ)=([]))) (aB (M,x1.2)) (aB ((decide (((Sx.name d):ζ)=x.1.2.2)),x1.2))) (bi (Sx.op d) x.1.2.1 (aE (decide ((x.1.2.2:ζ)=([]))) (aB (M,x1.2)) (aB ((decide (((Sx.name d):ζ)=x.1.2.2)),x1.2))) (aB (aa,x1.2)))) λx3=>(aE x3.1 (aB (M,x3.2)) (cH ((ct x1.1),x3.2))))) (aB (aa,x1.2)))) (0,x.2))
def ol (x:Sx×wQ×(Bool×Y Sx)×dg×Y ζ):J (Int×wQ×(Bool×Y Sx)×dg×Y ζ):=
 (av (ej ((7,7,[]),x.2)) λL=>(bp (ax (ah x.q4) (ah L.q4)&&(ax (ah x.p3) (ah L.p3)&&(((x.p2.1==L.p2.1)&&M)&&ax (ah x.p2.2) (ah L.p2.2)&&M))) (av (ej ((8,8,[]),L.2)) λy2=>(bp (ax (ah L.q4) (ah y2.q4)&&(ax (ah L.p3) (ah y2.p3)&&(((L.p2.1==y2.p2.1)&&M)&&ax (ah L.p2.2) (ah y2.p2.2)&&M))) (av (ej ((3,3,[]),y2.2)) λy3=>(bp (ax (ah y2.q4) (ah y3.q4)&&(ax (ah y2.p3) (ah y3.p3)&&(((y2.p2.1==y3.p2.1)&&M)&&ax (ah y2.p2.2) (ah y3.p2.2)&&M))) (bi (Sx.op x.1) 1 (bi (aT (ah (Sx.index x.1))) 0 (av (gO ((x.2.1.1,x.2.1.2.1),x.2.1.2.2,(Sx.name x.1),8,1)) λy4=>(av (nC ((x.2.1.1,x.2.1.2.1),x.2.1.2.2,d8 ((Xp.op (Sx.expr x.1)),(Xp.n (Sx.expr x.1)),(Xp.name (Sx.expr x.1)),(Xp.l (Sx.expr x.1))))) λy5=>(av (ji (y4,y5)) λy6=>(Z (y6,y3.2))))) (av (gO ((x.2.1.1,x.2.1.2.1),x.2.1.2.2,(Sx.name x.1),2,2)) λy7=>(bF (.ex) (Sx.index x.1) 0 λz8=>(av (nC ((x.2.1.1,x.2.1.2.1),x.2.1.2.2,z8)) λy9=>(av (nC ((x.2.1.1,x.2.1.2.1),x.2.1.2.2,d8 ((Xp.op (Sx.expr x.1)),(Xp.n (Sx.expr x.1)),(Xp.name (Sx.expr x.1)),(Xp.l (Sx.expr x.1))))) λy10=>(av (ji (y9,y10)) λy11=>(av (ji (y7,y11)) λy12=>(Z (y12,y3.2))))))))) (jn (bi (Sx.op x.1) 2 (aB ((decide (((Sx.op x.1):Int)=2)),y3.2.1,y3.p2,dW x.1,(x.2.1.1,x.2.1.2.1),y3.q3)) (aB ((decide (((Sx.op x.1):Int)=3)),y3.2.1,y3.p2,dW x.1,(x.2.1.1,x.2.1.2.1),y3.q3))) λs=>(aE s.1 (av (nC (s.p4,x.2.1.2.2,d8 ((Xp.op (Sx.expr s.p3)),(Xp.n (Sx.expr s.p3)),(Xp.name (Sx.expr s.p3)),(Xp.l (Sx.expr s.p3))))) λy14=>(Z (y14,s.2.1,s.p2,s.q5))) (bi (Sx.op x.1) 4 (jn (α:=Int×wQ×(Bool×Y Sx)×dg×Y ζ) (av (gO (s.p4,x.2.1.2.2,(Sx.name s.p3),3,3)) λy16=>(aE L.1 (av (c9 M) λy17=>(av (ji (y16,y17)) λy18=>(aB (y18,s.2.1,s.p2,s.q5)))) (av (ej ((4,4,(Sx.name s.p3)),s.2.1,s.p2,s.q5)) λy19=>(bp (ax (ah s.q6) (ah y19.q4)&&(ax (ah s.p5) (ah y19.p3)&&(((s.p2.1==y19.p2.1)&&M)&&ax (ah s.p2.2) (ah y19.p2.2)&&M))) (av (c9 y19.1) λy20=>(av (ji (y16,y20)) λy21=>(aB (y21,y19.2)))))))) λx15=>(Z x15)) (jn (bi (Sx.op x.1) 5 (aB ((decide (((Sx.op x.1):Int)=5)),s.2.1,s.p2,dW s.p3,s.q4)) (aB ((decide (((Sx.op x.1):Int)=6)),s.2.1,s.p2,dW s.p3,s.q4))) λq=>(aE q.1 (jn (α:=Int×wQ×(Bool×Y Sx)×dg×Y ζ) (av (gO (q.p4,x.2.1.2.2,(Sx.name q.p3),4,4)) λy24=>(aE L.1 (av (c9 M) λy25=>(av (ji (y24,y25)) λy26=>(aB (y26,q.2.1,q.p2,q.q5)))) (av (ej ((5,6,(Sx.name q.p3)),q.2.1,q.p2,q.q5)) λy27=>(bp (ax (ah q.q6) (ah y27.q4)&&(ax (ah q.p5) (ah y27.p3)&&(((q.p2.1==y27.p2.1)&&M)&&ax (ah q.p2.2) (ah y27.p2.2)&&M))) (av (c9 y27.1) λy28=>(av (ji (y24,y28)) λy29=>(aB (y29,y27.2)))))))) λx23=>(Z x23)) (bi (Sx.op x.1) 7 (av (c9 L.1) λy30=>(Z (y30,q.2.1,q.p2,q.q5))) (bi (Sx.op x.1) 8 (jn (aE L.1 (av (c9 M) λy32=>(aB (y32,q.2.1,q.p2,q.q5))) (av (c9 y2.1) λy33=>(aB (y33,q.2.1,q.p2,q.q5)))) λx31=>(Z x31)) (jn (bi (Sx.op x.1) 9 (aB ((decide (((Sx.op x.1):Int)=9)),q.2.1,q.p2,dW q.p3,q.q4)) (bi (Sx.op x.1) 10 (aB ((decide (((Sx.op x.1):Int)=10)),q.2.1,q.p2,dW q.p3,q.q4)) (aB ((decide (((Sx.op x.1):Int)=11)),q.2.1,q.p2,dW q.p3,q.q4)))) λd=>(aE d.1 (av (gO (d.p4,x.2.1.2.2,(Sx.name d.p3),5,5)) λy35=>(iA y35 0 (Z (y35,d.2.1,d.p2,d.q5)) (av (iD (d.p4.1,(Sx.name d.p3))) λy36=>(bF Fx d.p4.1 y36 λz37=>(av (ej ((4,4,z37.2.2.2.2.2),d.2.1,d.p2,d.q5)) λF=>(bp (ax (ah d.q6) (ah F.q4)&&(ax (ah d.p5) (ah F.p3)&&(((d.p2.1==F.p2.1)&&M)&&ax (ah d.p2.2) (ah F.p2.2)&&M))) (jn (aE L.1 (av (c9 M) λy40=>(aB (y40,F.2))) (aE (!F.1) (av (c9 M) λy41=>(aB (y41,F.2))) (bi (Sx.op d.p3) 9 (av (c9 y2.1) λy42=>(aB (y42,F.2))) (av (c9 aa) λy43=>(aB (y43,F.2)))))) λx39=>(Z x39)))))))) (bi (Sx.op x.1) 12 (av (gO (d.p4,x.2.1.2.2,(Sx.name d.p3),7,7)) λy44=>(iA y44 0 (Z (y44,d.2.1,d.p2,d.q5)) (av (iv (d.p4.2,(Sx.name d.p3))) λy45=>(jn (aE L.1 (aB (M,d.2.1,d.p2,dW d.p3,d.q5)) (aE y2.1 (aB (M,d.2.1,d.p2,dW d.p3,d.q5)) (aE y3.1 (aB (M,d.2.1,d.p2,dW d.p3,d.q5)) (bi y45 x.2.1.2.2 (aB (M,d.2.1,d.p2,dW d.p3,d.q5)) (aB ((decide ((y45:Int)=0)),d.2.1,d.p2,dW d.p3,d.q5)))))) λz=>(aE z.1 (Z (7,z.2.1,z.p2,z.q4)) (av (jT (z.p4,(Sx.name z.p3))) λy47=>(ja 0 y47 (Z (8,z.2.1,z.p2,z.q4)) (bp (be (ah z.p4+ah ([(Sx.name z.p3)])) 16) (Z (0,z.2.1,z.p2,(z.p4++([(Sx.name z.p3)])),z.q5)))))))))) (bi (Sx.op x.1) 13 (jn (α:=Int×wQ×(Bool×Y Sx)×dg×Y ζ) (av (gO (d.p4,x.2.1.2.2,(Sx.name d.p3),7,7)) λy49=>(aE L.1 (av (c9 M) λy50=>(av (ji (y49,y50)) λy51=>(aB (y51,d.2.1,d.p2,d.q5)))) (aE y2.1 (av (c9 M) λy52=>(av (ji (y49,y52)) λy53=>(aB (y53,d.2.1,d.p2,d.q5)))) (av (iv (d.p4.2,(Sx.name d.p3))) λy54=>(av (c9 (decide ((y54:Int)=x.2.1.2.2))) λy55=>(av (ji (y49,y55)) λy56=>(aB (y56,d.2.1,d.p2,d.q5)))))))) λx48=>(Z x48)) (bi (Sx.op x.1) 14 (jn (α:=Int×wQ×(Bool×Y Sx)×Sx×(vQ×Y vP)×dg×Y ζ) (av (gO (d.p4,x.2.1.2.2,(Sx.name d.p3),6,6)) λy58=>(aE L.1 (av (c9 M) λy59=>(av (ji (y58,y59)) λy60=>(aB (y60,d.2.1,d.p2,dW d.p3,d.q4)))) (av (c9 y3.1) λy61=>(av (ji (y58,y61)) λy62=>(aB (y62,d.2.1,d.p2,dW d.p3,d.q4)))))) λD=>(jn (α:=Int×wQ×(Bool×Y Sx)×Sx×(vQ×Y vP)×dg×Y ζ) (jn (bi D.1 0 (av (jT (D.q6,(Sx.name D.p3))) λy65=>(aB ((cL 0 y65),D.2.1,D.p2,dW D.p3,D.q4))) (aB (aa,D.2.1,D.p2,dW D.p3,D.q4))) λI=>(aE I.1 (aB (8,I.2.1,I.p2,dW I.p3,I.q4)) (aB (D.1,I.2.1,I.p2,dW I.p3,I.q4)))) λA=>(bp (be (ah A.q6+ah ([(Sx.name A.p3)])) 16) (av (nC (A.p4,x.2.1.2.2,d8 ((Xp.op (Sx.expr A.p3)),(Xp.n (Sx.expr A.p3)),(Xp.name (Sx.expr A.p3)),(Xp.l (Sx.expr A.p3))))) λy66=>(av (ji (A.1,y66)) λy67=>(Z (y67,A.2.1,A.p2,A.p5,(A.q6++([(Sx.name A.p3)]))))))))) (av (gO (d.p4,x.2.1.2.2,(Sx.name d.p3),8,8)) λy68=>(av (gO (d.p4,x.2.1.2.2,(Sx.arg d.p3),6,6)) λy69=>(av (c9 L.1) λy70=>(av (ji (y69,y70)) λy71=>(av (ji (y68,y71)) λy72=>(Z (y72,d.2.1,d.p2,d.q5))))))))))))))))))))))))))
def rD (rr04_walk_all:((Y Sx)×wQ×(Bool×Y Sx)×dg×Y ζ)->J acl) (x:(Y Sx)×wQ×(Bool×Y Sx)×dg×Y ζ):J acl:=
 (iter (σ:=Int×wQ×(Bool×Y Sx)×dg×Y ζ) (λx1=>(bx x1.1 (aY x.1) (bF (.sm) x.1 x1.1 λz=>(av (ol (dW z,x1.2)) λs=>(bp (ax (ah x1.q4) (ah x1.q4)&&(ax (ah x1.p3) (ah x1.p3)&&(((x1.p2.1==s.p2.1)&&M)&&ax (ah x1.p2.2) (ah s.p2.2)&&M))) (jn (α:=Int×wQ×Sx×(Bool×Y Sx)×dg×Y ζ) (bx 6 (aZ .i64 ((aY s.p2.2)+1)) (aB (2,s.2.1,dW z,s.2.2)) (aB (s.1,s.2.1,dW z,s.2.2))) λx4=>(iA x4.1 0 (aB ((x4.1,(Sx.line x4.p2)),x4.2.1,x4.q3)) (bp (be (ah x4.p3.2+ah ([ov (0,0,[],[],([]:Y Xp),d8 (0,0,[],([]:Y Xp)),([]:Y Sx),([]:Y Sx))])) 176) (ck (fm (aY x4.p3.2) (ah (x4.p3.2++([ov (0,0,[],[],([]:Y Xp),d8 (0,0,[],([]:Y Xp)),([]:Y Sx),([]:Y Sx))])))) (av (rr04_walk_all ((Sx.body x4.p2),x4.2.1,(x4.p3.1,(cJ (x4.p3.2++([ov (0,0,[],[],([]:Y Xp),d8 (0,0,[],([]:Y Xp)),([]:Y Sx),([]:Y Sx))])) (aY x4.p3.2) (dW x4.p2))),x4.q4)) λq=>(bp (ax (ah x4.q5) (ah x4.q5)&&(ax (ah x4.p4) (ah x4.p4)&&(((x4.p3.1==x4.p3.1)&&M)&&ax (ah (cJ (x4.p3.2++([ov (0,0,[],[],([]:Y Xp),d8 (0,0,[],([]:Y Xp)),([]:Y Sx),([]:Y Sx))])) (aY x4.p3.2) (dW x4.p2))) (ah (cJ (x4.p3.2++([ov (0,0,[],[],([]:Y Xp),d8 (0,0,[],([]:Y Xp)),([]:Y Sx),([]:Y Sx))])) (aY x4.p3.2) (dW x4.p2)))&&M))) (jn (bi q.1.1 0 (av (rr04_walk_all ((Sx.els x4.p2),q.2)) λA=>(bp (ax (ah q.q4) (ah q.q4)&&(ax (ah q.p3) (ah q.p3)&&(((q.p2.1==q.p2.1)&&M)&&ax (ah q.p2.2) (ah q.p2.2)&&M))) (aB A))) (aB q)) λd=>(bp (cL 0 (aZ .i64 ((aY d.p2.2)-1))&&fI (aZ .i64 ((aY d.p2.2)-1)) (ah d.p2.2)) (iA d.1.1 0 (aB (d.1,d.2.1,(aa,(dh (aP (aZ .i64 ((aY d.p2.2)-1))) d.p2.2)),d.q3)) (cH ((ct x1.1),d.2.1,(aa,(dh (aP (aZ .i64 ((aY d.p2.2)-1))) d.p2.2)),d.q3)))))))))))))) (aB ((0,0),x1.2)))) (0,x.2))
def me:Nat->((Y Sx)×wQ×(Bool×Y Sx)×dg×Y ζ)->J acl
 |0,_=>U
 |n+1,x=>rD (me n) x
def zQ (x:(Y Sx)×wQ×(Bool×Y Sx)×dg×Y ζ):J acl:=me fuel x
def ww (rr04_Count:(Y Sx)->J (Int)) (x:Y Sx):J (Int):=
 (iter (σ:=Γ) (λx1=>(bx x1.2 (aY x) (mF x1.2 x (lt (Sx.body (aH (T:=.sm) x x1.2)) λq=>(av (rr04_Count q) λz=>(mF x1.2 x (lt (Sx.els (aH (T:=.sm) x x1.2)) λd=>(av (rr04_Count d) λs=>(cH ((aZ .i64 ((aZ .i64 (x1.1+z))+s)),(ct x1.2))))))))) (aB x1.1))) ((aY x),0))
def pq:Nat->(Y Sx)->J (Int)
 |0,_=>U
 |n+1,x=>ww (pq n) x
theorem F5 (n:Nat) (x:Y Sx):pq (n+1) x=ww (pq n) x:=rfl
def HE (x:Y Sx):J (Int):=pq fuel x
def tu (x:Y afe):J Γ:=
 (iter (σ:=υ) (λx1=>(bx x1.q4 (aY x) (jn (α:=π) (bF Fx x x1.q4 λd=>(bp (cL 0 x1.q4&&cL x1.q4 (ah x)) (av (iD ((dh (aP x1.q4) x),d.p2)) λI=>(ja 0 I (cH (b7 (4,d.2.1))) (bx 4 d.p3 (cH (b7 (2,d.2.1))) (jn (jn (bi d.1 1 (aB ((decide ((d.1:Int)=1)),d)) (aB ((decide ((d.1:Int)=2)),d))) λz=>(aE z.1 (aB (((aZ .i64 (x1.1+(lh z.p4 1))),x1.2.1,x1.p2,x1.p3),z.2)) (jn (bi d.1 3 (aB ((decide ((d.1:Int)=3)),z.2)) (aB ((decide ((d.1:Int)=4)),z.2))) λA=>(aE A.1 (aB ((x1.1,(ct x1.2.1),x1.p2,x1.p3),A.2)) (bi d.1 5 (aB ((x1.1,x1.2.1,(ct x1.p2),x1.p3),A.2)) (aB ((x1.1,x1.2.1,x1.p2,(ct x1.p3)),A.2))))))) λq=>(jn (bx 12 q.1.1 (aB (M,q.2)) (bx 4 q.1.2.1 (aB (M,q.2)) (bx 2 q.1.p2 (aB (M,q.2)) (aB ((fI 2 q.1.q3),q.2))))) λs=>(aE s.1 (cH (b7 (2,s.p2))) (bi s.2.1 5 (bp (cL 0 x1.q4&&cL x1.q4 (ah x)) (av (iD ((dh (aP x1.q4) x),s.q6)) λF=>(bx F 0 (cH (b7 (5,s.p2))) (bF Fx x F λD=>(iA D.1 3 (cH (b7 (6,s.p2))) (aB q.1)))))) (aB q.1)))))))))) λx2=>(cH (x2.1,x2.2.1,x2.p2,x2.q3,(ct x1.q4)))) (aB (0,0)))) (0,0,0,0,0))
def pZ (x:vQ×Y vP):J Γ:=
 (iter (σ:=Int×vQ×Y vP) (λx1=>(bx x1.1 (aY x1.2.2) (bF sq x1.2.2 x1.1 λz=>(jn (av (iD (x1.2.1,z.1)) λy4=>(ja 0 y4 (aB (M,x1.2,z)) (bp (cL 0 x1.1&&cL x1.1 (ah x1.2.2)) (av (iv ((dh (aP x1.1) x1.2.2),z.1)) λy5=>(aB ((cL 0 y5),x1.2,z)))))) λx3=>(aE x3.1 (aB (4,x3.p3)) (cH ((ct x1.1),x3.2.1))))) (av (iter (σ:=Int×vQ×Y vP) (λs=>(bx s.1 (aY s.2.2) (bF sq s.2.2 s.1 λD=>(bx 4 (aY D.p2) (aB (2,D.2.1)) (iter (σ:=Int×(vQ×Y vP)×(ζ)×Int×dg×Y Sx) (λd=>(bx d.1 (aY d.p4) (bF (.str) d.p4 d.1 λA=>(jn (av (iD (d.2.1.1,A)) λL=>(ja 0 L (aB (M,d.2)) (av (iv (d.2.1.2,A)) λI=>(ja 0 I (aB (M,d.2)) (bp (cL 0 d.1&&cL d.1 (ah d.p4)) (av (jT ((dh (aP d.1) d.p4),A)) λF=>(aB ((cL 0 F),d.2)))))))) λq=>(aE q.1 (aB (b7 (4,q.p3))) (cH ((ct d.1),q.2))))) (aB (nk ((ct s.1),d.2.1))))) (0,s.2,D)))) (aB (0,0)))) (0,x1.2)) λr=>Z (b7 r)))) (0,x))
def ki (x:vQ×Y vP):J Γ:=
 (av (rR x) λI=>(aE (!I) (Z (3,0)) (av (tu x.1) λz=>(iA z.1 0 (Z z) (bx 4 (aY x.2) (Z (2,0)) (av (pZ x) λs=>(iA s.1 0 (Z s) (iter (σ:=(Γ)×vQ×Y vP) (λx4=>(bx x4.1.2 (aY x4.2.2) (bF sq x4.2.2 x4.1.2 λD=>(av (HE D.2.2.2) λF=>(cH (((aZ .i64 (x4.1.1+F)),(ct x4.1.2)),x4.2)))) (av (bx 60 x4.1.1 (Z (2,0)) (iter (σ:=Int×(vQ×Y vP)×wQ×(Bool×Y Sx)×dg×Y ζ) (λd=>(bx d.1 (aY d.2.1.2) (bF sq d.2.1.2 d.1 λA=>(av (zQ (A.2.2.2,(d.p2.1,d.p2.2.1,d.1),d.q3)) λq=>(bp (ax (ah d.q5) (ah d.q5)&&(ax (ah d.p4) (ah d.p4)&&(((d.p3.1==d.p3.1)&&M)&&ax (ah d.p3.2) (ah d.p3.2)&&M))) (iA q.1.1 0 (aB q.1) (cH ((ct d.1),d.2.1,q.2)))))) (aB (0,0)))) (0,x4.2,(x4.2.1,x4.2.2,0),(M,([]:Y Sx)),([]:Y ζ),([]:Y ζ)))) λr=>Z (b7 r)))) ((0,0),x)))))))))
def wq (rr06_sites:((Int×Int×Y Sx)×Y ν)->J (Int×Y ν)) (x:(Int×Int×Y Sx)×Y ν):J (Int×Y ν):=
 (iter (σ:=(Γ)×Y ν) (λx1=>(bx x1.1.2 (aY x.1.2.2) (mF x1.1.2 x.1.2.2 (lt (Sx.line (aH (T:=.sm) x.1.2.2 x1.1.2)) λd=>(bp (be (ah x1.2+ah ([(x.1.1,x1.1.1,d)])) 24) (mF x1.1.2 x.1.2.2 (lt (Sx.body (aH (T:=.sm) x.1.2.2 x1.1.2)) λA=>(av (rr06_sites ((x.1.1,(ct x1.1.1),A),(x1.2++([(x.1.1,x1.1.1,d)])))) λq=>(bp (ax (ah (x1.2++([(x.1.1,x1.1.1,d)]))) (ah (x1.2++([(x.1.1,x1.1.1,d)])))&&M) (mF x1.1.2 x.1.2.2 (lt (Sx.els (aH (T:=.sm) x.1.2.2 x1.1.2)) λz=>(av (rr06_sites ((x.1.1,q.1,z),q.2)) λs=>(bp (ax (ah q.2) (ah q.2)&&M) (cH ((s.1,(ct x1.1.2)),s.2))))))))))))) (aB (x1.1.1,x1.2)))) ((x.1.2.1,0),x.2))
def pm:Nat->((Int×Int×Y Sx)×Y ν)->J (Int×Y ν)
 |0,_=>U
 |n+1,x=>wq (pm n) x
theorem F2 (n:Nat) (x:(Int×Int×Y Sx)×Y ν):pm (n+1) x=wq (pm n) x:=rfl
def HA (x:(Int×Int×Y Sx)×Y ν):J (Int×Y ν):=pm fuel x
def lq (x:mi×ζ):J (Int):=
 (iter (σ:=Int) (λx1=>(bx x1 (aY x.1) (bF qr x.1 x1 λd=>(aE (decide ((d.1:ζ)=x.2)) (aB x1) (cH (ct x1)))) (aB (-1)))) 0)
def lw (x:eX×ζ):J (Int):=
 (iter (σ:=Int×ne×mi×(Y jw)×dg×dg×Y ν) (λx1=>(bx x1.1 (aY x1.2.1) (bF kB x1.2.1 x1.1 λd=>(aE (decide ((d.1:ζ)=x.2)) (aB x1.1) (cH ((ct x1.1),x1.2)))) (aB (-1)))) (0,x.1))
def tj (x:vQ×Y vP):J eX:=
 (av (ki x) λy1=>(iA y1.1 0 (Z (([]:Y Rf),([]:Y (ζ×Bool)),([]:Y jw),([]:Y ζ),([]:Y ζ),([]:Y ν))) (iter (σ:=Int×(vQ×Y vP)×ne×mi×(Y jw)×Y ζ) (λx2=>(bx x2.1 (aY x2.2.1.1) (bF Fx x2.2.1.1 x2.1 λz=>(jn (α:=(vQ×Y vP)×ne×mi×(Y jw)×Y ζ) (jn (bi z.1 1 (aB ((decide ((z.1:Int)=1)),x2.2.1,z,x2.2.2)) (aB ((decide ((z.1:Int)=2)),x2.2.1,z,x2.2.2))) λD=>(aE D.1 (iter (σ:=Int×(vQ×Y vP)×afe×ne×mi×(Y jw)×Y ζ) (λq=>(bx q.1 (lh q.p2.p3 1) (bp (be (ah q.p3+ah ([(q.p2.p2,q.1,q.p2.p3,(decide ((q.p2.1:Int)=2)),q.p2.p4)])) 48) (cH ((ct q.1),q.2.1,q.p2,(q.p3++([(q.p2.p2,q.1,q.p2.p3,(decide ((q.p2.1:Int)=2)),q.p2.p4)])),q.q4))) (aB (b7 (q.2.1,q.q3))))) (0,D.2)) (jn (bi z.1 3 (aB ((decide ((z.1:Int)=3)),D.2)) (aB ((decide ((z.1:Int)=4)),D.2))) λd=>(aE d.1 (bp (be (ah d.p4+ah ([(d.p2.p2,(decide ((d.p2.1:Int)=4)))])) 24) (aB (d.2.1,d.p3,(d.p4++([(d.p2.p2,(decide ((d.p2.1:Int)=4)))])),d.q5))) (bi z.1 5 (av (lq (d.p4,d.p2.q5)) λL=>(bp (be (ah d.p5+ah ([(d.p2.p2,L)])) 24) (aB (d.2.1,d.p3,d.p4,(d.p5++([(d.p2.p2,L)])),d.q6)))) (bp (be (ah d.q6+ah ([d.p2.p2])) 16) (aB (d.2.1,d.p3,d.p4,d.p5,(d.q6++([d.p2.p2])))))))))) λx4=>(cH ((ct x2.1),x4)))) (av (iter (σ:=Int×(vQ×Y vP)×ne×mi×(Y jw)×dg×dg×Y ν) (λs=>(bx s.1 (aY s.2.1.2) (bF sq s.2.1.2 s.1 λA=>(bp (be (ah s.p6+ah ([A.1])) 16) (bF sq s.2.1.2 s.1 λF=>(av (HA ((s.1,0,F.2.2.2),s.q7)) λI=>(bp (ax (ah s.q7) (ah s.q7)&&M) (cH ((ct s.1),s.2.1,s.p2,s.p3,s.p4,s.p5,(s.p6++([A.1])),I.2))))))) (aB s.2.2))) (0,x2.2.1,x2.p2,x2.p3,x2.p4,x2.q5,([]:Y ζ),([]:Y ν))) λr=>Z (b7 r)))) (0,x,([]:Y Rf),([]:Y (ζ×Bool)),([]:Y jw),([]:Y ζ)))))
def pg (x:ne×mi×(Y jw)×dg×dg×Y ν):J (dg×Bool):=
 (iter (σ:=Int×eX×Y ζ) (λx1=>(bx x1.1 (aY x1.2.1.1) (jn (α:=Int×eX×Y ζ) (bF kB x1.2.1.1 x1.1 λs=>(bp (be (ah x1.2.2+ah ([s.1])) 16) (bi s.p2 0 (iA s.2.1 0 (cH (b7 (([]:Y ζ),aa))) (aB ((ct x1.1),x1.2.1,(x1.2.2++([s.1]))))) (jn (α:=Bool×eX×dg×(ζ)×Int×Int×Bool×Int) (bx s.p2 1 (aB (M,x1.2.1,(x1.2.2++([s.1])),s)) (bx 4 s.p2 (aB (M,x1.2.1,(x1.2.2++([s.1])),s)) (aB ((fI (aZ .i64 ((aY x1.2.1.1)-x1.1)) s.p2),x1.2.1,(x1.2.2++([s.1])),s)))) λx4=>(aE x4.1 (cH (b7 (([]:Y ζ),aa))) (iter (σ:=Int×eX×dg×(ζ)×Int×Int×Bool×Int) (λq=>(bx q.1 q.p5 (bF kB q.2.1.1 (aZ .i64 (x1.1+q.1)) λA=>(jn (iA A.2.1 q.1 (aB (M,q.2)) (aE (!decide ((A.1:ζ)=q.p3)) (aB (M,q.2)) (iA A.p2 q.p5 (aB (M,q.2)) (iA A.q4 q.q7 (aB (M,q.2)) (aB (A.p3,q.2)))))) λI=>(aE I.1 (aB (nk (b7 (([]:Y ζ),aa)))) (cH ((ct q.1),I.2))))) (aB (b7 ((aZ .i64 (x1.1+q.p5)),q.2.1,q.p2))))) (0,x4.2))))))) λx2=>(cH x2)) (av (iter (σ:=Int×eX×Y ζ) (λz=>(bx z.1 (aY z.2.1.2.1) (bF qr z.2.1.2.1 z.1 λF=>(bp (be (ah z.2.2+ah ([F.1])) 16) (cH ((ct z.1),z.2.1,(z.2.2++([F.1])))))) (av (iter (σ:=Int×eX×Y ζ) (λd=>(bx d.1 (aY d.2.1.p2) (bF ll d.2.1.p2 d.1 λD=>(bp (be (ah d.2.2+ah ([D.1])) 16) (cH ((ct d.1),d.2.1,(d.2.2++([D.1])))))) (av (bp (be (ah d.2.2+ah d.2.1.p3) 16) (bp (be (ah (d.2.2++d.2.1.p3)+ah d.2.1.p4) 16) (Z (((d.2.2++d.2.1.p3)++d.2.1.p4),M)))) λr=>Z (b7 r)))) (0,z.2)) λr=>Z (b7 r)))) (0,x1.2)) λr=>Z (b7 r)))) (0,x,([]:Y ζ)))
def gU (x:ne×mi×(Y jw)×dg×dg×Y ν):J (Bool):=
 (jn (bx 12 (aY x.1) (aB (M,x)) (bx 4 (aY x.2.1) (aB (M,x)) (bx 2 (aY x.p2) (aB (M,x)) (bx 2 (aY x.p3) (aB (M,x)) (bx (aY x.p4) 1 (aB (M,x)) (bx 4 (aY x.p4) (aB (M,x)) (aB ((fI 60 (aY x.q5)),x)))))))) λx1=>(aE x1.1 (Z aa) (av (pg x1.2) λF=>(aE (!F.2) (Z aa) (iter (σ:=Int×ne×mi×(Y jw)×dg×dg×Y ν) (λx3=>(bx x3.1 (aY F.1) (jn (bF (.str) F.1 x3.1 λz5=>(av (fb z5) λy6=>(aE (!y6) (aB (M,x3.2)) (bp (cL 0 x3.1&&cL x3.1 (ah F.1)) (bF (.str) F.1 x3.1 λz7=>(av (jT ((dh (aP x3.1) F.1),z7)) λy8=>(aB ((cL 0 y8),x3.2)))))))) λx4=>(aE x4.1 (aB aa) (cH ((ct x3.1),x4.2)))) (av (iter (σ:=Int×ne×mi×(Y jw)×dg×dg×Y ν) (λs=>(bx s.1 (aY s.p3) (bF ll s.p3 s.1 λD=>(jn (bx D.2 0 (aB (M,s.2)) (ja (aY s.p2) D.2 (aB (M,s.2)) (bF qr s.p2 D.2 λz12=>(aB (z12.2,s.2))))) λL=>(aE L.1 (aB aa) (cH ((ct s.1),L.2))))) (av (iter (σ:=Int×ne×mi×(Y jw)×dg×dg×Y ν) (λd=>(bx d.1 (aY d.q6) (jn (bF nQ d.q6 d.1 λA=>(jn (bx A.1 0 (aB (M,d.2,A)) (aB ((cL (aY d.p5) A.1),d.2,A))) λz=>(aE z.1 (cH (b7 aa)) (jn (bi d.1 0 (aB (M,z.2)) (bF nQ z.2.1.q5 (aZ .i64 (d.1-1)) λz18=>(aB ((!decide ((z18.1:Int)=z.p2)),z.2)))) λq=>(aE q.1 (jn (iA q.p3 0 (aB (M,q.2.1)) (bx 0 d.1 (bF nQ q.2.1.q5 (aZ .i64 (d.1-1)) λz20=>(aB ((fI q.p2 z20.1),q.2.1))) (aB (aa,q.2.1)))) λI=>(aE I.1 (cH (b7 aa)) (aB I.2))) (bF nQ q.2.1.q5 (aZ .i64 (d.1-1)) λz21=>(iA q.p3 (ct z21.2.1) (cH (b7 aa)) (aB q.2.1)))))))) λx14=>(cH ((ct d.1),x14))) (aB M))) (0,s.2)) λr=>Z (b7 r)))) (0,x3.2)) λr=>Z (b7 r)))) (0,x1.2))))))
def jB (x:ω):J η:=
 (jn (bi x.1 1 (aB ((decide ((x.1:Int)=1)),x)) (bi x.1 6 (aB ((decide ((x.1:Int)=6)),x)) (bi x.1 10 (aB ((decide ((x.1:Int)=10)),x)) (aB ((decide ((x.1:Int)=27)),x))))) λx1=>(aE x1.1 (Z ([x1.p2])) (jn (bi x.1 2 (aB ((decide ((x.1:Int)=2)),x1.2)) (aB ((decide ((x.1:Int)=3)),x1.2))) λx2=>(aE x2.1 (Z ([x2.p2,x2.p3])) (bi x.1 4 (Z ([x2.p2,x2.p3,x2.p4])) (bi x.1 7 (Z ([x2.p2,x2.p4])) (jn (bi x.1 8 (aB ((decide ((x.1:Int)=8)),x2.2)) (aB ((decide ((x.1:Int)=26)),x2.2))) λx3=>(aE x3.1 (Z ([x3.p3])) (bi x.1 9 (Z ([x3.p3,x3.p4])) (Z ([]:η)))))))))))
def px (x:Int):J (Bool):=
 (jn (ja 1 x (aB (cL x 5)) (aB aa)) λx1=>(Z x1))
def tg (x:(Y k9)×Int):J (Bool):=
 (iter (σ:=Γ) (λx1=>(ja x1.2 (aY x.1) (jn (jn (bx x1.1 0 (aB M) (aB (cL (aY x.1) x1.1))) λx3=>(aE x3 (cH (b7 aa)) (bF qz x.1 x1.1 λs=>(av (px s.1) λz=>(aE (!z) (cH (b7 M)) (bF qz x.1 x1.1 λq=>(bi q.1 5 (bF qz x.1 x1.1 λd=>(aB d.2.1)) (aB (ct x1.1))))))))) λx2=>(cH (x2,(ct x1.2)))) (aB aa))) (x.2,0))
def jh (x:Γ):J (Bool):=
 (jn (ja 0 x.1 (aB (fI x.1 x.2)) (aB aa)) λx1=>(Z x1))
def qO (x:eX×Int×Int):J (Bool):=
 (jn (av (jh (x.2.1,(aY x.1.1))) λz=>(aE z (bF kB x.1.1 x.2.1 λs=>(bi s.2.1 0 (bF kB x.1.1 x.2.1 λq=>(iA q.2.2.1 0 (bF kB x.1.1 x.2.1 λd=>(aB (decide ((d.2.2.1:Int)=x.2.2)))) (aB aa))) (aB aa))) (aB aa))) λx1=>(Z x1))
def pX (x:eX×Int×Int×Int×Int×Int×Int):J (Bool):=
 (bi x.2.1 6 (jn (av (jh (x.p3,(aY x.1.1))) λy2=>(aE y2 (bF kB x.1.1 x.p3 λz3=>(aB (decide ((z3.2.2.1:Int)=0)))) (aB aa))) λx1=>(Z x1)) (bi x.2.1 8 (jn (av (jh (x.p2,(aY x.1.1))) λy5=>(aE y5 (bF kB x.1.1 x.p2 λz6=>(aB (decide ((z6.2.2.1:Int)=0)))) (aB aa))) λx4=>(Z x4)) (bi x.2.1 7 (av (qO (x.1,x.p3,x.p5)) λy7=>(Z y7)) (bi x.2.1 9 (av (qO (x.1,x.p2,x.p5)) λy8=>(Z y8)) (jn (bi x.2.1 11 (aB ((decide ((x.2.1:Int)=11)),x)) (aB ((decide ((x.2.1:Int)=12)),x))) λz=>(aE z.1 (jn (av (jh (z.p3,(aY z.2.1.2.1))) λy11=>(aE y11 (bF qr z.2.1.2.1 z.p3 λD=>(aB (!D.2))) (aB aa))) λx10=>(Z x10)) (jn (bi x.2.1 13 (aB ((decide ((x.2.1:Int)=13)),z.2)) (bi x.2.1 14 (aB ((decide ((x.2.1:Int)=14)),z.2)) (bi x.2.1 15 (aB ((decide ((x.2.1:Int)=15)),z.2)) (aB ((decide ((x.2.1:Int)=16)),z.2))))) λq=>(aE q.1 (jn (av (jh (q.p3,(aY q.2.1.2.1))) λy15=>(aE y15 (bF qr q.2.1.2.1 q.p3 λA=>(aB A.2)) (aB aa))) λx14=>(Z x14)) (jn (bi x.2.1 21 (aB ((decide ((x.2.1:Int)=21)),q.2)) (bi x.2.1 22 (aB ((decide ((x.2.1:Int)=22)),q.2)) (aB ((decide ((x.2.1:Int)=23)),q.2)))) λs=>(aE s.1 (av (jh (s.p3,(aY s.2.1.p2))) λy18=>(Z y18)) (jn (bi x.2.1 24 (aB ((decide ((x.2.1:Int)=24)),s.2)) (aB ((decide ((x.2.1:Int)=25)),s.2))) λd=>(aE d.1 (av (jh (d.p3,(aY d.2.1.p4))) λL=>(Z L)) (bi x.2.1 26 (av (jh (d.p3,(aY d.2.1.p3))) λI=>(Z I)) (bi x.2.1 27 (av (jh (d.p4,(aY d.2.1.p3))) λF=>(Z F)) (bi x.2.1 3 (jn (bi d.p6 4 (aB M) (aB (decide ((d.p6:Int)=5)))) λx23=>(Z x23)) (bi x.2.1 4 (jn (ja 6 d.p6 (aB (cL d.p6 18)) (aB aa)) λx24=>(Z x24)) (Z M)))))))))))))))))
def kS (x:eX×Int×Int×Y k9):J (Bool):=
 (jn (bx x.p2 0 (aB (M,x.1,x.2.2)) (bx 32 x.p2 (aB (M,x.1,x.2.2)) (aB ((decide (((aY x.q3):Int)=0)),x.1,x.2.2)))) λx1=>(aE x1.1 (Z aa) (iter (σ:=Int×eX×Int×Y k9) (λx2=>(bx x2.1 (aY x.q3) (bF qz x2.q3 x2.1 λs=>(jn (bx s.1 1 (aB (M,x2.2.1,x2.2.2,s)) (bx 28 s.1 (aB (M,x2.2.1,x2.2.2,s)) (aE (((decide ((s.1:Int)=28))==(decide ((x2.1:Int)=(aZ .i64 ((aY x.q3)-1))))) !=M) (aB (M,x2.2.1,x2.2.2,s)) (av (pX (x2.2.1,s)) λy5=>(aE (!y5) (aB (M,x2.2.1,x2.2.2,s)) (av (tg (x2.q3,x2.1)) λy6=>(aB ((!y6),x2.2.1,x2.2.2,s)))))))) λx4=>(aE x4.1 (aB aa) (jn (α:=Bool×eX×(Int×Y k9)×Int×Int×Int×Int×Int×Int) (bi x4.p3 28 (iA x4.q8 (-1) (aB (M,x4.2)) (iA x4.p3 28 (av (jh (x4.q8,(aY x4.2.1.q5))) λy8=>(aE (!y8) (aB (M,x4.2)) (bF nQ x4.2.1.q5 x4.q8 λz9=>(aB ((!decide ((z9.1:Int)=x.2.1)),x4.2))))) (aB (aa,x4.2)))) (iA x4.p3 28 (av (jh (x4.q8,(aY x4.2.1.q5))) λy10=>(aE (!y10) (aB (M,x4.2)) (bF nQ x4.2.1.q5 x4.q8 λF=>(aB ((!decide ((F.1:Int)=x.2.1)),x4.2))))) (aB (aa,x4.2)))) λq=>(aE q.1 (aB aa) (jn (bi q.p3 5 (av (jh (q.p4,(aY x.q3))) λy13=>(aE (!y13) (aB (M,q.2)) (bi q.p3 10 (av (jh (q.p5,(aY x.q3))) λy14=>(aB ((!y14),q.2))) (aB (aa,q.2))))) (bi q.p3 10 (av (jh (q.p5,(aY x.q3))) λL=>(aB ((!L),q.2))) (aB (aa,q.2)))) λz=>(aE z.1 (aB aa) (av (jB z.q3) λA=>(iter (σ:=Int×eX×Int×Y k9) (λd=>(bx d.1 (aY A) (bF aM A d.1 λD=>(av (jh (D,d.p2)) λI=>(aE (!I) (aB (b7 aa)) (cH ((ct d.1),d.2))))) (aB (nk ((ct x2.1),d.2))))) (0,z.2.1,z.p2)))))))))) (aB M))) (0,x1.2))))
def ph (x:eX×Y (Int×Y k9)):J (Bool):=
 (jn (av (gU x.1) λs=>(aE (!s) (aB (M,x)) (aB ((!decide (((aY x.2):Int)=(aY x.1.p4))),x)))) λx1=>(aE x1.1 (Z aa) (iter (σ:=Int×eX×Y (Int×Y k9)) (λx3=>(bx x3.1 (aY x3.2.2) (bF vS x3.2.2 x3.1 λd=>(av (kS (x3.2.1,x3.1,d)) λq=>(aE (!q) (aB aa) (cH ((ct x3.1),x3.2))))) (aB M))) (0,x1.2))))
def cw (x:k9×rL×Y k9):J (rL×Y k9):=
 (bp (be (ah x.2.2+ah ([(x.1.1,x.1.2.1,x.1.p2,x.1.p3,x.1.p4,x.2.1.p7)])) 48) (Z (x.2.1,(x.2.2++([(x.1.1,x.1.2.1,x.1.p2,x.1.p3,x.1.p4,x.2.1.p7)])))))
def qe (rr06_gen_value:((Xp×Int)×rL×Y k9)->J (rL×Y k9)) (x:(Xp×Int)×rL×Y k9):J (rL×Y k9):=
 (jn (α:=rL×Y k9) (bi (Xp.op x.1.1) 1 (av (cw ((1,x.1.2,0,0,(Xp.n x.1.1),0),x.2)) λy2=>(bp (ax (ah x.2.2) (ah x.2.2)&&M) (aB y2))) (bi (Xp.op x.1.1) 2 (av (jT (x.2.1.p6,(Xp.name x.1.1))) λy3=>(ja 0 y3 (av (cw ((2,x.1.2,y3,0,0,0),x.2)) λy4=>(bp (ax (ah x.2.2) (ah x.2.2)&&M) (aB y4))) (av (lw ((x.2.1.1,x.2.1.2.1,x.2.1.p2,x.2.1.p3,x.2.1.p4,x.2.1.p5),(Xp.name x.1.1))) λy5=>(av (cw ((6,x.1.2,y5,0,0,0),x.2)) λy6=>(bp (ax (ah x.2.2) (ah x.2.2)&&M) (aB y6)))))) (bi (Xp.op x.1.1) 3 (bF (.ex) (Xp.l x.1.1) 0 λz7=>(av (rr06_gen_value ((z7,x.1.2),x.2)) λd=>(bp (ax (ah x.2.2) (ah x.2.2)&&M) (av (lw ((d.1.1,d.1.2.1,d.1.p2,d.1.p3,d.1.p4,d.1.p5),(Xp.name x.1.1))) λy9=>(bF kB d.1.1 y9 λI=>(av (cw ((7,x.1.2,y9,x.1.2,I.2.2.1,0),d)) λy11=>(bp (ax (ah d.2) (ah d.2)&&M) (aB y11)))))))) (bi (aT (ah (Xp.l x.1.1))) 1 (bF (.ex) (Xp.l x.1.1) 0 λF=>(av (rr06_gen_value ((F,x.1.2),x.2)) λz=>(bp (ax (ah x.2.2) (ah x.2.2)&&M) (av (cw ((3,x.1.2,x.1.2,0,(Xp.op x.1.1),0),z)) λy14=>(bp (ax (ah z.2) (ah z.2)&&M) (aB y14)))))) (bF (.ex) (Xp.l x.1.1) 0 λD=>(av (rr06_gen_value ((D,x.1.2),x.2)) λs=>(bp (ax (ah x.2.2) (ah x.2.2)&&M) (bF (.ex) (Xp.l x.1.1) 1 λA=>(av (rr06_gen_value ((A,(ct x.1.2)),s)) λq=>(bp (ax (ah s.2) (ah s.2)&&M) (av (cw ((4,x.1.2,x.1.2,(ct x.1.2),(Xp.op x.1.1),0),q)) λL=>(bp (ax (ah q.2) (ah q.2)&&M) (aB L))))))))))))) λx1=>(Z x1))
def iF:Nat->((Xp×Int)×rL×Y k9)->J (rL×Y k9)
 |0,_=>U
 |n+1,x=>qe (iF n) x
theorem zH (n:Nat) (x:(Xp×Int)×rL×Y k9):iF (n+1) x=qe (iF n) x:=rfl
def iC (x:(Xp×Int)×rL×Y k9):J (rL×Y k9):=iF fuel x
def lV (x:Sx×rL×Y k9):J (rL×Y k9):=
 (bx 0 (aT (ah (Sx.index x.1))) (bF (.ex) (Sx.index x.1) 0 λL=>(av (iC ((L,(aY x.2.1.p6)),x.2)) λs=>(bp (ax (ah x.2.2) (ah x.2.2)&&M) (av (iC ((d8 ((Xp.op (Sx.expr x.1)),(Xp.n (Sx.expr x.1)),(Xp.name (Sx.expr x.1)),(Xp.l (Sx.expr x.1))),(aZ .i64 ((aY x.2.1.p6)+1))),s)) λq=>(bp (ax (ah s.2) (ah s.2)&&M) (av (lw ((q.1.1,q.1.2.1,q.1.p2,q.1.p3,q.1.p4,q.1.p5),(Sx.name x.1))) λF=>(bF kB q.1.1 F λI=>(av (cw ((9,F,(aZ .i64 ((aY x.2.1.p6)+1)),(aY x.2.1.p6),I.2.2.1,0),q)) λy6=>(bp (ax (ah q.2) (ah q.2)&&M) (Z y6)))))))))) (av (iC ((d8 ((Xp.op (Sx.expr x.1)),(Xp.n (Sx.expr x.1)),(Xp.name (Sx.expr x.1)),(Xp.l (Sx.expr x.1))),(aY x.2.1.p6)),x.2)) λd=>(bp (ax (ah x.2.2) (ah x.2.2)&&M) (av (jT (d.1.p6,(Sx.name x.1))) λD=>(ja 0 D (av (cw ((2,D,(aY x.2.1.p6),0,0,0),d)) λy9=>(bp (ax (ah d.2) (ah d.2)&&M) (Z y9))) (av (lw ((d.1.1,d.1.2.1,d.1.p2,d.1.p3,d.1.p4,d.1.p5),(Sx.name x.1))) λA=>(av (cw ((8,A,(aY x.2.1.p6),0,0,0),d)) λz=>(bp (ax (ah d.2) (ah d.2)&&M) (Z z)))))))))
def jp (x:ζ×rL×Y k9):J (Int×rL×Y k9):=
 (iter (σ:=Int×rL×Y k9) (λx1=>(bx x1.1 (aY x1.2.1.p2) (bF ll x1.2.1.p2 x1.1 λd=>(aE (decide ((d.1:ζ)=x.1)) (aB x1) (cH ((ct x1.1),x1.2)))) (aB ((-1),x1.2)))) (0,x.2))
def qf (rr06_gen_stmts:ZG->J (rL×Y k9)) (rr06_gen_stmt:Ld->J (rL×Y k9)) (rr06_gen_branches:Ld->J (rL×Y k9)) (rr06_gen_around:ZH->J (rL×Y k9)) (x:(Y Sx)×rL×Y k9):J (rL×Y k9):=
 (iter (σ:=Int×rL×Y k9) (λx1=>(bx x1.1 (aY x.1) (bF (.sm) x.1 x1.1 λd=>(av (rr06_gen_stmt (d,x1.2)) λq=>(bp (ax (ah x1.2.2) (ah x1.2.2)&&M) (cH ((ct x1.1),q))))) (aB x1.2))) (0,x.2))
def rC (rr06_gen_stmts:ZG->J (rL×Y k9)) (rr06_gen_stmt:Ld->J (rL×Y k9)) (rr06_gen_branches:Ld->J (rL×Y k9)) (rr06_gen_around:ZH->J (rL×Y k9)) (x:Sx×rL×Y k9):J (rL×Y k9):=
 (jn (α:=rL×Y k9) (bi (Sx.op x.1) 1 (av (lV (dW x.1,(x.2.1.1,x.2.1.2.1,x.2.1.p2,x.2.1.p3,x.2.1.p4,x.2.1.p5,x.2.1.p6,x.2.1.q8,(ct x.2.1.q8)),x.2.2)) λy2=>(bp (ax (ah x.2.2) (ah x.2.2)&&M) (aB y2))) (jn (bi (Sx.op x.1) 2 (aB ((decide (((Sx.op x.1):Int)=2)),(x.2.1.1,x.2.1.2.1,x.2.1.p2,x.2.1.p3,x.2.1.p4,x.2.1.p5,x.2.1.p6,x.2.1.q8,(ct x.2.1.q8)),dW x.1,x.2.2)) (aB ((decide (((Sx.op x.1):Int)=3)),(x.2.1.1,x.2.1.2.1,x.2.1.p2,x.2.1.p3,x.2.1.p4,x.2.1.p5,x.2.1.p6,x.2.1.q8,(ct x.2.1.q8)),dW x.1,x.2.2))) λx3=>(aE x3.1 (av (rr06_gen_branches (dW x3.p2,x3.2.1,x3.q3)) λy4=>(bp (ax (ah x3.q3) (ah x3.q3)&&M) (aB y4))) (bi (Sx.op x.1) 4 (av (lq (x3.2.1.2.1,(Sx.name x3.p2))) λy5=>(av (rr06_gen_around ((dW x3.p2,11,12,y5),x3.2.1,x3.q3)) λy6=>(bp (ax (ah x3.q3) (ah x3.q3)&&M) (aB y6)))) (bi (Sx.op x.1) 5 (av (lq (x3.2.1.2.1,(Sx.name x3.p2))) λy7=>(av (rr06_gen_around ((dW x3.p2,13,14,y7),x3.2.1,x3.q3)) λy8=>(bp (ax (ah x3.q3) (ah x3.q3)&&M) (aB y8)))) (bi (Sx.op x.1) 6 (av (lq (x3.2.1.2.1,(Sx.name x3.p2))) λy9=>(av (rr06_gen_around ((dW x3.p2,15,16,y9),x3.2.1,x3.q3)) λy10=>(bp (ax (ah x3.q3) (ah x3.q3)&&M) (aB y10)))) (bi (Sx.op x.1) 7 (av (rr06_gen_around ((dW x3.p2,17,18,0),x3.2.1,x3.q3)) λy11=>(bp (ax (ah x3.q3) (ah x3.q3)&&M) (aB y11))) (bi (Sx.op x.1) 8 (av (rr06_gen_around ((dW x3.p2,19,20,0),x3.2.1,x3.q3)) λy12=>(bp (ax (ah x3.q3) (ah x3.q3)&&M) (aB y12))) (bi (Sx.op x.1) 9 (av (jp ((Sx.name x3.p2),x3.2.1,x3.q3)) λs=>(bp (ax (ah x3.q3) (ah s.2.2)&&M) (av (cw ((21,s.1,0,0,0,0),s.2)) λy14=>(bp (ax (ah s.2.2) (ah s.2.2)&&M) (aB y14))))) (bi (Sx.op x.1) 10 (av (jp ((Sx.name x3.p2),x3.2.1,x3.q3)) λq=>(bp (ax (ah x3.q3) (ah q.2.2)&&M) (av (cw ((22,q.1,0,0,0,0),q.2)) λy16=>(bp (ax (ah q.2.2) (ah q.2.2)&&M) (aB y16))))) (bi (Sx.op x.1) 11 (av (jp ((Sx.name x3.p2),x3.2.1,x3.q3)) λd=>(bp (ax (ah x3.q3) (ah d.2.2)&&M) (av (cw ((23,d.1,0,0,0,0),d.2)) λy18=>(bp (ax (ah d.2.2) (ah d.2.2)&&M) (aB y18))))) (bi (Sx.op x.1) 12 (av (jT (x3.2.1.p4,(Sx.name x3.p2))) λy19=>(av (cw ((24,y19,0,0,0,0),x3.2.1,x3.q3)) λy20=>(bp (ax (ah x3.q3) (ah x3.q3)&&M) (aB y20)))) (bi (Sx.op x.1) 13 (av (jT (x3.2.1.p4,(Sx.name x3.p2))) λy21=>(av (cw ((25,y21,0,0,0,0),x3.2.1,x3.q3)) λy22=>(bp (ax (ah x3.q3) (ah x3.q3)&&M) (aB y22)))) (bi (Sx.op x.1) 14 (av (iC ((d8 ((Xp.op (Sx.expr x3.p2)),(Xp.n (Sx.expr x3.p2)),(Xp.name (Sx.expr x3.p2)),(Xp.l (Sx.expr x3.p2))),(aY x.2.1.p6)),x3.2.1,x3.q3)) λz=>(bp (ax (ah x3.q3) (ah x3.q3)&&M) (av (jT (z.1.p3,(Sx.name x3.p2))) λL=>(av (cw ((26,L,(aY x.2.1.p6),0,0,0),z)) λI=>(bp (ax (ah z.2) (ah z.2)&&M) (aB I)))))) (bi (Sx.op x.1) 15 (av (jT (x3.2.1.p6,(Sx.name x3.p2))) λF=>(av (jT (x3.2.1.p3,(Sx.arg x3.p2))) λD=>(av (cw ((27,F,D,0,0,0),x3.2.1,x3.q3)) λA=>(bp (ax (ah x3.q3) (ah x3.q3)&&M) (aB A))))) (aB (x3.2.1,x3.q3))))))))))))))))) λx1=>(Z x1))
def mq (rr06_gen_stmts:ZG->J (rL×Y k9)) (rr06_gen_stmt:Ld->J (rL×Y k9)) (rr06_gen_branches:Ld->J (rL×Y k9)) (rr06_gen_around:ZH->J (rL×Y k9)) (x:Sx×rL×Y k9):J (rL×Y k9):=
 (av (iC ((d8 ((Xp.op (Sx.expr x.1)),(Xp.n (Sx.expr x.1)),(Xp.name (Sx.expr x.1)),(Xp.l (Sx.expr x.1))),(aY x.2.1.p6)),x.2)) λq=>(bp (ax (ah x.2.2) (ah x.2.2)&&M) (av (cw ((10,(aY q.1.p6),0,0,0,0),q)) λD=>(bp (ax (ah q.2) (ah q.2)&&M) (av (rr06_gen_stmts ((Sx.body x.1),D)) λd=>(bp (ax (ah D.2) (ah D.2)&&M) (bi (Sx.op x.1) 3 (av (cw ((5,(aY x.2.2),0,0,0,0),(d.1.1,d.1.2.1,d.1.p2,d.1.p3,d.1.p4,d.1.p5,d.1.p6,x.2.1.p7,d.1.q8),d.2)) λz=>(bp (ax (ah d.2) (ah d.2)&&M) (ck (fm (aY q.2) (ah z.2)) (Z (z.1,(cJ z.2 (aY q.2) ((aH (T:=qz) z.2 (aY q.2)).1,((aH (T:=qz) z.2 (aY q.2)).2).1,(aY z.2),(((aH (T:=qz) z.2 (aY q.2)).2).2).2))))))) (bi (aT (ah (Sx.els x.1))) 0 (ck (fm (aY q.2) (ah d.2)) (Z ((d.1.1,d.1.2.1,d.1.p2,d.1.p3,d.1.p4,d.1.p5,d.1.p6,x.2.1.p7,d.1.q8),(cJ d.2 (aY q.2) ((aH (T:=qz) d.2 (aY q.2)).1,((aH (T:=qz) d.2 (aY q.2)).2).1,(aY d.2),(((aH (T:=qz) d.2 (aY q.2)).2).2).2))))) (av (cw ((5,0,0,0,0,0),(d.1.1,d.1.2.1,d.1.p2,d.1.p3,d.1.p4,d.1.p5,d.1.p6,x.2.1.p7,d.1.q8),d.2)) λs=>(bp (ax (ah d.2) (ah d.2)&&M) (ck (fm (aY q.2) (ah s.2)) (av (rr06_gen_stmts ((Sx.els x.1),s.1,(cJ s.2 (aY q.2) ((aH (T:=qz) s.2 (aY q.2)).1,((aH (T:=qz) s.2 (aY q.2)).2).1,(aY s.2),(((aH (T:=qz) s.2 (aY q.2)).2).2).2)))) λA=>(bp (ax (ah (cJ s.2 (aY q.2) ((aH (T:=qz) s.2 (aY q.2)).1,((aH (T:=qz) s.2 (aY q.2)).2).1,(aY s.2),(((aH (T:=qz) s.2 (aY q.2)).2).2).2))) (ah (cJ s.2 (aY q.2) ((aH (T:=qz) s.2 (aY q.2)).1,((aH (T:=qz) s.2 (aY q.2)).2).1,(aY s.2),(((aH (T:=qz) s.2 (aY q.2)).2).2).2)))&&M) (ck (fm (aY d.2) (ah A.2)) (Z (A.1,(cJ A.2 (aY d.2) ((aH (T:=qz) A.2 (aY d.2)).1,(aY A.2),((aH (T:=qz) A.2 (aY d.2)).2).2))))))))))))))))))
def oP (rr06_gen_stmts:ZG->J (rL×Y k9)) (rr06_gen_stmt:Ld->J (rL×Y k9)) (rr06_gen_branches:Ld->J (rL×Y k9)) (rr06_gen_around:ZH->J (rL×Y k9)) (x:(Sx×Int×Int×Int)×rL×Y k9):J (rL×Y k9):=
 (av (cw ((x.1.2.1,x.1.q3,0,0,0,0),x.2)) λq=>(bp (ax (ah x.2.2) (ah x.2.2)&&M) (av (rr06_gen_stmts ((Sx.body x.1.1),q)) λd=>(bp (ax (ah q.2) (ah q.2)&&M) (av (cw ((x.1.p2,x.1.q3,0,0,0,0),(d.1.1,d.1.2.1,d.1.p2,d.1.p3,d.1.p4,d.1.p5,d.1.p6,x.2.1.p7,d.1.q8),d.2)) λs=>(bp (ax (ah d.2) (ah d.2)&&M) (Z s)))))))
mutual
def dF:Nat->ZG->J (rL×Y k9)
 |0,_=>U
 |n+1,x=>qf (dF n) (eC n) (cY n) (dB n) x
def eC:Nat->Ld->J (rL×Y k9)
 |0,_=>U
 |n+1,x=>rC (dF n) (eC n) (cY n) (dB n) x
def cY:Nat->Ld->J (rL×Y k9)
 |0,_=>U
 |n+1,x=>mq (dF n) (eC n) (cY n) (dB n) x
def dB:Nat->ZH->J (rL×Y k9)
 |0,_=>U
 |n+1,x=>oP (dF n) (eC n) (cY n) (dB n) x
end
def ti (x:(Y Sx)×rL×Y k9):J (rL×Y k9):=dF fuel x
def pY (x:vQ×Y vP):J (Bk×Int×Int):=
 (av (ki x) λF=>(iA F.1 0 (Z (((([]:Y Rf),([]:Y (ζ×Bool)),([]:Y jw),([]:Y ζ),([]:Y ζ),([]:Y ν)),([]:Y (Int×Y k9))),F)) (av (tj x) λy2=>(iter (σ:=(Γ)×(vQ×Y vP)×eX×Y (Int×Y k9)) (λx3=>(bx x3.1.2 (aY x3.2.1.2) (bF sq x3.2.1.2 x3.1.2 λz4=>(bF sq x3.2.1.2 x3.1.2 λL=>(av (ti (L.2.2.2,(x3.p2.1,x3.p2.2.1,x3.p2.p2,x3.p2.p3,x3.p2.p4,x3.p2.q5,z4.2.2.1,0,x3.1.1),([]:Y k9))) λs=>(bp (ax (ah ([]:Y k9)) (ah ([]:Y k9))&&M) (av (cw ((28,0,0,0,0,0),(s.1.1,s.1.2.1,s.1.p2,s.1.p3,s.1.p4,s.1.p5,s.1.p6,(-1),s.1.q8),s.2)) λD=>(bp (ax (ah s.2) (ah s.2)&&M) (iter (σ:=Int×(vQ×Y vP)×eX×rL×Int×(Y (Int×Y k9))×Y k9) (λq=>(bx q.1 (aY q.q6) (kF qz q.q6 q.1 λI=>(av (jB I) λz=>(iter (σ:=Int×(vQ×Y vP)×eX×rL×Int×(Y (Int×Y k9))×Y k9) (λd=>(bx d.1 (aY z) (bF aM z d.1 λA=>(cH ((ct d.1),d.2.1,d.p2,d.p3,(lh d.p4 (ct A)),d.q5))) (aB (nk ((ct q.1),d.2))))) (0,q.2)))) (av (bp (be (ah q.p5+ah ([(q.p4,q.q6)])) 32) (cH ((s.1.q8,(ct x3.1.2)),q.2.1,q.p2,(q.p5++([(q.p4,q.q6)]))))) λr=>Z (b7 r)))) (0,x3.2.1,x3.p2,D.1,(aY D.1.p6),x3.q3,D.2)))))))) (aB (x3.2.2,0,0)))) ((0,0),x,y2,([]:Y (Int×Y k9)))))))
def oh (x:η×Int):J (Bool):=
 (iter (σ:=Int) (λx1=>(bx x1 (aY x.1) (bF aM x.1 x1 λd=>(bi d x.2 (aB M) (cH (ct x1)))) (aB aa))) 0)
def vi (x:η×Int):J η:=
 (iter (σ:=Int) (λx1=>(jn (bx x1 (aY x.1) (bF aM x.1 x1 λq=>(aB (fI q x.2))) (aB aa)) λx2=>(aE x2 (cH (ct x1)) (av (jn (bx x1 (aY x.1) (bF aM x.1 x1 λd=>(aB (decide ((d:Int)=x.2)))) (aB aa)) λx4=>(aE x4 (Z x.1) (bp (cL 0 x1&&cL x1 (ah x.1)) (bp (be (ah ([]:η)+ah (dh (aP x1) x.1)) 8) (bp (be (ah (([]:η)++(dh (aP x1) x.1))+ah ([x.2])) 8) (bp (cL 0 x1&&cL x1 (ah x.1)) (bp (be (ah ((([]:η)++(dh (aP x1) x.1))++([x.2]))+ah (List.drop (aP x1) x.1)) 8) (Z (((([]:η)++(dh (aP x1) x.1))++([x.2]))++(List.drop (aP x1) x.1)))))))))) λr=>Z (b7 r))))) 0)
def qN (x:η×η):J η:=
 (iter (σ:=(η)×Int) (λx1=>(bx x1.2 (aY x.1) (bF aM x.1 x1.2 λq=>(av (vi (x1.1,q)) λz=>(cH (z,(ct x1.2))))) (av (iter (σ:=(η)×Int) (λx4=>(bx x4.2 (aY x.2) (bF aM x.2 x4.2 λd=>(av (vi (x4.1,d)) λs=>(cH (s,(ct x4.2))))) (aB x4.1))) (x1.1,0)) λr=>Z (b7 r)))) (([]:η),0))
def mb (x:Int):J (Int):=
 (jn (bx x 1 (aB M) (aB (fI 100 x))) λx1=>(aE x1 (Z 0) (Z x)))
def cg (x:Int×(η)×(Y η)×Int):J (Γ×(η)×Y η):=
 (bp (be (ah ([]:η)+ah x.2.1) 8) (iter (σ:=Int×uO×(Γ)×(Γ)×(η)×Y η) (λx1=>(bx x1.1 (aY x1.2.1.p2) (bF (.sl aM) x1.2.1.p2 x1.1 λd=>(bp (be (ah ([]:η)+ah d) 8) (bp (be (ah x1.q5+ah ([(([]:η)++d)])) 24) (cH ((ct x1.1),x1.2.1,x1.p2,x1.p3,x1.p4,(x1.q5++([(([]:η)++d)]))))))) (aB x1.q3))) (0,x,(0,0),(x.1,x.q3),(([]:η)++x.2.1),([]:Y η))))
def vh (x:(k9×Int×Int)×(η)×Y η):J ((Γ×Bool)×(η)×Y η):=
 (av (jB x.1.1) λy1=>(iter (σ:=Int×(η)×(Y η)×k9×(Γ)×Int×Int) (λx2=>(bx x2.1 (aY y1) (jn (bF aM y1 x2.1 λz4=>(bx z4 0 (aB (M,x2.2)) (bF aM y1 x2.1 λz5=>(aB ((cL (aY x2.2.1) z5),x2.2))))) λx3=>(aE x3.1 U (cH ((ct x2.1),x3.2)))) (av (jn (α:=(Int×Bool×η)×(η)×(Y η)×k9×(Γ)×Int×Int) (bi x2.p3.1 5 (cH (((x2.p3.2.1,x2.p4.2),M),x2.2.1,x2.p2)) (bi x2.p3.1 1 (aB ((x2.p3.p4,M,([]:η)),x2.2)) (bi x2.p3.1 2 (kF aM x2.2.1 x2.p3.p2 λz7=>(kF (.sl aM) x2.p2 x2.p3.p2 λz8=>(aB ((z7,M,z8),x2.2)))) (bi x2.p3.1 3 (av (mb x2.p3.p4) λy9=>(kF aM x2.2.1 x2.p3.p2 λL=>(av (tm (y9,L)) λs=>(kF (.sl aM) x2.p2 x2.p3.p2 λI=>(aB ((s.1,s.2,I),x2.2)))))) (av (mb x2.p3.p4) λy13=>(kF aM x2.2.1 x2.p3.p2 λF=>(kF aM x2.2.1 x2.p3.p3 λD=>(av (rP (y13,F,D)) λq=>(kF (.sl aM) x2.p2 x2.p3.p2 λA=>(kF (.sl aM) x2.p2 x2.p3.p3 λz=>(av (qN (A,z)) λy19=>(aB ((q.1,q.2,y19),x2.2))))))))))))) λd=>(bp (be (ah ([]:η)+ah d.1.2.2) 8) (ck (fm d.p3.2.1 (ah d.2.1)) (ck (fm d.p3.2.1 (ah d.p2)) (Z ((((ct d.p4.1),d.p4.2),d.1.2.1),(cJ d.2.1 d.p3.2.1 d.1.1),(cJ d.p2 d.p3.2.1 (([]:η)++d.1.2.2)))))))) λr=>Z (b7 r)))) (0,x.2.1,x.2.2,x.1.1,x.1.2,0,0)))
def m6 (x:(Int×Y k9)×Int×(η)×(Y η)×Int):J (uO×Bool):=
 (jn (α:=Bool×(Int×Y k9)×uO×Int×Int) (iA (aY x.p2) x.1.1 (aB (M,x.1,x.2,0,0)) (aB ((!decide (((aY x.p3):Int)=x.1.1)),x.1,x.2,0,0))) λx1=>(aE x1.1 (Z ((0,([]:η),([]:Y η),0),aa)) (av (cg x1.p2) λs=>(iter (σ:=Int×(Int×Y k9)×(Γ)×(Γ)×(η)×Y η) (λx3=>(ja x3.1 (aY x3.2.1.2) (jn (bx x3.p2.1 0 (aB (M,x3.2)) (aB ((cL (aY x3.2.1.2) x3.p2.1),x3.2))) λx4=>(aE x4.1 (aB ((0,([]:η),([]:Y η),0),aa)) (bF qz x4.2.1.2 x4.p2.1 λq=>(av (px q.1) λz=>(aE (!z) (aB ((x4.p2.1,x4.p4,x4.q5,x4.p2.2),M)) (bi x3.1 (aY x4.2.1.2) (aB ((0,([]:η),([]:Y η),0),aa)) (av (vh ((q,x4.p2),x4.q4)) λd=>(bp (ax (ah x4.q5) (ah d.2.2)&&(ax (ah x4.p4) (ah d.2.1)&&M)) (aE (!d.1.2) (aB ((0,([]:η),([]:Y η),0),aa)) (cH ((ct x3.1),x4.2.1,d.1.1,x4.p3,d.2))))))))))) (aB ((0,([]:η),([]:Y η),0),aa)))) (0,x1.2.1,s.1,x1.q3,s.2)))))
def pe (x:ne×mi×(Y jw)×dg×dg×Y ν):J pG:=
 (iter (σ:=Int×eX×Int×Int×Y (Int×η)) (λx1=>(bx x1.1 (aY x1.2.1.2.1) (bp (be (ah x1.q4+ah ([((-1),([]:η))])) 32) (cH ((ct x1.1),x1.2.1,x1.p2,x1.p3,(x1.q4++([((-1),([]:η))]))))) (av (iter (σ:=Int×eX×Int×Int×iG×θ) (λx2=>(bx x2.1 (aY x2.2.1.p3) (bp (be (ah x2.q5+ah ([aa])) 1) (cH ((ct x2.1),x2.2.1,x2.p2,x2.p3,x2.p4,(x2.q5++([aa]))))) (av (iter (σ:=Int×eX×Int×Int×iG×(θ)×Y dG) (λx3=>(bx x3.1 (aY x3.2.1.p4) (jn (α:=eX×Int×Int×dG×iG×(θ)×Y dG) (bi x3.1 0 (aB (x3.2.1,x3.p2,x3.p3,(1,0,aa),x3.q4)) (aB (x3.2.1,x3.p2,x3.p3,(0,0,aa),x3.q4))) λx4=>(bp (be (ah x4.q6+ah ([x4.p3])) 24) (cH ((ct x3.1),x4.1,x4.2.1,x4.p2,x4.p4,x4.p5,(x4.q6++([x4.p3])))))) (aB (x3.p4,x3.p3,x3.q5)))) (0,x2.2.1,x2.p2,x2.p3,x2.p4,x2.q5,([]:Y dG))) λr=>Z (b7 r)))) (0,x1.2.1,x1.p2,x1.p3,x1.q4,([]:θ))) λr=>Z (b7 r)))) (0,x,0,(-1),([]:Y (Int×η))))
def nB (x:eX×iG×Int×(θ)×Y dG):J (Bool):=
 (iter (σ:=Int×eX×iG×Int×(θ)×Y dG) (λx1=>(bx x1.1 (aY x1.2.1.p2) (jn (bF ll x1.2.1.p2 x1.1 λq=>(bx q.2 0 (aB (M,x1.2)) (bF ll x1.2.1.p2 x1.1 λd=>(aB ((cL (aY x1.2.1.2.1) d.2),x1.2))))) λx2=>(aE x2.1 (aB aa) (cH ((ct x1.1),x2.2)))) (av (jn (bi (aY x1.p2) (aY x1.2.1.2.1) (bi (aY x1.p4) (aY x1.2.1.p3) (aB (decide (((aY x1.q5):Int)=(aY x1.2.1.p4)))) (aB aa)) (aB aa)) λs=>(Z s)) λr=>Z (b7 r)))) (0,x))
def pW (x:Γ):J (Bool):=
 (jn (ja 0 x.1 (aB (fI x.1 x.2)) (aB aa)) λx1=>(Z x1))
def pd (x:eX×Int×Int):J (Bool):=
 (jn (bi x.2.1 1 (aB ((decide ((x.2.1:Int)=1)),x.1)) (bi x.2.1 2 (aB ((decide ((x.2.1:Int)=2)),x.1)) (bi x.2.1 5 (aB ((decide ((x.2.1:Int)=5)),x.1)) (bi x.2.1 12 (aB ((decide ((x.2.1:Int)=12)),x.1)) (bi x.2.1 13 (aB ((decide ((x.2.1:Int)=13)),x.1)) (bi x.2.1 14 (aB ((decide ((x.2.1:Int)=14)),x.1)) (aB ((decide ((x.2.1:Int)=15)),x.1)))))))) λx1=>(aE x1.1 (Z (decide ((x.2.2:Int)=(-1)))) (jn (bi x.2.1 3 (aB ((decide ((x.2.1:Int)=3)),x1.2)) (aB ((decide ((x.2.1:Int)=4)),x1.2))) λx2=>(aE x2.1 (av (pW (x.2.2,(aY x2.2.1))) λy3=>(Z y3)) (jn (bi x.2.1 6 (aB ((decide ((x.2.1:Int)=6)),x2.2)) (aB ((decide ((x.2.1:Int)=7)),x2.2))) λx4=>(aE x4.1 (jn (av (pW (x.2.2,(aY x4.p2))) λy6=>(aE y6 (bF qr x4.p2 x.2.2 λz7=>(aB (!z7.2))) (aB aa))) λx5=>(Z x5)) (jn (bi x.2.1 8 (aB ((decide ((x.2.1:Int)=8)),x4.2)) (bi x.2.1 9 (aB ((decide ((x.2.1:Int)=9)),x4.2)) (bi x.2.1 10 (aB ((decide ((x.2.1:Int)=10)),x4.2)) (aB ((decide ((x.2.1:Int)=11)),x4.2))))) λs=>(aE s.1 (jn (av (pW (x.2.2,(aY s.p2))) λL=>(aE L (bF qr s.p2 x.2.2 λA=>(aB A.2)) (aB aa))) λx9=>(Z x9)) (jn (bi x.2.1 16 (aB ((decide ((x.2.1:Int)=16)),s.2)) (bi x.2.1 17 (aB ((decide ((x.2.1:Int)=17)),s.2)) (bi x.2.1 18 (aB ((decide ((x.2.1:Int)=18)),s.2)) (aB ((decide ((x.2.1:Int)=19)),s.2))))) λq=>(aE q.1 (av (pW (x.2.2,(aY q.p3))) λI=>(Z I)) (jn (bi x.2.1 20 (aB ((decide ((x.2.1:Int)=20)),q.2)) (aB ((decide ((x.2.1:Int)=21)),q.2))) λd=>(aE d.1 (av (pW (x.2.2,(aY d.p5))) λF=>(Z F)) (jn (bi x.2.1 22 (aB ((decide ((x.2.1:Int)=22)),d.2)) (aB ((decide ((x.2.1:Int)=23)),d.2))) λz=>(aE z.1 (av (pW (x.2.2,(aY z.p4))) λD=>(Z D)) (Z aa)))))))))))))))
def iu (x:eX×pG×Int×Int×Int):J (Bool):=
 (jn (av (nB (x.1,x.2.1)) λy2=>(aE (!y2) (aB (M,x.1,x.2.1)) (av (pW (x.p2,(aY x.1.p4))) λy3=>(aE (!y3) (aB (M,x.1,x.2.1)) (av (pd (x.1,x.q3)) λy4=>(aB ((!y4),x.1,x.2.1))))))) λx1=>(aE x1.1 (Z aa) (bF gC x1.q5 x.p2 λs=>(bi x.p3 1 (Z (decide ((s.1:Int)=1))) (bi x.p3 17 (jn (α:=Bool) (bi s.1 4 (bi s.2.1 x.q4 (bF ll x1.2.1.p2 x.q4 λz7=>(bF dl x1.p2 z7.2 λz8=>(aB (decide ((z8.1:Int)=(-1)))))) (aB aa)) (aB aa)) λx6=>(Z x6)) (iA s.1 2 (Z aa) (bi x.p3 6 (bF dl x1.p2 x.q4 λz9=>(Z (decide ((z9.1:Int)=(-1))))) (bi x.p3 10 (jn (α:=Bool) (bF dl x1.p2 x.q4 λz11=>(bi z11.1 (-1) (bF dl x1.p2 x.q4 λz12=>(aB (decide (((aY z12.2):Int)=0)))) (aB aa))) λx10=>(Z x10)) (bi x.p3 8 (jn (α:=Bool) (bF dl x1.p2 x.q4 λz14=>(bi z14.1 (-1) (bF dl x1.p2 x.q4 λz15=>(av (oh (z15.2,x.p2)) λy16=>(aB (!y16)))) (aB aa))) λx13=>(Z x13)) (jn (bi x.p3 7 (aB ((decide ((x.p3:Int)=7)),x1.2.1,x1.2.2,s)) (aB ((decide ((x.p3:Int)=11)),x1.2.1,x1.2.2,s))) λd=>(aE d.1 (bF dl d.p2.1 x.q4 λz18=>(Z (decide ((z18.1:Int)=x.p2)))) (bi x.p3 9 (bF dl d.p2.1 x.q4 λz19=>(av (oh (z19.2,x.p2)) λy20=>(Z y20))) (bi x.p3 12 (Z (decide ((d.p2.2.1:Int)=(-1)))) (bi x.p3 13 (Z (decide ((d.p2.2.1:Int)=x.p2))) (bi x.p3 14 (Z (!d.q5)) (bi x.p3 15 (Z d.q5) (jn (bi x.p3 16 (aB ((decide ((x.p3:Int)=16)),d.2.1,d.p2)) (bi x.p3 18 (aB ((decide ((x.p3:Int)=18)),d.2.1,d.p2)) (aB ((decide ((x.p3:Int)=19)),d.2.1,d.p2)))) λq=>(aE q.1 (bF ll q.2.1.p2 x.q4 λL=>(bF dl q.p2 L.2 λI=>(Z (decide ((I.1:Int)=x.p2))))) (bi x.p3 20 (jn (iA x.q4 x.p2 (bF gC q.q5 x.q4 λF=>(aB (decide ((F.1:Int)=0)))) (aB aa)) λx24=>(Z x24)) (bi x.p3 21 (jn (iA x.q4 x.p2 (bF gC q.q5 x.q4 λD=>(aB (decide ((D.1:Int)=5)))) (aB aa)) λx26=>(Z x26)) (bi x.p3 22 (bF (.bool) q.p4 x.q4 λA=>(Z (!A))) (bi x.p3 23 (bF (.bool) q.p4 x.q4 λz=>(Z z)) (Z M)))))))))))))))))))))))
def nA (x:pG×Int):J η:=
 (iter (σ:=Int×pG×η) (λx1=>(bx x1.1 (aY x1.2.1.q3) (jn (α:=pG×η) (jn (bF gC x1.2.1.q3 x1.1 λq=>(bi q.1 3 (bF gC x1.2.1.q3 x1.1 λd=>(aB ((decide ((d.2.1:Int)=x.2)),x1.2))) (aB (aa,x1.2)))) λx3=>(aE x3.1 (bp (be (ah x3.2.2+ah ([x1.1])) 8) (aB (x3.2.1,(x3.2.2++([x1.1]))))) (aB x3.2))) λx2=>(cH ((ct x1.1),x2))) (aB x1.2.2))) (0,x.1,([]:η)))
def pV (x:η×Int):J η:=
 (iter (σ:=Int×η) (λx1=>(bx x1.1 (aY x.1) (jn (α:=η) (bF aM x.1 x1.1 λq=>(iA q x.2 (bF aM x.1 x1.1 λd=>(bp (be (ah x1.2+ah ([d])) 8) (aB (x1.2++([d]))))) (aB x1.2))) λx2=>(cH ((ct x1.1),x2))) (aB x1.2))) (0,([]:η)))
def ic (x:iG×Int×(θ)×Y dG):J (Int×iG×(θ)×Y dG):=
 (bp (be (ah ([]:θ)+ah x.p2) 1) (bp (be (ah ([]:Y dG)+ah x.q3) 24) (iter (σ:=Int×pG×Int×Int×iG×(θ)×Y dG) (λx1=>(bx x1.1 (aY x1.2.1.1) (bF dl x1.2.1.1 x1.1 λq=>(bF dl x1.2.1.1 x1.1 λd=>(bp (be (ah ([]:η)+ah d.2) 8) (bp (be (ah x1.p4+ah ([(q.1,(([]:η)++d.2))])) 32) (cH ((ct x1.1),x1.2.1,x1.p2,x1.p3,(x1.p4++([(q.1,(([]:η)++d.2))])),x1.q5)))))) (aB x1.q3))) (0,x,0,x.2.1,([]:Y (Int×η)),(([]:θ)++x.p2),(([]:Y dG)++x.q3)))))
def ma (x:Γ×iG×(θ)×Y dG):J (η×iG×(θ)×Y dG):=
 (iter (σ:=Int×iG×(θ)×(Y dG)×Int×η) (λx1=>(bx x1.1 (aY x1.p3) (jn (α:=iG×(θ)×(Y dG)×Int×η) (jn (kF gC x1.p3 x1.1 λq=>(bi q.1 3 (kF gC x1.p3 x1.1 λd=>(aB ((decide ((d.2.1:Int)=x.1.2)),x1.2))) (aB (aa,x1.2)))) λx3=>(aE x3.1 (bp (be (ah x3.q5+ah ([x1.1])) 8) (aB (x3.2.1,x3.p2,x3.p3,x3.p4,(x3.q5++([x1.1]))))) (aB x3.2))) λx2=>(cH ((ct x1.1),x2))) (aB (x1.q5,x1.2.1,x1.p2,x1.p3)))) (0,x.2.1,x.p2,x.q3,x.1.1,([]:η)))
def jA (x:Γ×iG×(θ)×Y dG):J η:=av (ma x) λy=>same y.2 x.2 (Z y.1)
def pf (x:eX×pG×Int×Int×Int×Int):J (pG×Int×Bool):=
 (av (iu (x.1,x.2.1,x.p2,x.p3,x.p4)) λy1=>(aE (!y1) (Z ((([]:Y (Int×η)),0,([]:θ),([]:Y dG)),0,aa)) (av (ic x.2.1) λz=>(jn (α:=Int×Int×Int×iG×(θ)×Y dG) (bi x.p3 1 (ck (fm x.p2 (ah z.q3)) (aB (0,z.1,0,z.2.1,z.p2,(cJ z.q3 x.p2 (2,(aH (T:=gC) z.q3 x.p2).2))))) (bi x.p3 2 (ck (fm x.p2 (ah z.q3)) (aB (0,z.1,0,z.2.1,z.p2,(cJ z.q3 x.p2 (5,(aH (T:=gC) z.q3 x.p2).2))))) (jn (α:=Bool×eX×Int×Int×iG×(θ)×Y dG) (bi x.p3 6 (aB ((decide ((x.p3:Int)=6)),x.1,z.1,0,z.2)) (aB ((decide ((x.p3:Int)=10)),x.1,z.1,0,z.2))) λx4=>(aE x4.1 (ck (fm x.p4 (ah x4.p4)) (aB (0,x4.p2,x4.p3,(cJ x4.p4 x.p4 (x.p2,(aH (T:=dl) x4.p4 x.p4).2)),x4.q5))) (jn (bi x.p3 7 (aB ((decide ((x.p3:Int)=7)),x4.2)) (aB ((decide ((x.p3:Int)=11)),x4.2))) λd=>(aE d.1 (ck (fm x.p4 (ah d.p4)) (aB (0,d.p2,d.p3,(cJ d.p4 x.p4 ((-1),(aH (T:=dl) d.p4 x.p4).2)),d.q5))) (bi x.p3 8 (kF dl d.p4 x.p4 λz6=>(av (qN (z6.2,[x.p2])) λy7=>(ck (fm x.p4 (ah d.p4)) (aB (0,d.p2,d.p3,(cJ d.p4 x.p4 ((aH (T:=dl) d.p4 x.p4).1,y7)),d.q5))))) (bi x.p3 9 (kF dl d.p4 x.p4 λz8=>(av (pV (z8.2,x.p2)) λy9=>(ck (fm x.p4 (ah d.p4)) (aB (0,d.p2,d.p3,(cJ d.p4 x.p4 ((aH (T:=dl) d.p4 x.p4).1,y9)),d.q5))))) (bi x.p3 12 (aB (0,x.p2,d.q3)) (bi x.p3 13 (aB (0,(-1),d.q3)) (bi x.p3 14 (ck (fm x.p2 (ah d.q6)) (aB (0,d.p2,d.p3,d.p4,d.p5,(cJ d.q6 x.p2 ((aH (T:=gC) d.q6 x.p2).1,((aH (T:=gC) d.q6 x.p2).2).1,M))))) (bi x.p3 15 (ck (fm x.p2 (ah d.q6)) (aB (0,d.p2,d.p3,d.p4,d.p5,(cJ d.q6 x.p2 ((aH (T:=gC) d.q6 x.p2).1,((aH (T:=gC) d.q6 x.p2).2).1,aa))))) (bi x.p3 16 (bF ll d.2.1.p2 x.p4 λF=>(ck (fm F.2 (ah d.p4)) (ck (fm x.p2 (ah d.q6)) (ck (fm x.p2 (ah (cJ d.q6 x.p2 (3,(aH (T:=gC) d.q6 x.p2).2)))) (aB (0,d.p2,d.p3,(cJ d.p4 F.2 ((-1),(aH (T:=dl) d.p4 F.2).2)),d.p5,(cJ (cJ d.q6 x.p2 (3,(aH (T:=gC) d.q6 x.p2).2)) x.p2 ((aH (T:=gC) (cJ d.q6 x.p2 (3,(aH (T:=gC) d.q6 x.p2).2)) x.p2).1,x.p4,((aH (T:=gC) (cJ d.q6 x.p2 (3,(aH (T:=gC) d.q6 x.p2).2)) x.p2).2).2)))))))) (bi x.p3 17 (bF ll d.2.1.p2 x.p4 λD=>(ck (fm D.2 (ah d.p4)) (ck (fm x.p2 (ah d.q6)) (ck (fm x.p2 (ah (cJ d.q6 x.p2 (2,(aH (T:=gC) d.q6 x.p2).2)))) (aB (0,d.p2,d.p3,(cJ d.p4 D.2 (x.p2,(aH (T:=dl) d.p4 D.2).2)),d.p5,(cJ (cJ d.q6 x.p2 (2,(aH (T:=gC) d.q6 x.p2).2)) x.p2 ((aH (T:=gC) (cJ d.q6 x.p2 (2,(aH (T:=gC) d.q6 x.p2).2)) x.p2).1,0,((aH (T:=gC) (cJ d.q6 x.p2 (2,(aH (T:=gC) d.q6 x.p2).2)) x.p2).2).2)))))))) (bi x.p3 18 (av (jA ((d.p2,x.p4),d.q4)) λL=>(bx 0 (aY L) (bF aM L 0 λz13=>(jn (av (oh (L,x.q5)) λy15=>(aE y15 (aB (x.q5,d.2.2)) (aB (z13,d.2.2)))) λs=>(ck (fm s.1 (ah s.q5)) (aB (s.1,s.2.1,s.p2,s.p3,s.p4,(cJ s.q5 s.1 (4,(aH (T:=gC) s.q5 s.1).2))))))) (aB ((-1),d.2.2)))) (bi x.p3 19 (av (jA ((d.p2,x.p4),d.q4)) λI=>(iter (σ:=Int×Int×Int×iG×(θ)×Y dG) (λq=>(bx q.1 (aY I) (bF aM I q.1 λA=>(ck (fm A (ah q.q5)) (cH ((ct q.1),q.2.1,q.p2,q.p3,q.p4,(cJ q.q5 A (4,(aH (T:=gC) q.q5 A).2)))))) (aB (b7 ((aY I),q.2))))) (0,d.2.2))) (bi x.p3 20 (ck (fm x.p4 (ah d.q6)) (aB (0,d.p2,d.p3,d.p4,d.p5,(cJ d.q6 x.p4 (1,(aH (T:=gC) d.q6 x.p4).2))))) (bi x.p3 22 (ck (fm x.p4 (ah d.p5)) (aB (0,d.p2,d.p3,d.p4,(cJ d.p5 x.p4 M),d.q6))) (aB (0,d.2.2)))))))))))))))))))) λx3=>(Z ((x3.p3,x3.2.1,x3.q4),x3.1,M))))))
def tf (x:eX×Y (Int×Y k9)):J wR:=
 (av (ph x) λF=>(aE (!F) (Z ((([]:Y (Int×η)),0,([]:θ),([]:Y dG)),([]:η),([]:η),([]:Y uO))) (av (pe x.1) λD=>(iter (σ:=Int×Bk×Int×pG×η) (λx3=>(bx x3.1 (aY x3.2.1.1.1) (bF kB x3.2.1.1.1 x3.1 λA=>(bp (be (ah x3.q4+ah ([A.2.2.2.2])) 8) (cH ((ct x3.1),x3.2.1,x3.p2,x3.p3,(x3.q4++([A.2.2.2.2])))))) (av (iter (σ:=Int×Bk×Int×pG×(η)×η) (λq=>(bx q.1 (aY q.2.1.1.p3) (bp (be (ah q.q5+ah ([0])) 8) (cH ((ct q.1),q.2.1,q.p2,q.p3,q.p4,(q.q5++([0]))))) (av (iter (σ:=Int×Bk×Int×pG×(η)×(η)×Y uO) (λd=>(bx d.1 (aY d.2.1.2) (mF d.1 d.2.1.2 (lt ((aH (T:=vS) d.2.1.2 d.1).1) λz=>(bp (cL 0 z&&cL z z&&be (aP z) 8) (mF d.1 d.2.1.2 (lt ((aH (T:=vS) d.2.1.2 d.1).1) λs=>(bp (cL 0 s&&cL s s&&be (aP s) 24) (bp (be (ah d.q6+ah ([(0,(aA (aP z) (0:Int)),(aA (aP s) ([]:η)),0)])) 64) (cH ((ct d.1),d.2.1,d.p2,d.p3,d.p4,d.p5,(d.q6++([(0,(aA (aP z) (0:Int)),(aA (aP s) ([]:η)),0)]))))))))))) (aB d.q3))) (0,q.2.1,q.p2,q.p3,q.p4,q.q5,([]:Y uO))) λr=>Z (b7 r)))) (0,x3.2.1,x3.p2,x3.p3,x3.q4,([]:η))) λr=>Z (b7 r)))) (0,x,0,D,([]:η))))))
def vg (x:Bk×pG×(η)×(η)×Y uO):J (Bool):=
 (jn (av (ph x.1) λF=>(aE (!F) (aB (M,x)) (av (nB (x.1.1,x.2.1)) λD=>(aE (!D) (aB (M,x)) (iA (aY x.p2) (aY x.1.1.1) (aB (M,x)) (iA (aY x.p3) (aY x.1.1.p3) (aB (M,x)) (aB ((!decide (((aY x.q4):Int)=(aY x.1.2))),x)))))))) λx1=>(aE x1.1 (Z aa) (iter (σ:=Int×Bk×pG×(η)×(η)×Y uO) (λx4=>(bx x4.1 (aY x4.2.1.2) (bF eG x4.q5 x4.1 λd=>(jn (bx d.1 0 (aB (M,x4.2)) (bF vS x4.2.1.2 x4.1 λA=>(ja (aY A.2) d.1 (aB (M,x4.2)) (bF vS x4.2.1.2 x4.1 λz=>(iA (aY d.2.1) z.1 (aB (M,x4.2)) (bF vS x4.2.1.2 x4.1 λs=>(aB ((!decide (((aY d.p2):Int)=s.1)),x4.2)))))))) λq=>(aE q.1 (aB aa) (cH ((ct x4.1),q.2))))) (aB M))) (0,x1.2))))
def vb (x:Int):J (Int):=
 (jn (α:=Bool×η) (bx x 6 (aB (M,[3,3,4,4,5,6,7,8,9,10,11,12,13,14,15,16,18,19,20,21,22,23,2])) (aB ((fI 28 x),[3,3,4,4,5,6,7,8,9,10,11,12,13,14,15,16,18,19,20,21,22,23,2]))) λx1=>(aE x1.1 (Z 0) (kF aM x1.2 (aZ .i64 (x-6)) λd=>(Z d))))
def rO (x:k9×Int×(η)×(Y η)×Int):J (Int):=
 (jn (bi x.1.1 6 (aB ((decide ((x.1.1:Int)=6)),x)) (aB ((decide ((x.1.1:Int)=27)),x))) λx1=>(aE x1.1 (Z x1.2.1.p2) (bi x.1.1 7 (bF aM x1.p3 x1.2.1.p3 λs=>(av (qP (s,x1.2.1.p4)) λA=>(Z (aZ .i64 (x1.2.1.p2+A))))) (bi x.1.1 9 (bF aM x1.p3 x1.2.1.p3 λq=>(av (qP (q,x1.2.1.p4)) λz=>(Z (aZ .i64 (x1.2.1.2.1+z))))) (jn (bi x.1.1 10 (aB ((decide ((x.1.1:Int)=10)),x1.2.1)) (bi x.1.1 17 (aB ((decide ((x.1.1:Int)=17)),x1.2.1)) (bi x.1.1 18 (aB ((decide ((x.1.1:Int)=18)),x1.2.1)) (bi x.1.1 19 (aB ((decide ((x.1.1:Int)=19)),x1.2.1)) (bi x.1.1 20 (aB ((decide ((x.1.1:Int)=20)),x1.2.1)) (aB ((decide ((x.1.1:Int)=28)),x1.2.1))))))) λd=>(aE d.1 (Z (-1)) (Z d.p2)))))))
def nz (x:Bk×wR×Int):J (jN×Bool):=
 (jn (α:=Bool×Bk×wR×Int×Int×Int×Int×Int) (av (vg (x.1,x.2.1)) λy2=>(aE (!y2) (aB (M,x.1,x.2.1,0,0,0,0,0)) (bx x.2.2 0 (aB (M,x.1,x.2.1,0,0,0,0,0)) (aB ((cL (aY x.1.2) x.2.2),x.1,x.2.1,0,0,0,0,0))))) λx1=>(aE x1.1 (Z ((0,0,0,0,0,([]:η),([]:η)),aa)) (bF eG x1.p2.q3 x.2.2 λD=>(bF vS x1.2.1.2 x.2.2 λz4=>(bF qz z4.2 D.1 λs=>(bF gC x1.p2.1.q3 x.2.2 λz6=>(bi z6.1 1 (Z ((x.2.2,1,(-1),0,(-1),([]:η),([]:η)),M)) (bi z6.1 4 (bF gC x1.p2.1.q3 x.2.2 λz7=>(Z ((x.2.2,17,z7.2.1,0,s.q5,([]:η),([]:η)),M))) (bi z6.1 2 (av (vb s.1) λy8=>(av (rO (s,D)) λy9=>(bi y8 0 (Z ((0,0,0,0,0,([]:η),([]:η)),aa)) (jn (α:=CV×uO×k9×CV×η) (bi s.1 10 (bF (.sl aM) D.p2 s.2.1 λL=>(bp (be (ah (L:η)) 8) (aB (x1.q3,D,s,(x.2.2,y8,y9,0,s.q5),L)))) (jn (α:=Bool×CV×uO×k9×Int×Int×Int×Int×Int) (bi s.1 7 (aB ((decide ((s.1:Int)=7)),x1.q3,D,s,x.2.2,y8,y9,0,s.q5)) (aB ((decide ((s.1:Int)=9)),x1.q3,D,s,x.2.2,y8,y9,0,s.q5))) λd=>(aE d.1 (bF (.sl aM) d.p2.p2 d.p3.p3 λI=>(bp (be (ah (I:η)) 8) (aB (d.2.1,d.p2,d.p3,d.q4,I)))) (aB (d.2.1,d.p2,d.p3,d.q4,([]:η)))))) λA=>(jn (α:=CV×CV×(η)×η) (jn (bi A.p2.1 8 (aB (M,A)) (bi A.p2.1 9 (aB (M,A)) (aB ((decide ((A.p2.1:Int)=26)),A)))) λq=>(aE q.1 (bF (.sl aM) q.p2.p2 q.p3.p2 λF=>(bp (be (ah (F:η)) 8) (aB (q.2.1,q.p4,q.q5,F)))) (aB (q.2.1,q.p4,q.q5,([]:η))))) λz=>(Z ((z.2.1.1,z.2.1.2.1,z.2.1.p2,z.2.1.p3,z.2.1.q4,z.2.2),M))))))) (Z ((0,0,0,0,0,([]:η),([]:η)),aa)))))))))))
def mM (x:ne×mi×(Y jw)×dg×dg×Y ν):J fP:=
 (av (pe x) λq=>(bp (cL 0 (aY x.p3)&&cL (aY x.p3) (aY x.p3)&&be (aP (aY x.p3)) 8) (bp (cL 0 (aY x.p4)&&cL (aY x.p4) (aY x.p4)&&be (aP (aY x.p4)) 8) (iter (σ:=Int×eX×Int×pG×(η)×(η)×η) (λx2=>(bx x2.1 (aY x2.2.1.1) (bF kB x2.2.1.1 x2.1 λd=>(bp (be (ah x2.p4+ah ([d.2.2.2.2])) 8) (cH ((ct x2.1),x2.2.1,x2.p2,x2.p3,(x2.p4++([d.2.2.2.2])),x2.q5)))) (aB x2.q3))) (0,x,0,q,([]:η),(aA (aP (aY x.p3)) (0:Int)),(aA (aP (aY x.p4)) (0:Int)))))))
def qM (x:eX×pG×(η)×(η)×η):J (Bool):=
 (jn (av (nB (x.1,x.2.1)) λd=>(aE d (bi (aY x.p2) (aY x.1.1) (bi (aY x.p3) (aY x.1.p3) (aB (decide (((aY x.q4):Int)=(aY x.1.p4)))) (aB aa)) (aB aa)) (aB aa))) λx1=>(Z x1))
def BK (x:Γ):J (Bool):=
 (jn (ja 0 x.1 (aB (fI x.1 x.2)) (aB aa)) λx1=>(Z x1))
def kf (x:η×Int):J (Bool):=
 (iter (σ:=Int) (λx1=>(bx x1 (aY x.1) (jn (bF aM x.1 x1 λz=>(bx z 1 (aB M) (bF aM x.1 x1 λs=>(ja x.2 s (aB M) (bx 0 x1 (bF aM x.1 x1 λq=>(bF aM x.1 (aZ .i64 (x1-1)) λd=>(aB (cL q d)))) (aB aa)))))) λx2=>(aE x2 (aB aa) (cH (ct x1)))) (aB M))) 0)
def o_ (x:fP×Int×Int×Int×Int×Int×(η)×η):J (Bool):=
 (bi x.p2 3 (bF aM x.1.2.1 x.p3 λs=>(Z (decide ((x.p4:Int)=s)))) (bi x.p2 23 (bF aM x.1.p2 x.p3 λq=>(Z (decide ((x.p4:Int)=q)))) (bi x.p2 5 (jn (bi x.p4 0 (aB M) (aB (decide ((x.p4:Int)=1)))) λx3=>(Z x3)) (jn (bi x.p2 4 (aB ((decide ((x.p2:Int)=4)),x)) (aB ((decide ((x.p2:Int)=22)),x))) λx4=>(aE x4.1 (Z M) (bi x.p2 18 (av (nA (x4.2.1.1,x4.p4)) λd=>(bi (aY d) 0 (Z (decide ((x4.p5:Int)=(-1)))) (jn (ja 0 x4.p5 (bx x4.p5 (aY x4.2.1.1.q3) (av (oh (d,x4.p5)) λA=>(aB A)) (aB aa)) (aB aa)) λD=>(Z D)))) (bi x.p2 19 (av (nA (x4.2.1.1,x4.p4)) λz=>(Z (decide ((x4.p5:Int)=(aY z))))) (Z (decide ((x4.p5:Int)=0))))))))))
def ny (x:eX×fP×Int×Int×Int×Int×Int×(η)×η):J (fP×Bool):=
 (jn (α:=Bool×eX×fP×jN×Int) (av (qM (x.1,x.2.1)) λy2=>(aE (!y2) (aB (M,x.1,x.2.1,x.2.2,0)) (av (BK (x.p2,(aY x.1.p4))) λy3=>(aE (!y3) (aB (M,x.1,x.2.1,x.2.2,0)) (bx x.p3 1 (aB (M,x.1,x.2.1,x.2.2,0)) (bx 23 x.p3 (aB (M,x.1,x.2.1,x.2.2,0)) (av (iu (x.1,x.2.1.1,x.p2,x.p3,x.p4)) λy4=>(aB ((!y4),x.1,x.2.1,x.2.2,0))))))))) λx1=>(aE x1.1 (Z (((([]:Y (Int×η)),0,([]:θ),([]:Y dG)),([]:η),([]:η),([]:η)),aa)) (jn (α:=eX×fP×jN×Int) (jn (bi x1.p3.2.1 1 (aB (M,x1.2)) (aB ((decide ((x1.p3.2.1:Int)=2)),x1.2))) λI=>(aE I.1 (iA I.p3.p4 (-1) (cH (((([]:Y (Int×η)),0,([]:θ),([]:Y dG)),([]:η),([]:η),([]:η)),aa)) (aB I.2)) (jn (av (BK (I.p3.p4,(aY I.2.1.q5))) λy8=>(aE (!y8) (aB (M,I.2)) (bF nQ I.2.1.q5 I.p3.p4 λz9=>(aB ((!decide ((z9.1:Int)=I.p3.1)),I.2))))) λx7=>(aE x7.1 (cH (((([]:Y (Int×η)),0,([]:θ),([]:Y dG)),([]:η),([]:η),([]:η)),aa)) (aB x7.2))))) λx5=>(jn (bi x5.p2.2.1 3 (aB (M,x5)) (aB ((decide ((x5.p2.2.1:Int)=4)),x5))) λD=>(jn (bx 0 (aY D.p3.p5) (iA D.p3.2.1 5 (aE D.1 (bF kB D.2.1.1 D.p3.p2 λz12=>(aB ((!(!decide ((z12.2.2.1:Int)=0))),D.2))) (aB (M,D.2))) (aB (aa,D.2))) (aB (aa,D.2))) λF=>(aE F.1 (Z (((([]:Y (Int×η)),0,([]:θ),([]:Y dG)),([]:η),([]:η),([]:η)),aa)) (jn (bx 0 (aY F.p3.q6) (iA F.p3.2.1 4 (aB ((!decide ((F.p3.2.1:Int)=22)),F.2)) (aB (aa,F.2))) (aB (aa,F.2))) λz=>(aE z.1 (Z (((([]:Y (Int×η)),0,([]:θ),([]:Y dG)),([]:η),([]:η),([]:η)),aa)) (jn (bF aM z.p2.q3 z.p3.1 λz15=>(av (kf (z.p3.p5,z15)) λy16=>(aE (!y16) (aB (M,z.2)) (bF aM z.p2.q3 z.p3.1 λz17=>(av (kf (z.p3.q6,z17)) λy18=>(aE (!y18) (aB (M,z.2)) (av (o_ (z.p2,z.p3)) λy19=>(aB ((!y19),z.2))))))))) λd=>(aE d.1 (Z (((([]:Y (Int×η)),0,([]:θ),([]:Y dG)),([]:η),([]:η),([]:η)),aa)) (bp (be (ah ([]:η)+ah d.p2.2.1) 8) (bp (be (ah ([]:η)+ah d.p2.p2) 8) (bp (be (ah ([]:η)+ah d.p2.q3) 8) (jn (α:=Int×eX×fP×jN×Int×Int×(η)×(η)×η) (bi d.p3.2.1 18 (aB (d.p3.p3,d.2.1,d.p2,d.p3,d.q4,0,(([]:η)++d.p2.2.1),(([]:η)++d.p2.p2),(([]:η)++d.p2.q3))) (aB ((-1),d.2.1,d.p2,d.p3,d.q4,0,(([]:η)++d.p2.2.1),(([]:η)++d.p2.p2),(([]:η)++d.p2.q3)))) λq=>(av (pf (q.2.1,q.p2.1,q.p3.1,q.p3.2.1,q.p3.p2,q.1)) λL=>(jn (bi q.p3.2.1 4 (ck (fm q.p3.p2 (ah q.p6)) (aB (q.p3,q.p4,L.1,(cJ q.p6 q.p3.p2 q.p3.p3),q.q7))) (aB (q.p3,q.p4,L.1,q.q6))) λs=>(jn (bi s.1.2.1 22 (ck (fm s.1.p2 (ah s.p4)) (aB (s.1,s.2.1,s.p2,s.p3,(cJ s.p4 s.1.p2 s.1.p3),s.q5))) (aB s)) λA=>(kF aM A.q5 A.1.1 λz24=>(ck (fm A.1.1 (ah A.q5)) (Z ((A.p2,A.p3,A.p4,(cJ A.q5 A.1.1 (ct z24))),M)))))))))))))))))))))
def mL (x:(Y jN)×Int×Int×η):J (Bool):=
 (iter (σ:=Int) (λx1=>(bx x1 (aY x.q3) (iter (σ:=Int×Bool×Int) (λx2=>(bx x2.2.2 x.2.1 (jn (bF fZ x.1 x2.2.2 λz=>(iA z.1 x.p2 (aB (x2.1,x2.2.1)) (jn (aE x2.2.1 (aB M) (bF aM x.q3 x1 λs=>(bi x2.1 s (bF fZ x.1 x2.2.2 λq=>(bi q.2.1 3 (aB M) (bF fZ x.1 x2.2.2 λd=>(aB (decide ((d.2.1:Int)=23)))))) (aB aa)))) λA=>(aB ((ct x2.1),A))))) λx3=>(cH (x3.1,x3.2,(ct x2.2.2)))) (av (aE (!x2.2.1) (aB aa) (cH (ct x1))) λr=>Z (b7 r)))) (0,aa,0)) (aB M))) 0)
def mN (x:eX×Y jN):J Γ:=
 (bx 400 (aY x.2) (Z (0,2)) (av (gU x.1) λF=>(aE (!F) (Z (0,1)) (av (mM x.1) λD=>(iter (σ:=Int×(eX×Y jN)×pG×(η)×(η)×η) (λx3=>(bx x3.1 (aY x3.2.1.2) (bF fZ x3.2.1.2 x3.1 λd=>(av (ny (x3.2.1.1,x3.2.2,d)) λq=>(jn (aE (!q.2) (aB (M,x3.2.1,x3.2.2,q.1)) (av (mL (x3.2.1.2,x3.1,d.1,d.p5)) λA=>(aE (!A) (aB (M,x3.2.1,x3.2.2,q.1)) (av (mL (x3.2.1.2,x3.1,d.1,d.q6)) λz=>(aB ((!z),x3.2.1,x3.2.2,q.1)))))) λs=>(aE s.1 (aB (x3.1,12)) (cH ((ct x3.1),s.2.1,s.q3)))))) (aB (0,0)))) (0,x,D))))))
def KG {g W V:Type} (i:Int) (t1:g->(η)->(Y η)->W) (F:W->V) (I:V->uO->Y uO) (D:Int) (d:Bk×pG×(Γ)×Int×CV×jN×(Γ)×(η)×(η)×g×(η)×Y η):J CU:=
 (jn (jn (iA d.p5.2.1 16 (aB ((!decide ((d.p5.2.1:Int)=2)),d.1,d.2.1,d.p2,d.p3,d.p4,d.p5,(D,d.p10,d.q11,(ct d.p6.2)),d.p7,d.p8,(t1 d.p9 d.p10 d.q11))) (aB (aa,d.1,d.2.1,d.p2,d.p3,d.p4,d.p5,(D,d.p10,d.q11,(ct d.p6.2)),d.p7,d.p8,(t1 d.p9 d.p10 d.q11)))) λq=>(aE q.1 (bF vS q.2.1.2 q.p3.1 λz=>(av (m6 (z,q.p7)) λA=>(aB (q.p2,q.p3,q.p4,q.p5,q.p6,A.1,q.p8,q.p9,(F q.q10))))) (aB (q.p2,q.p3,q.p4,q.p5,q.p6,q.p7,q.p8,q.p9,(F q.q10))))) λs=>(bi s.2.1.1 i (Z ((s.1,s.p6,s.p7,(I s.q8 s.p5)),s.p4,M)) U))
def SG {g:Type} (i:Int) (cp:(pG×(η)×(η)×Y uO)->J (Int×iG×(θ)×(Y dG)×(η)×(η)×g×(η)×Y η)) (A ev:g->Int) (k:Int->(Bk×pG×(Γ)×Int×CV×jN×(Γ)×(η)×(η)×g×(η)×Y η)->J CU) (x:Bk×wR×Int×Int):J CU:=
 (av (nz (x.1,x.2.1,x.p2)) λs=>(aE (!s.2) (Z (((([]:Y (Int×η)),0,([]:θ),([]:Y dG)),([]:η),([]:η),([]:Y uO)),(0,0,0,0,0,([]:η),([]:η)),aa)) (av (pf (x.1.1,x.2.1.1,x.p2,s.1.2.1,s.1.p2,x.q3)) λD=>(aE (!D.2.2) (Z (((([]:Y (Int×η)),0,([]:θ),([]:Y dG)),([]:η),([]:η),([]:Y uO)),(0,0,0,0,0,([]:η),([]:η)),aa)) (av (cp x.2.1) λz=>(bi x.p2 i (bF vS x.1.2 i λz4=>(bF qz z4.2 (A z.p6) λz5=>(jn (α:=Int×Bk×pG×(Γ)×Int×CV×jN×(Γ)×k9×(η)×(η)×g×(η)×Y η) (jn (α:=Bool×Bk×pG×(Γ)×Int×CV×jN×(Γ)×k9×(η)×(η)×g×(η)×Y η) (bi s.1.2.1 1 (aB ((decide ((s.1.2.1:Int)=1)),x.1,D.1,(i,x.q3),0,(0,0,0,0,0),(s.1.1,s.1.2.1,s.1.p2,D.2.1,s.1.q4),((A z.p6),(ev z.p6)),z5,z.q4)) (bi s.1.2.1 16 (aB ((decide ((s.1.2.1:Int)=16)),x.1,D.1,(i,x.q3),0,(0,0,0,0,0),(s.1.1,s.1.2.1,s.1.p2,D.2.1,s.1.q4),((A z.p6),(ev z.p6)),z5,z.q4)) (aB ((decide ((s.1.2.1:Int)=2)),x.1,D.1,(i,x.q3),0,(0,0,0,0,0),(s.1.1,s.1.2.1,s.1.p2,D.2.1,s.1.q4),((A z.p6),(ev z.p6)),z5,z.q4)))) λd=>(aE d.1 (aB (d.p7.1,d.2)) (bi s.1.2.1 3 (kF aM d.p9 d.p6.p2 λz8=>(aB ((aZ .i64 ((A z.p6)+1)),d.2.1,d.p2,d.p3,d.p4,d.p5,(d.p6.1,d.p6.2.1,d.p6.p2,z8,d.p6.q4),d.q7))) (bi s.1.2.1 23 (kF aM d.p10 d.p6.p2 λz9=>(aB ((aZ .i64 ((A z.p6)+1)),d.2.1,d.p2,d.p3,d.p4,d.p5,(d.p6.1,d.p6.2.1,d.p6.p2,z9,d.p6.q4),d.q7))) (bi s.1.2.1 4 (kF aM d.p12 d.p8.p2 λI=>(ck (fm d.p6.p2 (ah d.p9)) (aB ((aZ .i64 ((A z.p6)+1)),d.2.1,d.p2,d.p3,d.p4,d.p5,(d.p6.1,d.p6.2.1,d.p6.p2,I,d.p6.q4),d.p7,d.p8,(cJ d.p9 d.p6.p2 I),d.q10)))) (bi s.1.2.1 22 (kF aM d.p12 d.p8.p2 λF=>(ck (fm d.p6.p2 (ah d.p10)) (aB ((aZ .i64 ((A z.p6)+1)),d.2.1,d.p2,d.p3,d.p4,d.p5,(d.p6.1,d.p6.2.1,d.p6.p2,F,d.p6.q4),d.p7,d.p8,d.p9,(cJ d.p10 d.p6.p2 F),d.q11)))) (bi s.1.2.1 5 (kF aM d.p12 d.p8.2.1 λz12=>(bi z12 0 (aB (d.p8.p2,d.2.1,d.p2,d.p3,d.p4,d.p5,(d.p6.1,d.p6.2.1,d.p6.p2,0,d.p6.q4),d.q7)) (aB ((aZ .i64 ((A z.p6)+1)),d.2.1,d.p2,d.p3,d.p4,d.p5,(d.p6.1,d.p6.2.1,d.p6.p2,1,d.p6.q4),d.q7)))) (aB ((aZ .i64 ((A z.p6)+1)),d.2))))))))) λL=>(jn (α:=Bk×pG×(Γ)×Int×CV×jN×(Γ)×(η)×(η)×g×(η)×Y η) (jn (bi L.p6.2.1 3 (aB (M,L.2)) (aB ((decide ((L.p6.2.1:Int)=23)),L.2))) λq=>(aE q.1 (ck (fm q.p8.2.1 (ah q.p12)) (ck (fm q.p8.2.1 (ah q.q13)) (aB (q.2.1,q.p2,q.p3,q.p4,q.p5,q.p6,q.p7,q.p9,q.p10,q.p11,(cJ q.p12 q.p8.2.1 q.p6.p3),(cJ q.q13 q.p8.2.1 ([q.p7.2])))))) (aB (q.2.1,q.p2,q.p3,q.p4,q.p5,q.p6,q.p7,q.q9)))) λx13=>(k L.1 x13))))) U))))))
def mZ (x:pG×(η)×(η)×Y uO):J (Int×iG×(θ)×(Y dG)×(η)×(η)×(Γ)×(η)×Y η):=
 (av (ic x.1) λd=>(bp (be (ah ([]:η)+ah x.2.1) 8) (bp (be (ah ([]:η)+ah x.p2) 8) (bx 0 (aY x.q3) (bF eG x.q3 0 λs=>(av (cg s) λz=>(bx 1 (aY x.q3) (bF eG x.q3 1 λq=>(av (cg q) λA=>U)) (Z (d.1,d.2.1,d.p2,d.q3,(([]:η)++x.2.1),(([]:η)++x.p2),z))))) U))))
def fM (x:Bk×wR×Int×Int):J CU:=
 SG 0 mZ (λz=>z.1) (λz=>z.2) (KG 0 (λz R T=>(z.1,R,T,z.2)) (λw=>((w.1,w.2.1,w.2.2.1,w.2.2.2))) (λv t=>[t])) x
def mY (x:pG×(η)×(η)×Y uO):J (Int×iG×(θ)×(Y dG)×(η)×(η)×Ya29×(η)×Y η):=
 (av (ic x.1) λq=>(bp (be (ah ([]:η)+ah x.2.1) 8) (bp (be (ah ([]:η)+ah x.p2) 8) (bx 0 (aY x.q3) (bF eG x.q3 0 λD=>(av (cg D) λs=>(bx 1 (aY x.q3) (bF eG x.q3 1 λA=>(av (cg A) λd=>(bx 2 (aY x.q3) (bF eG x.q3 2 λz=>(av (cg z) λF=>U)) (Z (q.1,q.2.1,q.p2,q.q3,(([]:η)++x.2.1),(([]:η)++x.p2),(s.1.1,s.1.2,d.1.1,d.2.1,d.2.2,d.1.2),s.2))))) U))) U))))
def gu (x:Bk×wR×Int×Int):J CU:=
 SG 0 mY (λz=>z.1) (λz=>z.2.1) (KG 0 (λz R T=>(z.1,R,T,z.2.1,z.2.2)) (λw=>((w.1,w.2.1,w.2.2.1,w.2.2.2.1),w.2.2.2.2)) (λv t=>[t,v.2])) x
def mX (x:pG×(η)×(η)×Y uO):J (Int×iG×(θ)×(Y dG)×(η)×(η)×(uO×Int×Int)×(η)×Y η):=
 (av (ic x.1) λq=>(bp (be (ah ([]:η)+ah x.2.1) 8) (bp (be (ah ([]:η)+ah x.p2) 8) (bx 0 (aY x.q3) (bF eG x.q3 0 λD=>(av (cg D) λd=>(bx 1 (aY x.q3) (bF eG x.q3 1 λA=>(av (cg A) λs=>(bx 2 (aY x.q3) (bF eG x.q3 2 λz=>(av (cg z) λF=>U)) (Z (q.1,q.2.1,q.p2,q.q3,(([]:η)++x.2.1),(([]:η)++x.p2),((d.1.1,d.2.1,d.2.2,d.1.2),s.1),s.2))))) U))) U))))
def fK (x:Bk×wR×Int×Int):J CU:=
 SG 1 mX (λz=>z.2.1) (λz=>z.2.2) (KG 1 (λz R T=>(z.1,z.2.1,R,T,z.2.2)) (λw=>(w.1,(w.2.1,w.2.2.1,w.2.2.2.1,w.2.2.2.2))) (λv t=>[v.1,t])) x
def mW (x:pG×(η)×(η)×Y uO):J (Int×iG×(θ)×(Y dG)×(η)×(η)×Ya27×(η)×Y η):=
 (av (ic x.1) λs=>(bp (be (ah ([]:η)+ah x.2.1) 8) (bp (be (ah ([]:η)+ah x.p2) 8) (bx 0 (aY x.q3) (bF eG x.q3 0 λI=>(av (cg I) λz=>(bx 1 (aY x.q3) (bF eG x.q3 1 λF=>(av (cg F) λq=>(bx 2 (aY x.q3) (bF eG x.q3 2 λD=>(av (cg D) λd=>(bx 3 (aY x.q3) (bF eG x.q3 3 λA=>(av (cg A) λL=>U)) (Z (s.1,s.2.1,s.p2,s.q3,(([]:η)++x.2.1),(([]:η)++x.p2),(z.1.1,z.1.2,(q.1.1,q.2.1,q.2.2,q.1.2),d.1.1,d.2.1,d.2.2,d.1.2),z.2))))) U))) U))) U))))
def jm (x:Bk×wR×Int×Int):J CU:=
 SG 0 mW (λz=>z.1) (λz=>z.2.1) (KG 0 (λz R T=>(z.1,R,T,z.2.1,z.p2,z.q3)) (λw=>((w.1,w.2.1,w.2.2.1,w.2.2.2.1),w.2.2.2.2.1,w.2.2.2.2.2)) (λv t=>[t,v.2.1,v.2.2])) x
def mV (x:pG×(η)×(η)×Y uO):J (Int×iG×(θ)×(Y dG)×(η)×(η)×Ya28×(η)×Y η):=
 (av (ic x.1) λs=>(bp (be (ah ([]:η)+ah x.2.1) 8) (bp (be (ah ([]:η)+ah x.p2) 8) (bx 0 (aY x.q3) (bF eG x.q3 0 λI=>(av (cg I) λq=>(bx 1 (aY x.q3) (bF eG x.q3 1 λF=>(av (cg F) λz=>(bx 2 (aY x.q3) (bF eG x.q3 2 λD=>(av (cg D) λd=>(bx 3 (aY x.q3) (bF eG x.q3 3 λA=>(av (cg A) λL=>U)) (Z (s.1,s.2.1,s.p2,s.q3,(([]:η)++x.2.1),(([]:η)++x.p2),((q.1.1,q.2.1,q.2.2,q.1.2),z.1.1,z.1.2,d.1.1,d.2.1,d.2.2,d.1.2),z.2))))) U))) U))) U))))
def iB (x:Bk×wR×Int×Int):J CU:=
 SG 1 mV (λz=>z.2.1) (λz=>z.p2) (KG 1 (λz R T=>(z.1,z.2.1,R,T,z.p2,z.q3)) (λw=>(w.1,(w.2.1,w.2.2.1,w.2.2.2.1,w.2.2.2.2.1),w.2.2.2.2.2)) (λv t=>[v.1,t,v.2.2])) x
def mU (x:pG×(η)×(η)×Y uO):J (Int×iG×(θ)×(Y dG)×(η)×(η)×(uO×uO×Int×Int)×(η)×Y η):=
 (av (ic x.1) λs=>(bp (be (ah ([]:η)+ah x.2.1) 8) (bp (be (ah ([]:η)+ah x.p2) 8) (bx 0 (aY x.q3) (bF eG x.q3 0 λI=>(av (cg I) λq=>(bx 1 (aY x.q3) (bF eG x.q3 1 λF=>(av (cg F) λd=>(bx 2 (aY x.q3) (bF eG x.q3 2 λD=>(av (cg D) λz=>(bx 3 (aY x.q3) (bF eG x.q3 3 λA=>(av (cg A) λL=>U)) (Z (s.1,s.2.1,s.p2,s.q3,(([]:η)++x.2.1),(([]:η)++x.p2),((q.1.1,q.2.1,q.2.2,q.1.2),(d.1.1,d.2.1,d.2.2,d.1.2),z.1),z.2))))) U))) U))) U))))
def gT (x:Bk×wR×Int×Int):J CU:=
 SG 2 mU (λz=>z.p2) (λz=>z.q3) (KG 2 (λz R T=>(z.1,z.2.1,z.p2,R,T,z.q3)) (λw=>(w.1,w.2.1,(w.2.2.1,w.2.2.2.1,w.2.2.2.2.1,w.2.2.2.2.2))) (λv t=>[v.1,v.2.1,t])) x
def mT (x:pG×(η)×(η)×Y uO):J (Int×iG×(θ)×(Y dG)×(η)×(η)×Ya23×(η)×Y η):=
 (av (ic x.1) λz=>(bp (be (ah ([]:η)+ah x.2.1) 8) (bp (be (ah ([]:η)+ah x.p2) 8) (bx 0 (aY x.q3) (bF eG x.q3 0 λz2=>(av (cg z2) λD=>(bx 1 (aY x.q3) (bF eG x.q3 1 λL=>(av (cg L) λs=>(bx 2 (aY x.q3) (bF eG x.q3 2 λI=>(av (cg I) λq=>(bx 3 (aY x.q3) (bF eG x.q3 3 λF=>(av (cg F) λd=>(bx 4 (aY x.q3) (bF eG x.q3 4 λA=>(av (cg A) λy11=>U)) (Z (z.1,z.2.1,z.p2,z.q3,(([]:η)++x.2.1),(([]:η)++x.p2),(D.1.1,D.1.2,(s.1.1,s.2.1,s.2.2,s.1.2),(q.1.1,q.2.1,q.2.2,q.1.2),d.1.1,d.2.1,d.2.2,d.1.2),D.2))))) U))) U))) U))) U))))
def mP (x:Bk×wR×Int×Int):J CU:=
 SG 0 mT (λz=>z.1) (λz=>z.2.1) (KG 0 (λz R T=>(z.1,R,T,z.2.1,z.p2,z.p3,z.q4)) (λw=>((w.1,w.2.1,w.2.2.1,w.2.2.2.1),w.2.2.2.2.1,w.2.2.2.2.2.1,w.2.2.2.2.2.2)) (λv t=>[t,v.2.1,v.2.2.1,v.2.2.2])) x
def mS (x:pG×(η)×(η)×Y uO):J (Int×iG×(θ)×(Y dG)×(η)×(η)×Ya24×(η)×Y η):=
 (av (ic x.1) λz=>(bp (be (ah ([]:η)+ah x.2.1) 8) (bp (be (ah ([]:η)+ah x.p2) 8) (bx 0 (aY x.q3) (bF eG x.q3 0 λz2=>(av (cg z2) λs=>(bx 1 (aY x.q3) (bF eG x.q3 1 λL=>(av (cg L) λD=>(bx 2 (aY x.q3) (bF eG x.q3 2 λI=>(av (cg I) λq=>(bx 3 (aY x.q3) (bF eG x.q3 3 λF=>(av (cg F) λd=>(bx 4 (aY x.q3) (bF eG x.q3 4 λA=>(av (cg A) λy11=>U)) (Z (z.1,z.2.1,z.p2,z.q3,(([]:η)++x.2.1),(([]:η)++x.p2),((s.1.1,s.2.1,s.2.2,s.1.2),D.1.1,D.1.2,(q.1.1,q.2.1,q.2.2,q.1.2),d.1.1,d.2.1,d.2.2,d.1.2),D.2))))) U))) U))) U))) U))))
def mO (x:Bk×wR×Int×Int):J CU:=
 SG 1 mS (λz=>z.2.1) (λz=>z.p2) (KG 1 (λz R T=>(z.1,z.2.1,R,T,z.p2,z.p3,z.q4)) (λw=>(w.1,(w.2.1,w.2.2.1,w.2.2.2.1,w.2.2.2.2.1),w.2.2.2.2.2.1,w.2.2.2.2.2.2)) (λv t=>[v.1,t,v.2.2.1,v.2.2.2])) x
def mR (x:pG×(η)×(η)×Y uO):J (Int×iG×(θ)×(Y dG)×(η)×(η)×Ya25×(η)×Y η):=
 (av (ic x.1) λz=>(bp (be (ah ([]:η)+ah x.2.1) 8) (bp (be (ah ([]:η)+ah x.p2) 8) (bx 0 (aY x.q3) (bF eG x.q3 0 λz2=>(av (cg z2) λs=>(bx 1 (aY x.q3) (bF eG x.q3 1 λL=>(av (cg L) λq=>(bx 2 (aY x.q3) (bF eG x.q3 2 λI=>(av (cg I) λD=>(bx 3 (aY x.q3) (bF eG x.q3 3 λF=>(av (cg F) λd=>(bx 4 (aY x.q3) (bF eG x.q3 4 λA=>(av (cg A) λy11=>U)) (Z (z.1,z.2.1,z.p2,z.q3,(([]:η)++x.2.1),(([]:η)++x.p2),((s.1.1,s.2.1,s.2.2,s.1.2),(q.1.1,q.2.1,q.2.2,q.1.2),D.1.1,D.1.2,d.1.1,d.2.1,d.2.2,d.1.2),D.2))))) U))) U))) U))) U))))
def lm (x:Bk×wR×Int×Int):J CU:=
 SG 2 mR (λz=>z.p2) (λz=>z.p3) (KG 2 (λz R T=>(z.1,z.2.1,z.p2,R,T,z.p3,z.q4)) (λw=>(w.1,w.2.1,(w.2.2.1,w.2.2.2.1,w.2.2.2.2.1,w.2.2.2.2.2.1),w.2.2.2.2.2.2)) (λv t=>[v.1,v.2.1,t,v.2.2.2])) x
def mQ (x:pG×(η)×(η)×Y uO):J (Int×iG×(θ)×(Y dG)×(η)×(η)×Ya42×(η)×Y η):=
 (av (ic x.1) λz=>(bp (be (ah ([]:η)+ah x.2.1) 8) (bp (be (ah ([]:η)+ah x.p2) 8) (bx 0 (aY x.q3) (bF eG x.q3 0 λz2=>(av (cg z2) λs=>(bx 1 (aY x.q3) (bF eG x.q3 1 λL=>(av (cg L) λq=>(bx 2 (aY x.q3) (bF eG x.q3 2 λI=>(av (cg I) λd=>(bx 3 (aY x.q3) (bF eG x.q3 3 λF=>(av (cg F) λD=>(bx 4 (aY x.q3) (bF eG x.q3 4 λA=>(av (cg A) λy11=>U)) (Z (z.1,z.2.1,z.p2,z.q3,(([]:η)++x.2.1),(([]:η)++x.p2),((s.1.1,s.2.1,s.2.2,s.1.2),(q.1.1,q.2.1,q.2.2,q.1.2),(d.1.1,d.2.1,d.2.2,d.1.2),D.1),D.2))))) U))) U))) U))) U))))
def kh (x:Bk×wR×Int×Int):J CU:=
 SG 3 mQ (λz=>z.p3) (λz=>z.q4) (KG 3 (λz R T=>(z.1,z.2.1,z.p2,z.p3,R,T,z.q4)) (λw=>(w.1,w.2.1,w.2.2.1,(w.2.2.2.1,w.2.2.2.2.1,w.2.2.2.2.2.1,w.2.2.2.2.2.2))) (λv t=>[v.1,v.2.1,v.2.2.1,t])) x
def za (x:Bk×wR×Int×Int):J CU:=orE (mP x) (orE (mO x) (orE (lm x) (orE (kh x) (orE (jm x) (orE (iB x) (orE (gT x) (orE (gu x) (orE (fK x) (fM x)))))))))
def ve (x:Bk×wR×Y Γ):J ((Y jN)×pG×(η)×(η)×Y uO):=
 (iter (σ:=Int×(Y jN)×Bk×wR×Int) (λx1=>(jn (bx x1.1 (aY x.2.2) (aB ((fI (aY x1.2.1) 400),x1.2)) (aB (aa,x1.2))) λx2=>(aE x2.1 (jn (α:=(Y jN)×Bk×wR×Int) (bF ij x.2.2 x1.1 λq=>(av (za (x2.p2,x2.p3,q)) λd=>(aE d.2.2 (bp (be (ah x2.2.1+ah ([d.2.1])) 88) (aB ((x2.2.1++([d.2.1])),x2.p2,d.1,x2.q4))) (aB x2.2)))) λx3=>(cH ((ct x1.1),x3))) (aB (x2.2.1,x2.p3))))) (0,([]:Y jN),x.1,x.2.1,0))
def xS (x:Bk×Y Γ):J ((eX×Y jN)×pG×(η)×(η)×Y uO):=
 (av (ph x.1) λs=>(aE (!s) (Z (((([]:Y Rf),([]:Y (ζ×Bool)),([]:Y jw),([]:Y ζ),([]:Y ζ),([]:Y ν)),([]:Y jN)),(([]:Y (Int×η)),0,([]:θ),([]:Y dG)),([]:η),([]:η),([]:Y uO))) (av (tf x.1) λq=>(av (ve (x.1,q,x.2)) λd=>(Z ((x.1.1,d.1),d.2))))))
def bC (x:Int×(η)×Int):J (Int×(η)×Int):=
 (jn (ja (aY x.2.1) x.2.2 (aB (M,x.2)) (aB ((fI x.1 1),x.2))) λx1=>(aE x1.1 (Z (0,x1.2)) (lt (ct x1.2.2) λq=>(bF (.int .u8) x1.2.1 (aZ .i64 (q-1)) λd=>(bp (!decide ((x.1:Int)=0)) (Z ((bo (aZ .i64 d) x.1),x1.2.1,(ct x1.2.2))))))))
def qT (x:Int):J (Xp):=
 (Z (d8 (1,x,[],([]:Y Xp))))
def pj (x:ζ):J (Xp):=
 (Z (d8 (2,0,x,([]:Y Xp))))
def nD (x:Int×Xp×Xp):J (Xp):=
 (Z (d8 (x.1,0,[],[d8 ((Xp.op x.2.1),(Xp.n x.2.1),(Xp.name x.2.1),(Xp.l x.2.1)),d8 ((Xp.op x.2.2),(Xp.n x.2.2),(Xp.name x.2.2),(Xp.l x.2.2))])))
def jk (x:ζ×Xp):J (Sx):=
 (Z (ov (1,0,x.1,[],([]:Y Xp),d8 ((Xp.op x.2),(Xp.n x.2),(Xp.name x.2),(Xp.l x.2)),([]:Y Sx),([]:Y Sx))))
def rS (x:Unit):J vQ:=
 (Z ([(1,0,[120],0,0,[]),(1,0,[121],0,1,[]),(2,0,[118],0,0,[]),(1,0,[113],2,0,[]),(3,0,[109],0,0,[]),(3,0,[110],0,0,[]),(4,0,[114],0,0,[]),(5,0,[99],0,0,[109]),(6,0,[102],0,0,[])]))
def ou (x:η):J (Y Γ):=
 (iter (σ:=Int×Y Γ) (λx1=>(bx x1.1 (aY x) (bF (.int .u8) x x1.1 λq=>(bF (.int .u8) x x1.1 λd=>(bp (be (ah x1.2+ah ([((bo (aZ .i64 q) 4),(aZ .i64 ((bo (aZ .i64 (Int.tdiv (aZ .i64 d) 4)) 5)-1)))])) 16) (cH ((ct x1.1),(x1.2++([((bo (aZ .i64 q) 4),(aZ .i64 ((bo (aZ .i64 (Int.tdiv (aZ .i64 d) 4)) 5)-1)))]))))))) (aB x1.2))) (0,([]:Y Γ)))
def nL (rmade_maker_expr:W4->J aci) (x:Int×Bl×gP×Bool×Y ζ):J aci:=
 (av (bC (10,x.p2)) λA=>(jn (α:=Bool×Bl×gP×Rg×(Int×Int×ζ)×Y ζ) (bx A.1 2 (aB (M,x.2.1,A.2,x.q3,(0,0,[]),[[97],[98],[120],[121],[118],[120],[121]])) (bi x.1 0 (aB ((cL 7 A.1),x.2.1,A.2,x.q3,(0,0,[]),[[97],[98],[120],[121],[118],[120],[121]])) (aB (aa,x.2.1,A.2,x.q3,(0,0,[]),[[97],[98],[120],[121],[118],[120],[121]])))) λx2=>(aE x2.1 (av (bC (4,x2.p2)) λy3=>(av (qT y3.1) λF=>(Z (d8 ((Xp.op F),(Xp.n F),(Xp.name F),(Xp.l F)),x2.2.1,y3.2,x2.p3)))) (bx A.1 7 (av (bC ((aY x2.q5),x2.p2)) λy5=>(kF (.str) x2.q5 y5.1 λz6=>(av (pj z6) λD=>(Z (d8 ((Xp.op D),(Xp.n D),(Xp.name D),(Xp.l D)),x2.2.1,y5.2,x2.p3))))) (bi A.1 7 (av (rmade_maker_expr (0,x2.2.1,x2.p2,x2.p3)) λz=>(bp (((x2.p3.1==z.p3)&&M)&&ax (ah x2.p3.2) (ah z.q4)&&M) (Z (d8 (3,0,[113],[d8 ((Xp.op z.1),(Xp.n z.1),(Xp.name z.1),(Xp.l z.1))]),z.2)))) (av (bC ((aT (ah ([6,7,8,11,13,17]))),x2.p2)) λL=>(kF aM ([6,7,8,11,13,17]) L.1 λI=>(av (rmade_maker_expr ((aZ .i64 (x.1-1)),x2.2.1,L.2,x2.p3)) λd=>(bp (((x2.p3.1==d.p3)&&M)&&ax (ah x2.p3.2) (ah d.q4)&&M) (av (rmade_maker_expr ((aZ .i64 (x.1-1)),d.2)) λs=>(bp (((d.p3==s.p3)&&M)&&ax (ah d.q4) (ah s.q4)&&M) (av (nD (I,d.1,s.1)) λq=>(Z (d8 ((Xp.op q),(Xp.n q),(Xp.name q),(Xp.l q)),s.2))))))))))))))
def ig:Nat->W4->J aci
 |0,_=>U
 |n+1,x=>nL (ig n) x
theorem xD (n:Nat) (x:Int×Bl×gP×Bool×Y ζ):ig (n+1) x=nL (ig n) x:=rfl
def eU (x:Int×Bl×gP×Bool×Y ζ):J aci:=ig fuel x
def eB (x:ζ×Bl×gP×Bool×Y ζ):J (Bool×Bl×gP×Bool×Y ζ):=
 (av (jT (x.q4,x.1)) λd=>(Z ((cL 0 d),x.2)))
def mw (rmade_maker_stmts:ack->J W3) (rmade_maker_stmt:W4->J ZI) (rmade_maker_block:acj->J ZJ) (x:Γ×Bl×gP×Bool×Y ζ):J W3:=
 (iter (σ:=Int×Bl×gP×(Y Sx)×Bool×Y ζ) (λx1=>(jn (bx x1.1 x.1.2 (bi x1.1 0 (aB (M,x1.2)) (aB ((fI 0 x1.2.1.2.1),x1.2))) (aB (aa,x1.2))) λx2=>(aE x2.1 (av (rmade_maker_stmt (x.1.1,x2.2.1,x2.p2,x2.q4)) λd=>(bp (((x2.p4==x2.p4)&&M)&&ax (ah x2.q5) (ah x2.q5)&&M) (bp (be (ah x2.p3+ah ([dW d.1])) 176) (cH ((ct x1.1),d.2.1,d.p2,(x2.p3++([dW d.1])),d.q3))))) (aB (x2.2.1,x2.p2,x2.q4,x2.p3))))) (0,x.2.1,x.p2,([]:Y Sx),x.q3))
def nK (rmade_maker_stmts:ack->J W3) (rmade_maker_stmt:W4->J ZI) (rmade_maker_block:acj->J ZJ) (x:Int×Bl×gP×Bool×Y ζ):J ZI:=
 (av (bC (18,x.p2)) λL=>(jn (α:=Bool×Bl×gP×Ui×Bool×Y ζ) (bx 0 x.1 (lt (aZ .i64 (x.2.1.2.1-1)) λz3=>(bx 0 z3 (aB ((!x.2.1.p3),(x.2.1.1,(aZ .i64 (x.2.1.2.1-1)),x.2.1.2.2),L.2,(0,0,[],[],0,0,[]),x.q3)) (aB (aa,(x.2.1.1,(aZ .i64 (x.2.1.2.1-1)),x.2.1.2.2),L.2,(0,0,[],[],0,0,[]),x.q3)))) (aB (aa,(x.2.1.1,(aZ .i64 (x.2.1.2.1-1)),x.2.1.2.2),L.2,(0,0,[],[],0,0,[]),x.q3))) λx2=>(bx L.1 4 (kF (.str) ([[120],[121],[120],[118]]) L.1 λz4=>(av (eU (1,x2.2.1,x2.p2,x2.q4)) λy5=>(bp (((x2.p4==y5.p3)&&M)&&ax (ah x2.q5) (ah y5.q4)&&M) (av (jk (z4,y5.1)) λy6=>(Z (dW y6,y5.2)))))) (bi L.1 4 (av (bC (2,x2.p2)) λy7=>(kF (.str) ([[97],[98]]) y7.1 λz8=>(av (eU (1,x2.2.1,y7.2,x2.q4)) λy9=>(bp (((x2.p4==y9.p3)&&M)&&ax (ah x2.q5) (ah y9.q4)&&M) (av (jk (z8,y9.1)) λy10=>(Z (dW y10,y9.2))))))) (bi L.1 5 (av (eU (0,x2.2.1,x2.p2,x2.q4)) λy11=>(bp (((x2.p4==y11.p3)&&M)&&ax (ah x2.q5) (ah y11.q4)&&M) (av (eU (1,y11.2)) λy12=>(bp (((y11.p3==y12.p3)&&M)&&ax (ah y11.q4) (ah y12.q4)&&M) (Z (ov (1,0,[113],[],[d8 ((Xp.op y11.1),(Xp.n y11.1),(Xp.name y11.1),(Xp.l y11.1))],d8 ((Xp.op y12.1),(Xp.n y12.1),(Xp.name y12.1),(Xp.l y12.1)),([]:Y Sx),([]:Y Sx)),y12.2)))))) (jn (bi L.1 6 (aB ((fI 0 x.1),x2.2)) (aB (aa,x2.2))) λx13=>(aE x13.1 (av (eU (1,x13.2.1,x13.p2,x13.q4)) λz=>(bp (((x13.p4==z.p3)&&M)&&ax (ah x13.q5) (ah z.q4)&&M) (av (rmade_maker_stmts (((aZ .i64 (x.1-1)),1),z.2)) λI=>(bp (((z.p3==z.p3)&&M)&&ax (ah z.q4) (ah z.q4)&&M) (jn (α:=Bl×gP×Ui×(Int×Int×(ζ)×(ζ)×Int×Int×(ζ)×Y Xp)×Rg×(Y Sx)×Y Sx) (av (bC (2,I.2.1)) λy17=>(bi y17.1 1 (av (rmade_maker_stmts (((aZ .i64 (x.1-1)),1),I.1,y17.2,I.p2)) λy18=>(bp (((I.p2.1==I.p2.1)&&M)&&ax (ah I.p2.2) (ah I.p2.2)&&M) (aB (y18.1,y18.2.1,x13.p3,(2,0,[],[],(Xp.op z.1),(Xp.n z.1),(Xp.name z.1),(Xp.l z.1)),y18.p2,I.q3,y18.q3)))) (aB (I.1,y17.2,x13.p3,(2,0,[],[],(Xp.op z.1),(Xp.n z.1),(Xp.name z.1),(Xp.l z.1)),I.p2,I.q3,([]:Y Sx))))) λx16=>(Z (ov (x16.p3.1,x16.p3.2.1,x16.p3.p2,x16.p3.p3,([]:Y Xp),d8 x16.p3.q4,x16.q5),x16.1,x16.2.1,x16.p4))))))) (jn (bi L.1 7 (aB ((fI 0 x.1),x13.2)) (aB (aa,x13.2))) λd=>(aE d.1 (av (pj ([98])) λy20=>(av (qT 2) λy21=>(av (nD (13,y20,y21)) λy22=>(av (rmade_maker_stmts (((aZ .i64 (x.1-1)),1),(d.2.1.1,d.2.1.2.1,d.2.1.p2,d.2.1.p3,d.2.1.p4,M),d.p2,d.q4)) λy23=>(bp (((d.p4==d.p4)&&M)&&ax (ah d.q5) (ah d.q5)&&M) (av (pj ([98])) λy24=>(av (qT 1) λy25=>(av (nD (6,y24,y25)) λy26=>(av (jk ([98],y26)) λy27=>(bp (be (ah y23.q3+ah ([dW y27])) 176) (Z (ov (3,0,[],[],([]:Y Xp),d8 ((Xp.op y22),(Xp.n y22),(Xp.name y22),(Xp.l y22)),(y23.q3++([dW y27])),([]:Y Sx)),(y23.1.1,y23.1.2.1,y23.1.p2,y23.1.p3,y23.1.p4,d.2.1.q5),y23.2.1,y23.p2)))))))))))) (jn (α:=Bool×Bl×gP×Ui×Bool×Y ζ) (bi L.1 8 (aE x2.1 (kF (.str) ([[109],[110]]) (aZ .i64 (L.1-8)) λz29=>(av (eB (z29,d.2.1,d.p2,d.q4)) λy30=>(bp (((d.p4==y30.p3)&&M)&&ax (ah d.q5) (ah y30.q4)&&M) (aB ((!y30.1),y30.2.1,y30.p2,d.p3,y30.q3))))) (aB (aa,d.2))) (bi L.1 9 (aE x2.1 (kF (.str) ([[109],[110]]) (aZ .i64 (L.1-8)) λz31=>(av (eB (z31,d.2.1,d.p2,d.q4)) λy32=>(bp (((d.p4==y32.p3)&&M)&&ax (ah d.q5) (ah y32.q4)&&M) (aB ((!y32.1),y32.2.1,y32.p2,d.p3,y32.q3))))) (aB (aa,d.2))) (aB (aa,d.2)))) λq=>(aE q.1 (kF (.str) ([[109],[110]]) (aZ .i64 (L.1-8)) λz33=>(av (rmade_maker_block ((z33,(aZ .i64 (x.1-1))),q.2.1,q.p2,q.q4)) λy34=>(bp (((q.p4==q.p4)&&M)&&ax (ah q.q5) (ah q.q5)&&M) (Z (ov (4,0,z33,[],([]:Y Xp),d8 (0,0,[],([]:Y Xp)),y34.1,([]:Y Sx)),y34.2))))) (jn (α:=Bool×Bl×gP×Ui×Bool×Y ζ) (bi L.1 10 (aE x2.1 (av (eB ([114],q.2.1,q.p2,q.q4)) λy36=>(bp (((q.p4==y36.p3)&&M)&&ax (ah q.q5) (ah y36.q4)&&M) (aB ((!y36.1),y36.2.1,y36.p2,q.p3,y36.q3)))) (aB (aa,q.2))) (bi L.1 11 (aE x2.1 (av (eB ([114],q.2.1,q.p2,q.q4)) λy37=>(bp (((q.p4==y37.p3)&&M)&&ax (ah q.q5) (ah y37.q4)&&M) (aB ((!y37.1),y37.2.1,y37.p2,q.p3,y37.q3)))) (aB (aa,q.2))) (aB (aa,q.2)))) λx35=>(aE x35.1 (av (rmade_maker_block (([114],(aZ .i64 (x.1-1))),x35.2.1,x35.p2,x35.q4)) λy38=>(bp (((x35.p4==x35.p4)&&M)&&ax (ah x35.q5) (ah x35.q5)&&M) (Z (ov ((aZ .i64 ((aZ .i64 (L.1-10))+5)),0,[114],[],([]:Y Xp),d8 (0,0,[],([]:Y Xp)),y38.1,([]:Y Sx)),y38.2)))) (jn (bi L.1 12 (aB (x2.1,x35.2)) (aB (aa,x35.2))) λA=>(aE A.1 (av (bC (2,A.p2)) λy40=>(av (rmade_maker_stmts ((0,(aZ .i64 (1+y40.1))),(A.2.1.1,A.2.1.2.1,A.2.1.p2,M,A.2.1.q4),y40.2,A.q4)) λy41=>(bp (((A.p4==A.p4)&&M)&&ax (ah A.q5) (ah A.q5)&&M) (Z (ov (7,0,[],[],([]:Y Xp),d8 (0,0,[],([]:Y Xp)),y41.q3,([]:Y Sx)),(y41.1.1,y41.1.2.1,y41.1.p2,aa,y41.1.q4),y41.2.1,y41.p2))))) (jn (bi L.1 13 (aE x2.1 (aB ((!A.2.1.p4),A.2)) (aB (aa,A.2))) (aB (aa,A.2))) λs=>(aE s.1 (av (rmade_maker_stmts (((aZ .i64 (x.1-1)),2),(s.2.1.1,s.2.1.2.1,s.2.1.p2,s.2.1.p3,M,s.2.1.q5),s.p2,s.q4)) λy43=>(bp (((s.p4==s.p4)&&M)&&ax (ah s.q5) (ah s.q5)&&M) (Z (ov (8,0,[],[],([]:Y Xp),d8 (0,0,[],([]:Y Xp)),y43.q3,([]:Y Sx)),(y43.1.1,y43.1.2.1,y43.1.p2,y43.1.p3,aa,y43.1.q5),y43.2.1,y43.p2)))) (jn (α:=Bool×Bl×gP×Ui×Bool×Y ζ) (bi L.1 14 (aE x2.1 (aE (!s.2.1.p4) (av (eB ([109],s.2.1,s.p2,s.q4)) λy45=>(bp (((s.p4==y45.p3)&&M)&&ax (ah s.q5) (ah y45.q4)&&M) (aB ((!y45.1),y45.2.1,y45.p2,s.p3,y45.q3)))) (aB (aa,s.2))) (aB (aa,s.2))) (aB (aa,s.2))) λF=>(aE F.1 (av (pj ([120])) λy46=>(av (jk ([97],y46)) λy47=>(Z (ov (4,0,[109],[],([]:Y Xp),d8 (0,0,[],([]:Y Xp)),[ov (9,0,[99],[],([]:Y Xp),d8 (0,0,[],([]:Y Xp)),([]:Y Sx),([]:Y Sx)),dW y47],([]:Y Sx)),F.2.1,F.p2,F.q4)))) (jn (α:=Bool×Bl×gP×Ui×Bool×Y ζ) (bi L.1 15 (aE x2.1 (av (eB ([109],F.2.1,F.p2,F.q4)) λy49=>(bp (((F.p4==y49.p3)&&M)&&ax (ah F.q5) (ah y49.q4)&&M) (aB ((!y49.1),y49.2.1,y49.p2,F.p3,y49.q3)))) (aB (aa,F.2))) (aB (aa,F.2))) λx48=>(aE x48.1 (av (bC (2,x48.p2)) λy50=>(Z (ov (4,0,[109],[],([]:Y Xp),d8 (0,0,[],([]:Y Xp)),[ov ((aZ .i64 (10+y50.1)),0,[99],[],([]:Y Xp),d8 (0,0,[],([]:Y Xp)),([]:Y Sx),([]:Y Sx))],([]:Y Sx)),x48.2.1,y50.2,x48.q4))) (jn (bi L.1 16 (aE (!x48.2.1.p3) (aE (!x48.2.1.q5) (aB ((!x48.2.1.p2),x48.2)) (aB (aa,x48.2))) (aB (aa,x48.2))) (aB (aa,x48.2))) λD=>(aE D.1 (av (eU (1,(D.2.1.1,D.2.1.2.1,M,D.2.1.q3),D.p2,D.q4)) λy52=>(bp (((D.p4==y52.p3)&&M)&&ax (ah D.q5) (ah y52.q4)&&M) (Z (ov (14,0,[102],[],([]:Y Xp),d8 ((Xp.op y52.1),(Xp.n y52.1),(Xp.name y52.1),(Xp.l y52.1)),([]:Y Sx),([]:Y Sx)),y52.2)))) (jn (α:=Bool×Bl×gP×Ui×Bool×Y ζ) (bi L.1 17 (aE (!D.2.1.p3) (av (bC (2,D.p2)) λy54=>(aB ((decide ((y54.1:Int)=1)),D.2.1,y54.2,D.q3))) (aB (aa,D.2))) (aB (aa,D.2))) λx53=>(aE x53.1 (Z (ov (15,0,[97],[102],([]:Y Xp),d8 (0,0,[],([]:Y Xp)),([]:Y Sx),([]:Y Sx)),x53.2.1,x53.p2,x53.q4)) (av (eU (1,x53.2.1,x53.p2,x53.q4)) λy55=>(bp (((x53.p4==y55.p3)&&M)&&ax (ah x53.q5) (ah y55.q4)&&M) (av (jk ([120],y55.1)) λy56=>(Z (dW y56,y55.2))))))))))))))))))))))))))))))
def my (rmade_maker_stmts:ack->J W3) (rmade_maker_stmt:W4->J ZI) (rmade_maker_block:acj->J ZJ) (x:jw×Bl×gP×Bool×Y ζ):J ZJ:=
 (bp (be (ah x.q4+ah ([x.1.1])) 16) (av (bC (2,x.p2)) λq=>(av (rmade_maker_stmts ((x.1.2,(aZ .i64 (1+q.1))),x.2.1,q.2,x.p3,(x.q4++([x.1.1])))) λd=>(bp (((x.p3==x.p3)&&M)&&ax (ah (x.q4++([x.1.1]))) (ah (x.q4++([x.1.1])))&&M) (bp (cL 0 (aZ .i64 ((aY d.p2.2)-1))&&fI (aZ .i64 ((aY d.p2.2)-1)) (ah d.p2.2)) (Z (d.q3,d.1,d.2.1,aa,(dh (aP (aZ .i64 ((aY d.p2.2)-1))) d.p2.2))))))))
mutual
def dC:Nat->ack->J W3
 |0,_=>U
 |n+1,x=>mw (dC n) (em n) (dU n) x
def em:Nat->W4->J ZI
 |0,_=>U
 |n+1,x=>nK (dC n) (em n) (dU n) x
def dU:Nat->acj->J ZJ
 |0,_=>U
 |n+1,x=>my (dC n) (em n) (dU n) x
end
def p_ (x:Γ×Bl×gP×Bool×Y ζ):J W3:=dC fuel x
def oq (x:η):J (vQ×Y vP):=
 (av (rS ()) λy1=>(av (bC (3,x,0)) λI=>(iter (σ:=Int×Bl×vQ×dg×gP×Rg×Y vP) (λx3=>(bx x3.1 (aZ .i64 (2+I.1)) (kF (.str) x3.p3 x3.1 λz4=>(jn (α:=Bl×vQ×dg×jw×gP×Rg×(Y vP)×dg×Y Sx) (bi x3.1 0 (iter (σ:=Int×Bl×vQ×dg×jw×gP×Rg×(Y vP)×dg×Y Sx) (λz=>(bx z.1 (aZ .i64 (2+I.1)) (kF (.str) z.p3 z.1 λz7=>(bp (be (ah z.q9+ah ([ov (12,0,z7,[],([]:Y Xp),d8 (0,0,[],([]:Y Xp)),([]:Y Sx),([]:Y Sx))])) 176) (cH ((ct z.1),z.2.1,z.p2,z.p3,z.p4,z.p5,z.p6,z.p7,z.p8,(z.q9++([ov (12,0,z7,[],([]:Y Xp),d8 (0,0,[],([]:Y Xp)),([]:Y Sx),([]:Y Sx))])))))) (aB (b7 z.2)))) (1,(x3.1,x3.2.1.2),x3.p2,x3.p3,(z4,0),x3.p4,x3.p5,x3.q6,[[97],[98]],([]:Y Sx))) (aB ((x3.1,x3.2.1.2),x3.p2,x3.p3,(z4,0),x3.p4,x3.p5,x3.q6,[[97],[98]],([]:Y Sx)))) λs=>(av (bC (3,s.p4)) λy8=>(av (p_ ((2,(aZ .i64 (1+y8.1))),s.1,y8.2,s.p5)) λA=>(bp (((s.p5.1==s.p5.1)&&M)&&ax (ah s.p5.2) (ah s.p5.2)&&M) (bp (be (ah s.q8+ah A.q3) 176) (jn (α:=Bl×vQ×dg×jw×gP×Rg×(Y vP)×dg×Y Sx) (jn (α:=Bool×Bl×vQ×dg×jw×gP×Rg×(Y vP)×dg×Y Sx) (bi x3.1 0 (av (bC (3,A.2.1)) λF=>(aB ((decide ((F.1:Int)=2)),A.1,s.2.1,s.p2,s.p3,F.2,A.p2,s.p6,s.p7,(s.q8++A.q3)))) (aB (aa,A.1,s.2.1,s.p2,s.p3,A.2.1,A.p2,s.p6,s.p7,(s.q8++A.q3)))) λd=>(aE d.1 (kF (.str) d.p3 1 λD=>(bp (be (ah d.q9+ah ([ov (13,0,D,[],([]:Y Xp),d8 (0,0,[],([]:Y Xp)),([]:Y Sx),([]:Y Sx))])) 176) (aB (d.2.1,d.p2,d.p3,d.p4,d.p5,d.p6,d.p7,d.p8,(d.q9++([ov (13,0,D,[],([]:Y Xp),d8 (0,0,[],([]:Y Xp)),([]:Y Sx),([]:Y Sx))])))))) (aB d.2))) λq=>(bp (be (ah q.p6+ah ([(q.p3.1,q.p3.2,q.q7)])) 72) (cH ((ct x3.1),q.1,q.2.1,q.p2,q.p4,q.p5,(q.p6++([(q.p3.1,q.p3.2,q.q7)])))))))))))) (av (av (ki (x3.p2,x3.q6)) λy14=>(iA y14.1 0 (av (rS ()) λy15=>(av (qT 1) λy16=>(av (jk ([120],y16)) λL=>(Z (y15,[([109,97,105,110],0,[[97],[98]],[dW L])]))))) (Z (x3.p2,x3.q6)))) λr=>Z (b7 r)))) (0,(0,20,aa,aa,aa,aa),y1,[[109,97,105,110],[116,49],[116,50],[116,51]],I.2,(M,([]:Y ζ)),([]:Y vP)))))
def wh (x:η):J Bk:=
 (av (oq x) λq=>(av (pY q) λd=>(Z d.1)))
def rT (x:η×η):J (eX×Y jN):=
 (av (wh x.1) λs=>(av (ou x.2) λq=>(av (xS (s,q)) λd=>(Z d.1))))
def nv (x:Unit):J eX:=
 (iter (σ:=Int×ne×mi×(Y jw)×dg×dg×Y ν) (λx1=>(bx x1.1 (aT (ah ([[109,97,105,110],[116,49],[116,50],[116,51]]))) (iter (σ:=Int×ne×mi×(Y jw)×dg×dg×Y ν) (λx2=>(bx x2.1 6 (bp (be (ah x2.q6+ah ([(x1.1,x2.1,(aZ .i64 ((aZ .i64 ((aZ .i64 (10*x1.1))+x2.1))+1)))])) 24) (cH ((ct x2.1),x2.2.1,x2.p2,x2.p3,x2.p4,x2.p5,(x2.q6++([(x1.1,x2.1,(aZ .i64 ((aZ .i64 ((aZ .i64 (10*x1.1))+x2.1))+1)))]))))) (aB (nk ((ct x1.1),x2.2))))) (0,x1.2)) (aB x1.2))) (0,[([120],0,0,aa,0),([121],0,0,aa,1),([118],0,0,M,0),([113],0,2,aa,0),([113],1,2,aa,0)],[([109],aa),([110],aa),([114],M)],[([99],0)],[[102]],[[109,97,105,110],[116,49],[116,50],[116,51]],([]:Y ν)))
def kQ (x:pG×(η)×(η)×η):J η:=
 (iter (σ:=Int×η) (λx1=>(bx x1.1 (aY x.1.q3) (jn (α:=η) (bF gC x.1.q3 x1.1 λd=>(bi d.1 3 (bp (be (ah x1.2+ah ([x1.1])) 8) (aB (x1.2++([x1.1])))) (aB x1.2))) λx2=>(cH ((ct x1.1),x2))) (aB x1.2))) (0,([]:η)))
def sL (x:Unit):J η:=
 (Z ([3,3,3,3,3,4,4,4,4,4,5,5,5,6,6,6,7,7,7,8,9,10,11,12,13,14,14,15,16,16,17,17,18,18,19,20,1,1,2,21,22,23,23]))
def og (x:Γ×(η)×Int):J (Int×(η)×Int):=
 (jn (bi x.1.1 3 (aB ((decide ((x.1.1:Int)=3)),x.2)) (aB ((decide ((x.1.1:Int)=4)),x.2))) λx1=>(aE x1.1 (av (bC (8,x1.2)) λA=>(kF aM ([0,0,0,1,1,2,3,4]) A.1 λD=>(Z (D,A.2)))) (jn (bi x.1.1 6 (aB ((decide ((x.1.1:Int)=6)),x1.2)) (aB ((decide ((x.1.1:Int)=7)),x1.2))) λx4=>(aE x4.1 (av (bC (2,x4.2)) λF=>(Z F)) (jn (bi x.1.1 8 (aB ((decide ((x.1.1:Int)=8)),x4.2)) (bi x.1.1 9 (aB ((decide ((x.1.1:Int)=9)),x4.2)) (bi x.1.1 10 (aB ((decide ((x.1.1:Int)=10)),x4.2)) (aB ((decide ((x.1.1:Int)=11)),x4.2))))) λd=>(aE d.1 (Z (2,d.2)) (jn (bi x.1.1 16 (aB ((decide ((x.1.1:Int)=16)),d.2)) (bi x.1.1 17 (aB ((decide ((x.1.1:Int)=17)),d.2)) (bi x.1.1 18 (aB ((decide ((x.1.1:Int)=18)),d.2)) (bi x.1.1 19 (aB ((decide ((x.1.1:Int)=19)),d.2)) (bi x.1.1 22 (aB ((decide ((x.1.1:Int)=22)),d.2)) (aB ((decide ((x.1.1:Int)=23)),d.2))))))) λq=>(aE q.1 (Z (0,q.2)) (jn (bi x.1.1 20 (aB ((decide ((x.1.1:Int)=20)),q.2)) (aB ((decide ((x.1.1:Int)=21)),q.2))) λs=>(aE s.1 (av (bC (3,s.2)) λz=>(Z ((bo (aZ .i64 ((ct x.1.2)+z.1)) 4),z.2))) (Z ((-1),s.2))))))))))))
def pS (x:(fP×Int×Int)×(η)×Int):J (Int×(η)×Int):=
 (bi x.1.2.1 3 (bF aM x.1.1.2.1 x.1.2.2 λA=>(Z (A,x.2))) (bi x.1.2.1 23 (bF aM x.1.1.p2 0 λz=>(Z (z,x.2))) (jn (bi x.1.2.1 4 (aB ((decide ((x.1.2.1:Int)=4)),x.2,x.1.1)) (aB ((decide ((x.1.2.1:Int)=22)),x.2,x.1.1))) λx3=>(aE x3.1 (av (bC (3,x3.2.1)) λI=>(Z I)) (bi x.1.2.1 5 (av (bC (2,x3.2.1)) λF=>(Z F)) (bi x.1.2.1 18 (av (kQ x3.2.2) λd=>(bx 0 (aY d) (av (bC ((aY d),x3.2.1)) λq=>(bF aM d q.1 λs=>(Z (s,q.2)))) (Z ((-1),x3.2.1)))) (bi x.1.2.1 19 (av (kQ x3.2.2) λD=>(Z ((aY D),x3.2.1))) (Z (0,x3.2.1)))))))))
def gr (x:gP×η):J (η×gP×η):=
 (iter (σ:=Int×gP×(η)×η) (λx1=>(bx x1.1 (aY x.2) (jn (α:=gP×(η)×η) (kF aM x1.p2 x1.1 λd=>(jn (α:=Bool×gP×(η)×η) (ja (aY x1.p2) (aZ .i64 (x1.1+3)) (av (bC (2,x1.2.1)) λq=>(aB ((decide ((q.1:Int)=1)),q.2,x1.2.2))) (aB (aa,x1.2))) λx4=>(aE x4.1 (bp (be (ah x4.q3+ah ([d])) 8) (aB (x4.2.1,x4.p2,(x4.q3++([d]))))) (aB x4.2)))) λx2=>(cH ((ct x1.1),x2))) (aB (x1.q3,x1.2.1,x1.p2)))) (0,x.1,x.2,([]:η)))
def pT (x:(fP×ne×mi×(Y jw)×dg×dg×Y ν)×gP×(η)×(η)×(η)×η):J (jN×gP×(η)×(η)×(η)×η):=
 (av (bC (4,x.2.1)) λz=>(av (sL ()) λy2=>(av (bC ((aY y2),z.2)) λy3=>(bF aM y2 y3.1 λz4=>(av (bC (6,y3.2)) λy5=>(jn (α:=gP×(η)×(η)×(η)×(η)×fP×eX×CV×Int×Int×Int×Int×Int) (jn (α:=Bool×gP×(η)×(η)×(η)×(η)×fP×eX×CV×Int×Int×Int×Int×Int) (bi z4 1 (aB (M,y5.2,x.p2,x.p3,x.p4,x.q5,x.1.1,x.1.2,(0,0,0,0,0),z.1,z4,0,0,(aZ .i64 ((aZ .i64 (z.1*6))+y5.1)))) (aB ((decide ((z4:Int)=2)),y5.2,x.p2,x.p3,x.p4,x.q5,x.1.1,x.1.2,(0,0,0,0,0),z.1,z4,0,0,(aZ .i64 ((aZ .i64 (z.1*6))+y5.1))))) λA=>(aE A.1 (aB (A.2.1,A.p2,A.p3,A.p4,A.p5,A.p6,A.p7,A.p8,A.p9,A.p10,A.p11,A.p12,(-1))) (aB A.2))) λs=>(av (og ((s.p9,z.1),s.1)) λy8=>(av (pS ((s.p5,s.p9,y8.1),y8.2)) λy9=>(jn (α:=gP×(η)×(η)×(η)×(η)×CV×Int×Int×Int×Int×Int×η) (jn (bi s.p9 5 (aB (M,y9.2,s.2.1,s.p2,s.p3,s.p4,s.p7,s.p8,s.p9,y8.1,y9.1,s.q12)) (bi s.p9 3 (bF kB s.p6.1 y8.1 λz12=>(aB ((fI 0 z12.2.2.1),y9.2,s.2.1,s.p2,s.p3,s.p4,s.p7,s.p8,s.p9,y8.1,y9.1,s.q12))) (bi s.p9 4 (bF kB s.p6.1 y8.1 λz13=>(aB ((fI 0 z13.2.2.1),y9.2,s.2.1,s.p2,s.p3,s.p4,s.p7,s.p8,s.p9,y8.1,y9.1,s.q12))) (aB (aa,y9.2,s.2.1,s.p2,s.p3,s.p4,s.p7,s.p8,s.p9,y8.1,y9.1,s.q12))))) λq=>(aE q.1 (bi z.1 0 (av (gr (q.2.1,q.p2)) λy14=>(bp (ax (ah q.p2) (ah y14.2.2)&&M) (aB (y14.2.1,y14.2.2,q.p3,q.p4,q.p5,q.p6,q.p7,q.p8,q.p9,q.p10,q.q11,y14.1)))) (bi z.1 1 (av (gr (q.2.1,q.p3)) λy15=>(bp (ax (ah q.p3) (ah y15.2.2)&&M) (aB (y15.2.1,q.p2,y15.2.2,q.p4,q.p5,q.p6,q.p7,q.p8,q.p9,q.p10,q.q11,y15.1)))) (bi z.1 2 (av (gr (q.2.1,q.p4)) λy16=>(bp (ax (ah q.p4) (ah y16.2.2)&&M) (aB (y16.2.1,q.p2,q.p3,y16.2.2,q.p5,q.p6,q.p7,q.p8,q.p9,q.p10,q.q11,y16.1)))) (bi z.1 3 (av (gr (q.2.1,q.p5)) λy17=>(bp (ax (ah q.p5) (ah y17.2.2)&&M) (aB (y17.2.1,q.p2,q.p3,q.p4,y17.2.2,q.p6,q.p7,q.p8,q.p9,q.p10,q.q11,y17.1)))) U)))) (aB (q.2.1,q.p2,q.p3,q.p4,q.p5,q.p6,q.p7,q.p8,q.p9,q.p10,q.q11,([]:η))))) λx10=>(jn (α:=gP×(η)×(η)×(η)×(η)×CV×Int×Int×Int×Int×Int×(η)×η) (jn (bi x10.p7 4 (aB (M,x10)) (aB ((decide ((x10.p7:Int)=22)),x10))) λd=>(aE d.1 (bi z.1 0 (av (gr (d.2.1,d.p2)) λy20=>(bp (ax (ah d.p2) (ah y20.2.2)&&M) (aB (y20.2.1,y20.2.2,d.p3,d.p4,d.p5,d.p6,d.p7,d.p8,d.p9,d.p10,d.p11,d.q12,y20.1)))) (bi z.1 1 (av (gr (d.2.1,d.p3)) λL=>(bp (ax (ah d.p3) (ah L.2.2)&&M) (aB (L.2.1,d.p2,L.2.2,d.p4,d.p5,d.p6,d.p7,d.p8,d.p9,d.p10,d.p11,d.q12,L.1)))) (bi z.1 2 (av (gr (d.2.1,d.p4)) λI=>(bp (ax (ah d.p4) (ah I.2.2)&&M) (aB (I.2.1,d.p2,d.p3,I.2.2,d.p5,d.p6,d.p7,d.p8,d.p9,d.p10,d.p11,d.q12,I.1)))) (bi z.1 3 (av (gr (d.2.1,d.p5)) λF=>(bp (ax (ah d.p5) (ah F.2.2)&&M) (aB (F.2.1,d.p2,d.p3,d.p4,F.2.2,d.p6,d.p7,d.p8,d.p9,d.p10,d.p11,d.q12,F.1)))) U)))) (aB (d.2.1,d.p2,d.p3,d.p4,d.p5,d.p6,d.p7,d.p8,d.p9,d.p10,d.p11,d.q12,([]:η))))) λD=>(Z (D.q6,D.1,D.2.1,D.p2,D.p3,D.p4))))))))))))
def rN (x:(fP×eX×Int×Bool)×(η)×Int):J ((Y jN)×(η)×Int):=
 (bp (cL 0 (aY x.1.2.1.p4)&&cL (aY x.1.2.1.p4) (aY x.1.2.1.p4)&&be (aP (aY x.1.2.1.p4)) 24&&decide (((aY x.1.2.1.p4):Int)=4)) (jn (α:=gP×fP×eX×(η)×(η)×(η)×η) (bx 0 (aT 4) (jn (α:=gP×fP×eX×(η)×(η)×(η)×η) (jn (α:=Bool×gP×fP×eX×(η)×(η)×(η)×η) (aE x.1.q3 (bF aM x.1.1.q3 0 λz4=>(bx 1 z4 (av (bC (3,x.2)) λy5=>(aB ((decide ((y5.1:Int)=2)),y5.2,x.1.1,x.1.2.1,([]:η),([]:η),([]:η),([]:η)))) (aB (aa,x.2,x.1.1,x.1.2.1,([]:η),([]:η),([]:η),([]:η))))) (aB (aa,x.2,x.1.1,x.1.2.1,([]:η),([]:η),([]:η),([]:η)))) λx3=>(aE x3.1 (bp (be (ah x3.p4+ah ([1])) 8) (aB (x3.2.1,x3.p2,x3.p3,(x3.p4++([1])),x3.q5))) (aB x3.2))) λx2=>(bx 1 (aT 4) (jn (α:=gP×fP×eX×(η)×(η)×(η)×η) (jn (α:=Bool×gP×fP×eX×(η)×(η)×(η)×η) (aE x.1.q3 (bF aM x2.2.1.q3 1 λz8=>(bx 1 z8 (av (bC (3,x2.1)) λy9=>(aB ((decide ((y9.1:Int)=2)),y9.2,x2.2))) (aB (aa,x2)))) (aB (aa,x2))) λx7=>(aE x7.1 (bp (be (ah x7.p5+ah ([1])) 8) (aB (x7.2.1,x7.p2,x7.p3,x7.p4,(x7.p5++([1])),x7.q6))) (aB x7.2))) λx6=>(bx 2 (aT 4) (jn (α:=gP×fP×eX×(η)×(η)×(η)×η) (jn (α:=Bool×gP×fP×eX×(η)×(η)×(η)×η) (aE x.1.q3 (bF aM x6.2.1.q3 2 λz12=>(bx 1 z12 (av (bC (3,x6.1)) λy13=>(aB ((decide ((y13.1:Int)=2)),y13.2,x6.2))) (aB (aa,x6)))) (aB (aa,x6))) λA=>(aE A.1 (bp (be (ah A.p6+ah ([1])) 8) (aB (A.2.1,A.p2,A.p3,A.p4,A.p5,(A.p6++([1])),A.q7))) (aB A.2))) λI=>(bx 3 (aT 4) (jn (α:=gP×fP×eX×(η)×(η)×(η)×η) (jn (α:=Bool×gP×fP×eX×(η)×(η)×(η)×η) (aE x.1.q3 (bF aM I.2.1.q3 3 λz16=>(bx 1 z16 (av (bC (3,I.1)) λy17=>(aB ((decide ((y17.1:Int)=2)),y17.2,I.2))) (aB (aa,I)))) (aB (aa,I))) λz=>(aE z.1 (bp (be (ah z.q7+ah ([1])) 8) (aB (z.2.1,z.p2,z.p3,z.p4,z.p5,z.p6,(z.q7++([1]))))) (aB z.2))) λF=>(bx 4 (aT 4) (jn (α:=gP×fP×eX×(η)×(η)×(η)×η) (jn (α:=Bool×gP×fP×eX×(η)×(η)×(η)×η) (aE x.1.q3 (bF aM F.2.1.q3 4 λz20=>(bx 1 z20 (av (bC (3,F.1)) λy21=>(aB ((decide ((y21.1:Int)=2)),y21.2,F.2))) (aB (aa,F)))) (aB (aa,F))) λx19=>(aE x19.1 U (aB x19.2))) λx18=>U) (aB F))) (aB I))) (aB x6))) (aB x2))) (aB (x.2,x.1.1,x.1.2.1,([]:η),([]:η),([]:η),([]:η)))) λx1=>(iter (σ:=gP×fP×eX×(Y jN)×(η)×(η)×(η)×η) (λL=>(jn (bx (aY L.p3) x.1.p2 (aB ((fI L.1.2 (aY L.1.1)),L)) (aB (aa,L))) λq=>(aE q.1 (jn (α:=gP×fP×eX×(Y jN)×(η)×(η)×(η)×η) (av (pT ((q.p2,q.p3),q.2.1,q.q5)) λs=>(bp (ax (ah q.q8) (ah s.q5)&&(ax (ah q.p7) (ah s.p4)&&(ax (ah q.p6) (ah s.p3)&&(ax (ah q.p5) (ah s.p2)&&M)))) (av (ny (q.p3,q.p2,s.1)) λy26=>(aE (!y26.2) (aB (s.2.1,q.p2,q.p3,q.p4,s.2.2)) (jn (α:=gP×fP×eX×(Y jN)×jN×fP×(η)×(η)×(η)×η) (jn (bi s.1.2.1 3 (aB (M,s.2.1,q.p2,q.p3,q.p4,s.1,y26.1,s.2.2)) (aB ((decide ((s.1.2.1:Int)=23)),s.2.1,q.p2,q.p3,q.p4,s.1,y26.1,s.2.2))) λd=>(aE d.1 (bi d.p5.1 0 (bF aM d.p2.q3 0 λz29=>(bp (be (ah d.p7+ah ([z29])) 8) (aB (d.2.1,d.p2,d.p3,d.p4,(0,d.p5.2),d.p6,(d.p7++([z29])),d.q8)))) (bi d.p5.1 1 (bF aM d.p2.q3 1 λz30=>(bp (be (ah d.p8+ah ([z30])) 8) (aB (d.2.1,d.p2,d.p3,d.p4,(1,d.p5.2),d.p6,d.p7,(d.p8++([z30])),d.q9)))) (bi d.p5.1 2 (bF aM d.p2.q3 2 λz31=>(bp (be (ah d.p9+ah ([z31])) 8) (aB (d.2.1,d.p2,d.p3,d.p4,(2,d.p5.2),d.p6,d.p7,d.p8,(d.p9++([z31])),d.q10)))) (bi d.p5.1 3 (bF aM d.p2.q3 3 λz32=>(bp (be (ah d.q10+ah ([z32])) 8) (aB (d.2.1,d.p2,d.p3,d.p4,(3,d.p5.2),d.p6,d.p7,d.p8,d.p9,(d.q10++([z32])))))) U)))) (aB d.2))) λD=>(bp (be (ah D.p3+ah ([D.p4])) 88) (aB (D.1,D.p5,D.p2,(D.p3++([D.p4])),D.q6)))))))) λx24=>(cH x24)) (aB (q.p4,q.2.1))))) (x1.1,x1.2.1,x1.p2,([]:Y jN),x1.q3))))
def pU (x:η×Int):J (eX×Y jN):=
 (jn (bx 600 (aY x.1) (bp (cL 0 600&&cL 600 (ah x.1)) (aB (dh (aP 600) x.1))) (aB x.1)) λx1=>(av (nv ()) λL=>(av (mM L) λy3=>(av (bC (3,x1,0)) λI=>(iter (σ:=Int×gP×eX×fP×Y jN) (λq=>(ja q.1 (aZ .i64 (1+I.1)) (bp (be (ah q.q4+ah ([(0,20,q.1,0,0,([]:η),([]:η)),(q.1,1,(-1),0,(-1),([]:η),([]:η))])) 88) (cH ((ct q.1),q.2.1,q.p2,q.p3,(q.q4++([(0,20,q.1,0,0,([]:η),([]:η)),(q.1,1,(-1),0,(-1),([]:η),([]:η))]))))) (av (iter (σ:=Int×gP×eX×fP×(Y jN)×Y jN) (λd=>(bx d.1 (aY q.q4) (jn (α:=gP×eX×fP×(Y jN)×Y jN) (kF fZ d.p4 d.1 λz=>(av (ny (d.p2,d.p3,z)) λF=>(aE F.2 (bp (be (ah d.q5+ah ([z])) 88) (aB (d.2.1,d.p2,F.1,d.p4,(d.q5++([z]))))) (aB d.2)))) λx7=>(cH ((ct d.1),x7))) (av (av (rN ((d.p3,d.p2,(FJ (lh x.2 0) 60),aa),d.2.1)) λs=>(bp (be (ah d.q5+ah s.1) 88) (av (mN (d.p2,(d.q5++s.1))) λD=>(iA D.2 0 (av (nv ()) λA=>(Z (A,([]:Y jN)))) (Z (d.p2,(d.q5++s.1))))))) λr=>Z (b7 r)))) (0,q.2.1,q.p2,q.p3,q.q4,([]:Y jN))) λr=>Z (b7 r)))) (1,I.2,L,y3,[(0,1,(-1),0,(-1),([]:η),([]:η))]))))))
def kR (x:(η×(η)×η)×Int):J (eX×Y jN):=
 (bx 0 (aY x.1.2.2) (av (pU (x.1.2.2,x.2)) λq=>(Z q)) (bp (cL 0 (FJ (aY x.1.2.1) x.2)&&cL (FJ (aY x.1.2.1) x.2) (ah x.1.2.1)) (av (rT (x.1.1,(dh (aP (FJ (aY x.1.2.1) x.2)) x.1.2.1))) λd=>(Z d))))
end
end Go.Proofs.YtiaemgcbndhkfaaGreatDoor.AI
