/-
  Texts of the proof, part 1 of 6: what is used to prove the statement. No condition.
-/
import Derived.WalkKit
import Derived.Lib.Hide
import Derived.Deep.QuietTactic
namespace Prod
variable {A0 A1 A2 A3 A4 A5 A6 A7 A8 A9 A10 A11 A12 A13 A14 A15 A16 A17 A18 A19 A20 A21 A22 A23 A24:Type}
abbrev p2 (x:A0×A1×A2×A3):A2:=x.2.2.1
abbrev p3 (x:A0×A1×A2×A3×A4):A3:=x.2.2.2.1
abbrev q3 (x:A0×A1×A2×A3):A3:=x.2.2.2
abbrev p4 (x:A0×A1×A2×A3×A4×A5):A4:=x.2.2.2.2.1
abbrev q4 (x:A0×A1×A2×A3×A4):A4:=x.2.2.2.2
abbrev p5 (x:A0×A1×A2×A3×A4×A5×A6):A5:=x.2.2.2.2.2.1
abbrev q5 (x:A0×A1×A2×A3×A4×A5):A5:=x.2.2.2.2.2
abbrev p6 (x:A0×A1×A2×A3×A4×A5×A6×A7):A6:=x.2.2.2.2.2.2.1
abbrev q6 (x:A0×A1×A2×A3×A4×A5×A6):A6:=x.2.2.2.2.2.2
abbrev p7 (x:A0×A1×A2×A3×A4×A5×A6×A7×A8):A7:=x.2.2.2.2.2.2.2.1
abbrev q7 (x:A0×A1×A2×A3×A4×A5×A6×A7):A7:=x.2.2.2.2.2.2.2
abbrev p8 (x:A0×A1×A2×A3×A4×A5×A6×A7×A8×A9):A8:=x.2.2.2.2.2.2.2.2.1
abbrev q8 (x:A0×A1×A2×A3×A4×A5×A6×A7×A8):A8:=x.2.2.2.2.2.2.2.2
abbrev p9 (x:A0×A1×A2×A3×A4×A5×A6×A7×A8×A9×A10):A9:=x.2.2.2.2.2.2.2.2.2.1
abbrev q9 (x:A0×A1×A2×A3×A4×A5×A6×A7×A8×A9):A9:=x.2.2.2.2.2.2.2.2.2
abbrev p10 (x:A0×A1×A2×A3×A4×A5×A6×A7×A8×A9×A10×A11):A10:=x.2.2.2.2.2.2.2.2.2.2.1
abbrev q10 (x:A0×A1×A2×A3×A4×A5×A6×A7×A8×A9×A10):A10:=x.2.2.2.2.2.2.2.2.2.2
abbrev p11 (x:A0×A1×A2×A3×A4×A5×A6×A7×A8×A9×A10×A11×A12):A11:=x.2.2.2.2.2.2.2.2.2.2.2.1
abbrev q11 (x:A0×A1×A2×A3×A4×A5×A6×A7×A8×A9×A10×A11):A11:=x.2.2.2.2.2.2.2.2.2.2.2
abbrev p12 (x:A0×A1×A2×A3×A4×A5×A6×A7×A8×A9×A10×A11×A12×A13):A12:=x.2.2.2.2.2.2.2.2.2.2.2.2.1
abbrev q12 (x:A0×A1×A2×A3×A4×A5×A6×A7×A8×A9×A10×A11×A12):A12:=x.2.2.2.2.2.2.2.2.2.2.2.2
abbrev p13 (x:A0×A1×A2×A3×A4×A5×A6×A7×A8×A9×A10×A11×A12×A13×A14):A13:=x.2.2.2.2.2.2.2.2.2.2.2.2.2.1
abbrev q13 (x:A0×A1×A2×A3×A4×A5×A6×A7×A8×A9×A10×A11×A12×A13):A13:=x.2.2.2.2.2.2.2.2.2.2.2.2.2
abbrev p14 (x:A0×A1×A2×A3×A4×A5×A6×A7×A8×A9×A10×A11×A12×A13×A14×A15):A14:=x.2.2.2.2.2.2.2.2.2.2.2.2.2.2.1
abbrev p15 (x:A0×A1×A2×A3×A4×A5×A6×A7×A8×A9×A10×A11×A12×A13×A14×A15×A16):A15:=x.2.2.2.2.2.2.2.2.2.2.2.2.2.2.2.1
abbrev p16 (x:A0×A1×A2×A3×A4×A5×A6×A7×A8×A9×A10×A11×A12×A13×A14×A15×A16×A17):A16:=x.2.2.2.2.2.2.2.2.2.2.2.2.2.2.2.2.1
abbrev q16 (x:A0×A1×A2×A3×A4×A5×A6×A7×A8×A9×A10×A11×A12×A13×A14×A15×A16):A16:=x.2.2.2.2.2.2.2.2.2.2.2.2.2.2.2.2
abbrev p17 (x:A0×A1×A2×A3×A4×A5×A6×A7×A8×A9×A10×A11×A12×A13×A14×A15×A16×A17×A18):A17:=x.2.2.2.2.2.2.2.2.2.2.2.2.2.2.2.2.2.1
abbrev q17 (x:A0×A1×A2×A3×A4×A5×A6×A7×A8×A9×A10×A11×A12×A13×A14×A15×A16×A17):A17:=x.2.2.2.2.2.2.2.2.2.2.2.2.2.2.2.2.2
abbrev p18 (x:A0×A1×A2×A3×A4×A5×A6×A7×A8×A9×A10×A11×A12×A13×A14×A15×A16×A17×A18×A19):A18:=x.2.2.2.2.2.2.2.2.2.2.2.2.2.2.2.2.2.2.1
abbrev q18 (x:A0×A1×A2×A3×A4×A5×A6×A7×A8×A9×A10×A11×A12×A13×A14×A15×A16×A17×A18):A18:=x.2.2.2.2.2.2.2.2.2.2.2.2.2.2.2.2.2.2
abbrev p19 (x:A0×A1×A2×A3×A4×A5×A6×A7×A8×A9×A10×A11×A12×A13×A14×A15×A16×A17×A18×A19×A20):A19:=x.2.2.2.2.2.2.2.2.2.2.2.2.2.2.2.2.2.2.2.1
abbrev p20 (x:A0×A1×A2×A3×A4×A5×A6×A7×A8×A9×A10×A11×A12×A13×A14×A15×A16×A17×A18×A19×A20×A21):A20:=x.2.2.2.2.2.2.2.2.2.2.2.2.2.2.2.2.2.2.2.2.1
abbrev q21 (x:A0×A1×A2×A3×A4×A5×A6×A7×A8×A9×A10×A11×A12×A13×A14×A15×A16×A17×A18×A19×A20×A21):A21:=x.2.2.2.2.2.2.2.2.2.2.2.2.2.2.2.2.2.2.2.2.2
end Prod
namespace Go.Proofs.YtiaemgcbndhkfaaGreatDoor.AI
open Go.RowKit
set_option maxRecDepth 100000
set_option maxHeartbeats 4000000
set_option linter.unusedVariables false
set_option linter.unusedSimpArgs false
open Act renaming put→M2
open _root_.Array renaming length_toList→iq,replicate→om
open _root_.Bool renaming true→M,false→aa
open _root_.Int renaming toNat→aP,ofNat→aU,tmod→bp
open IntKind renaming wrap→oQ
open _root_.List renaming length→ah,replicate→aA,take→cM,length_singleton→cS,toArray→eT,range→fm,getElem?_cons_zero→lG
open _root_.Nat renaming beq→aw,testBit→aO,ble→dN,blt→eS,min→iO
open Oper renaming wp→G0
open _root_.Option renaming some→Z,none→U,bind_some→aD
open Region renaming wanted→iJ,binds→zd,ready→GY
open _root_.Sum renaming inr→bZ,inl→oL
open Utf8 renaming decode→xJ
open World renaming shape?→rx,cell?→M0
noncomputable section
abbrev Y:=@List
abbrev J:=@Option
abbrev aL:=@if_neg
abbrev aT:=@if_pos
abbrev be:=@decide_eq_true
abbrev bg:=@of_decide_eq_true
abbrev bz:=@decide_eq_true_eq
abbrev bD:=@decide_eq_false
abbrev bE:=@if_true
abbrev cQ:=@beq_self_eq_true
abbrev cR:=@beq_iff_eq
abbrev c9:=@decide_false
abbrev du:=@if_false
abbrev dJ:=@decide_true
abbrev dP:=@absurd
abbrev gH:=@or_false
abbrev iX:=@congrArg
abbrev jE:=@of_decide_eq_false
abbrev AC:=@true_and
abbrev af:=@Option.some.injEq
abbrev ak:=@Bool.and_eq_true
abbrev au:=@Nat.eq_of_beq_eq_true
abbrev ax:=@List.getElem?_eq_getElem
abbrev ay:=@List.getD_eq_getElem?_getD
abbrev aC:=@Prod.mk.injEq
abbrev aJ:=@List.mem_singleton
abbrev a_:=@Nat.le_of_ble_eq_true
abbrev bh:=@List.mem_of_getElem?
abbrev bi:=@List.getElem?_map
abbrev bm:=@List.getElem?_eq_some_iff
abbrev bt:=@Nat.ble_eq_true_of_le
abbrev bu:=@List.mem_cons
abbrev bw:=@Nat.testBit_or
abbrev bF:=@Bool.false_eq_true
abbrev bJ:=@List.getElem?_eq_none
abbrev bL:=@Nat.zero_add
abbrev bM:=@Nat.lt_or_ge
abbrev bN:=@List.mem_append
abbrev bQ:=@List.getElem?_append_left
abbrev bS:=@List.take_length
abbrev bX:=@List.getElem?_append_right
abbrev b6:=@List.length_append
abbrev b7:=@List.length_take
abbrev ca:=@List.length_map
abbrev cq:=@Array.getElem?_toList
abbrev ct:=@Array.getElem?_eq_some_iff
abbrev cz:=@Nat.mul_le_mul_right
abbrev cA:=@List.getElem?_take
abbrev cE:=@List.not_mem_nil
abbrev cF:=@Nat.le_refl
abbrev cN:=@List.length_replicate
abbrev c6:=@Nat.le_trans
abbrev c7:=@List.mem_map
abbrev da:=@List.map_append
abbrev dk:=@List.mem_cons_of_mem
abbrev dz:=@Nat.lt_of_lt_of_le
abbrev dA:=@List.ext_getElem
abbrev d_:=@Bool.not_eq_true'
abbrev eo:=@List.mem_cons_self
abbrev ey:=@Int.natCast_nonneg
abbrev eU:=@List.take_of_length_le
abbrev eV:=@List.mem_of_mem_take
abbrev eW:=@List.getElem?_of_mem
abbrev fb:=@List.map_cons
abbrev fy:=@List.flatMap_cons
abbrev gk:=@List.all_eq_true
abbrev gm:=@List.length_take_le
abbrev gp:=@Int.le_refl
abbrev gD:=@Array.getD_eq_getD_getElem?
abbrev gP:=@List.getElem?_drop
abbrev gR:=@Bool.and_self
abbrev gY:=@Nat.ne_of_beq_eq_false
abbrev ib:=@Array.getElem?_eq_getElem
abbrev iu:=@Nat.le_succ_of_le
abbrev iv:=@List.append_assoc
abbrev iK:=@Option.isSome_iff_exists
abbrev iN:=@Nat.succ_mul
abbrev iP:=@List.cons.injEq
abbrev iQ:=@Bool.or_eq_true
abbrev jh:=@List.mem_append_left
abbrev ji:=@List.length_eq_zero_iff
abbrev jQ:=@Option.map_eq_some_iff
abbrev jR:=@Nat.or_assoc
abbrev jS:=@List.foldl_append
abbrev jT:=@Bool.false_and
abbrev jW:=@Option.some.inj
abbrev kx:=@List.mem_append_right
abbrev ky:=@List.getElem?_toArray
abbrev kH:=@Nat.lt_succ_self
abbrev kI:=@List.length_drop
abbrev kO:=@Bool.true_and
abbrev ll:=@List.take_append_of_le_length
abbrev lD:=@List.length_range
abbrev lE:=@List.getElem?_replicate
abbrev nA:=@List.mem_range
abbrev nB:=@List.getElem_range
abbrev ol:=@List.append_nil
abbrev oN:=@Nat.zero_le
abbrev oO:=@List.take_succ_eq_append_getElem
abbrev oP:=@List.getElem?_set
abbrev pD:=@List.map_take
abbrev pP:=@Array.getElem?_setIfInBounds_ne
abbrev pV:=@Int.toNat_of_nonneg
abbrev qF:=@List.getElem_mem
abbrev qG:=@List.getElem_map
abbrev rz:=@Nat.eq_zero_or_pos
abbrev rA:=@Nat.beq_refl
abbrev rB:=@List.drop_of_length_le
abbrev sC:=@List.contains_iff_mem
abbrev sN:=@List.size_toArray
abbrev ud:=@Bool.and_eq_true_iff
abbrev up:=@Nat.sub_self
abbrev uq:=@List.mem_flatMap
abbrev ur:=@List.getElem_set
abbrev ut:=@List.drop_append
abbrev vg:=@List.getElem?_range
abbrev vh:=@List.drop_succ_cons
abbrev v_:=@Nat.add_assoc
abbrev wa:=@Nat.not_lt_zero
abbrev xK:=@Nat.zero_or
abbrev zf:=@Nat.lt_succ_of_lt
abbrev Dc:=@List.replicate_succ'
abbrev Dd:=@List.drop_append_of_le_length
abbrev Ey:=@Nat.min_eq_left
abbrev Ez:=@List.mem_filter
abbrev EA:=@List.length_set
abbrev G1:=@Nat.mul_comm
abbrev G2:=@List.map_map
abbrev Kl:=@Array.ext'
abbrev M1:=@Nat.add_mul
abbrev η:=Y Int
abbrev ζ:=Y UInt8
abbrev θ:=Y Bool
abbrev ι:=Y Nat
abbrev ξ:=Y Value
abbrev ω:=Int×Int×Int×Int×Int×Int
abbrev υ:=Int×Int×Int×Int×Int
abbrev π:=Int×Int×Int×Int
abbrev ν:=Int×Int×Int
abbrev Γ:=Int×Int
inductive FV where
 |raw (v:Value)
 |sl (cells:List FV) (n:Nat)
 |ptr (cells:List FV) (off:Nat)
 |agg (cells:List FV)
inductive AV where
 |f (x:FV)
 |ptr (id off:Nat)
 |sl (id off n:Nat)
 |row (id sz n:Nat)
 |mp (id:Nat)
 |emp
 |anyb
 |ful (cells:List FV) (n:Nat)
 |agg (cells:List AV)
 |tup (vs:List AV)
 |clo (g:FuncId) (cap:List AV)
def FV.isCell:FV->Bool
 |.raw v=>v.oneCell'
 |.sl _ _=>M
 |.ptr _ _=>M
 |.agg _=>aa
def AV.isCell:AV->Bool
 |.f x=>x.isCell
 |.ptr _ _=>M
 |.sl _ _ _=>M
 |.row _ _ _=>M
 |.mp _=>M
 |.emp=>M
 |.clo _ _=>M
 |_=>aa
inductive mw (O:Nat->Prop) (w:World):FV->Value->Prop
 |raw (v:Value):mw O w (.raw v) v
 |nil (a:Option Addr) (c:Nat) (hc:c<=maxLen):mw O w (.sl [] 0) (.slice a 0 c)
 |sl (cells:List FV) (n c b off:Nat) (us:Nat->Value) (hn:n<=c) (hc:c<=maxLen) (hO:¬O b) (hb:b<w.heap.size)
   (hcl:∀x∈cells,x.isCell=M)
   (hu:∀j,j<cells.length->w.cell? ⟨b,off+j,U⟩=Z (us j)) (hr:∀(j:Nat) x,cells[j]? =Z x->mw O w x (us j)):
   mw O w (.sl cells n) (.slice (Z ⟨b,off,U⟩) n c)
 |ptr (cells:List FV) (o b off:Nat) (us:Nat->Value) (hO:¬O b) (hb:b<w.heap.size)
   (hcl:∀x∈cells,x.isCell=M)
   (hu:∀j,j<cells.length->w.cell? ⟨b,off+j,U⟩=Z (us j)) (hr:∀(j:Nat) x,cells[j]? =Z x->mw O w x (us j)):
   mw O w (.ptr cells o) (.pointer (Z ⟨b,off+o,U⟩))
 |agg (cells:List FV) (vs:ξ) (hl:vs.length=cells.length) (hcl:∀x∈cells,x.isCell=M)
   (hr:∀(j:Nat) x v,cells[j]? =Z x->vs[j]? =Z v->mw O w x v):mw O w (.agg cells) (.agg vs.toArray)
abbrev PM:=Nat->J Nat
inductive cH (φ:PM) (O:Nat->Prop) (w:World):AV->Value->Prop
 |f {x:FV} {v:Value} (h:mw O w x v):cH φ O w (.f x) v
 |ptr {id off b:Nat} (h:φ id=Z b):cH φ O w (.ptr id off) (.pointer (Z ⟨b,off,U⟩))
 |sl {id off n c b:Nat} (h:φ id=Z b) (hn:n<=c) (hc:c<=maxLen):cH φ O w (.sl id off n) (.slice (Z ⟨b,off,U⟩) n c)
 |row {id sz n c b:Nat} (h:φ id=Z b) (hn:n<=c) (hc:c<=maxLen) (hs:∃ty,w.shape? b=Z (ty,c*sz)):
   cH φ O w (.row id sz n) (.slice (Z ⟨b,0,U⟩) n c)
 |emp {a:Option Addr}:cH φ O w .emp (.slice a 0 0)
 |anyb {b:Bool}:cH φ O w .anyb (.bool b)
 |ful {cells:List FV} {n:Nat} {a:Option Addr} (h:mw O w (.sl cells n) (.slice a n n)):cH φ O w (.ful cells n) (.slice a n n)
 |mp {id b:Nat} (h:φ id=Z b):cH φ O w (.mp id) (.map (Z b))
 |agg {cells:List AV} {vs:ξ} (hl:vs.length=cells.length) (hcl:∀x∈cells,x.isCell=M)
   (hr:∀(j:Nat) x v,cells[j]? =Z x->vs[j]? =Z v->cH φ O w x v):cH φ O w (.agg cells) (.agg vs.toArray)
 |tup {cells:List AV} {vs:ξ} (hl:vs.length=cells.length)
   (hr:∀(j:Nat) x v,cells[j]? =Z x->vs[j]? =Z v->cH φ O w x v):cH φ O w (.tup cells) (.tuple vs.toArray)
 |clo {g:FuncId} {cells:List AV} {vs:ξ} (hl:vs.length=cells.length)
   (hr:∀(j:Nat) x v,cells[j]? =Z x->vs[j]? =Z v->cH φ O w x v):cH φ O w (.clo g cells) (.func (.func g) #[] vs.toArray)
structure GU (O:Nat->Prop) (w w':World):Prop where
 os:w'.os=w.os
 tape:w'.tape=w.tape
 output:w'.output=w.output
 size:w.heap.size<=w'.heap.size
 blk:∀k,k<w.heap.size->¬O k->w'.heap[k]? =w.heap[k]?
 shp:∀k,k<w.heap.size->w'.shape? k=w.shape? k
theorem GU.refl (O:Nat->Prop) (w:World):GU O w w:=⟨rfl,rfl,rfl,cF _,λ_ _ _=>rfl,λ_ _=>rfl⟩
theorem C1 {w w':World} {b:Nat} (h:w'.heap[b]? =w.heap[b]?) (o:Nat):w'.cell? ⟨b,o,U⟩=w.cell? ⟨b,o,U⟩:=by
 unfold M0;rw[h]
theorem mw.ext {O O':Nat->Prop} {w w':World} (he:GU O w w') (q:∀k,k<w.heap.size->O' k->O k) {x:FV} {v:Value} (h:mw O w x v):mw O' w' x v:=by
 induction h with
 |raw v=>exact .raw v
 |nil a c hc=>exact .nil a c hc
 |sl cells n c b off us hn hc hO hb hcl hu hr d=>
  exact .sl cells n c b off us hn hc (λh=>hO (q b hb h)) (dz hb he.size) hcl (λj hj=>by rw[C1 (he.blk b hb hO)];exact hu j hj) d
 |ptr cells o b off us hO hb hcl hu hr d=>
  exact .ptr cells o b off us (λh=>hO (q b hb h)) (dz hb he.size) hcl (λj hj=>by rw[C1 (he.blk b hb hO)];exact hu j hj) d
 |agg cells vs hl hcl hr d=>exact .agg cells vs hl hcl d
theorem cH.ext {φ φ':PM} {O O':Nat->Prop} {w w':World} (hs:∀i k,φ i=Z k->φ' i=Z k) (he:GU O w w') (q:∀k,k<w.heap.size->O' k->O k) {x:AV} {v:Value} (h:cH φ O w x v):cH φ' O' w' x v:=by
 induction h with
 |f h=>exact .f (h.ext he q)
 |ptr h=>exact .ptr (hs _ _ h)
 |sl h hn hc=>exact .sl (hs _ _ h) hn hc
 |row h hn hc hsh=>
  obtain⟨ty,hty⟩:=hsh;refine .row (hs _ _ h) hn hc ⟨ty,?_⟩;rw[he.shp _ ?_];exact hty;unfold rx at hty;rcases bM _ w.heap.size with hlt|hge
  .exact hlt
  .rw[Array.getElem?_eq_none hge]at hty;cases hty
 |emp=>exact .emp
 |anyb=>exact .anyb
 |ful h=>exact .ful (h.ext he q)
 |mp h=>exact .mp (hs _ _ h)
 |agg hl hcl hr d=>exact .agg hl hcl d
 |tup hl hr d=>exact .tup hl d
 |clo hl hr d=>exact .clo hl d
inductive BC where
 |fz (l:List FV)
 |mx (l:List AV)
 |mp (es:List (Value×AV))
 |it (s:ByteArray) (pos:Nat)
def BC.get:BC->Nat->J AV
 |.fz l,j=>l[j]?.map AV.f
 |.mx l,j=>l[j]?
 |_,_=>U
def BC.len:BC->Nat
 |.fz l=>l.length
 |.mx l=>l.length
 |_=>0
def BC.isCells:BC->Bool
 |.fz _=>M
 |.mx _=>M
 |_=>aa
structure u_ where
 ty:TypeId
 c:BC
abbrev HF:=Nat->J u_
def own (φ:PM) (h:HF) (k:Nat):Prop:=∃id b,h id=Z b/\φ id=Z k
def tot (E:Nat->Prop) (φ:PM) (h:HF) (k:Nat):Prop:=E k\/own φ h k
def uO (φ:PM) (O:Nat->Prop) (w:World) (c:BC) (arr:Array Value):Prop:=
 c.len<=arr.size/\∀j x,c.get j=Z x->x.isCell=M/\∃v,arr[j]? =Z v/\cH φ O w x v
def kn (k:Value):Y MapEntry->Value
 |[]=>.slice U 0 0
 |m::r=>match m.key,k with
  |.int .i64 a,.int .i64 b=>if a=b then m.val else kn k r
  |_,_=>kn k r
def vC (k:Value):Prop:=∃n:Int,k= .int .i64 n
def V7 (ty:TypeId) (es:Y (Value×AV)) (ents:Array MapEntry):Prop:=if ty=0 then ents.toList.map (·.key)=es.map (·.1) else (∀m∈ents.toList,vC m.key)/\∀k∈es.map (·.1),vC k
def MpV (ty:TypeId) (ents:Array MapEntry) (j:Nat) (k v:Value):Prop:=if ty=0 then ∃m,ents[j]? =Z m/\v=m.val else v=kn k ents.toList
def iV (φ:PM) (O:Nat->Prop) (w:World) (b:u_) (o:Obj):Prop:=
 match b.c with
 |.mp es=>∃ents clock,o= .map ents clock/\V7 b.ty es ents/\∀(j:Nat) x,es[j]? =Z x->∃v,MpV b.ty ents j x.1 v/\cH φ O w x.2 v
 |.it s p=>o= .stringIter s p
 |c=>∃arr,o= .cells arr b.ty (0,0)/\uO φ O w c arr
def Wc (φ:PM) (O:Nat->Prop) (w:World) (k:Nat) (b:u_):Prop:=∃o,w.heap[k]? =Z o/\iV φ O w b o
theorem Wc.cells {φ:PM} {O:Nat->Prop} {w:World} {k:Nat} {b:u_} (h:Wc φ O w k b) (hc:b.c.isCells=M):
 ∃arr,w.heap[k]? =Z (.cells arr b.ty (0,0))/\uO φ O w b.c arr:=by
 obtain⟨o,h1,h2⟩:=h;unfold iV at h2;cases hb:b.c with
 |fz l=>rw[hb]at h2;obtain⟨arr,rfl,d⟩:=h2;exact⟨arr,h1,d⟩
 |mx l=>rw[hb]at h2;obtain⟨arr,rfl,d⟩:=h2;exact⟨arr,h1,d⟩
 |mp _=>rw[hb]at hc;cases hc
 |it _ _=>rw[hb]at hc;cases hc
theorem iV.mono {φ φ':PM} {O O':Nat->Prop} {w w':World} (hk:∀x v,cH φ O w x v->cH φ' O' w' x v) {b:u_} {o:Obj} (h:iV φ O w b o):iV φ' O' w' b o:=by
 unfold iV at h ⊢;cases hb:b.c with
 |fz l=>rw[hb]at h;obtain⟨arr,h1,h2,z⟩:=h;exact⟨arr,h1,h2,λj x q=>by obtain⟨a,v,c,d⟩:=z j x q;exact⟨a,v,c,hk _ _ d⟩⟩
 |mx l=>rw[hb]at h;obtain⟨arr,h1,h2,z⟩:=h;exact⟨arr,h1,h2,λj x q=>by obtain⟨a,v,c,d⟩:=z j x q;exact⟨a,v,c,hk _ _ d⟩⟩
 |mp es=>rw[hb]at h;obtain⟨e,c,h1,h2,z⟩:=h;exact⟨e,c,h1,h2,λj x q=>by obtain⟨m,a,b⟩:=z j x q;exact⟨m,a,hk _ _ b⟩⟩
 |it s p=>rw[hb]at h;exact h
theorem uO.mono {φ φ':PM} {O O':Nat->Prop} {w w':World} (hk:∀x v,cH φ O w x v->cH φ' O' w' x v) {c:BC} {arr:Array Value} (h:uO φ O w c arr):uO φ' O' w' c arr:=
 ⟨h.1,λj x q=>by obtain⟨a,v,c,d⟩:=h.2 j x q;exact⟨a,v,c,hk _ _ d⟩⟩
def uh (l:ζ):FV:=.raw (.string ⟨l.toArray⟩)
def BZ:Y FV:=[uh [118,97,114],uh [118,111,108,97,116,105,108,101],uh [109,117,116,101,120],uh [114,119,108,111,99,107],uh [99,111,110,100],uh [102,117,116,117,114,101],uh [116,104,114,101,97,100],uh [105,102],uh [101,108,115,101],uh [119,104,105,108,101],uh [108,111,99,107],uh [114,101,97,100],uh [119,114,105,116,101],uh [116,114,97,110,115,97,99,116,105,111,110],uh [97,116,111,109,105,99],uh [119,97,105,116],uh [110,111,116,105,102,121],uh [110,111,116,105,102,121,97,108,108],uh [115,112,97,119,110],uh [106,111,105,110],uh [115,101,116],uh [103,101,116]]
def G (g:Nat):J (Y FV):=if g==0 then Z BZ else U
structure qO (φ:PM) (E:Nat->Prop) (h:HF) (w:World):Prop where
 inj:∀i j b b' k,h i=Z b->h j=Z b'->φ i=Z k->φ j=Z k->i=j
 at_:∀i b,h i=Z b->∃k,φ i=Z k/\¬E k/\Wc φ (tot E φ h) w k b
 el:∀k,E k->k<w.heap.size
 gl:∀g cells,G g=Z cells->mw (tot E φ h) w (.ptr cells 0) (.pointer (Z ⟨g,0,U⟩))
structure iW (φ φ':PM) (h h':HF) (w w':World):Prop where
 sub:∀i k,φ i=Z k->φ' i=Z k
 ext:GU (own φ h) w w'
 own_:∀k,k<w.heap.size->own φ' h' k->own φ h k
theorem iW.refl (φ:PM) (h:HF) (w:World):iW φ φ h h w w:=⟨λ_ _ h=>h,GU.refl _ _,λ_ _ h=>h⟩
theorem iW.trans {φ φ' φ'':PM} {h h' h'':HF} {w w' w'':World} (m:iW φ φ' h h' w w') (n:iW φ' φ'' h' h'' w' w''):iW φ φ'' h h'' w w'' where
 sub:=λi k e=>n.sub i k (m.sub i k e)
 ext:=⟨n.ext.os.trans m.ext.os,n.ext.tape.trans m.ext.tape,n.ext.output.trans m.ext.output,c6 m.ext.size n.ext.size,
  λk hk d=>(n.ext.blk k (dz hk m.ext.size) (λh=>d (m.own_ k hk h))).trans (m.ext.blk k hk d),
  λk hk=>(n.ext.shp k (dz hk m.ext.size)).trans (m.ext.shp k hk)⟩
 own_:=λk hk h=>m.own_ k hk (n.own_ k (dz hk m.ext.size) h)
theorem GU.mono {O O':Nat->Prop} {w w':World} (h:GU O w w') (d:∀k,O k->O' k):GU O' w w':=
 ⟨h.os,h.tape,h.output,h.size,λk hk hO=>h.blk k hk (λx=>hO (d k x)),h.shp⟩
theorem iW.keep {φ φ':PM} {h h':HF} {w w':World} (m:iW φ φ' h h' w w') {E:Nat->Prop} {x:AV} {v:Value} (r:cH φ (tot E φ h) w x v):cH φ' (tot E φ' h') w' x v:=
 r.ext m.sub (m.ext.mono λ_ h=>.inr h) λk hk d=>d.elim .inl λo=>.inr (m.own_ k hk o)
theorem iW.keepF {φ φ':PM} {h h':HF} {w w':World} (m:iW φ φ' h h' w w') {E:Nat->Prop} {x:FV} {v:Value} (r:mw (tot E φ h) w x v):mw (tot E φ' h') w' x v:=
 r.ext (m.ext.mono λ_ h=>.inr h) λk hk d=>d.elim .inl λo=>.inr (m.own_ k hk o)
abbrev EF:=Nat->J AV
def MW (φ:PM) (O:Nat->Prop) (w:World) (e:EF) (a:Act):Prop:=∀t x,e t=Z x->cH φ O w x (a.tmps.getD t undef)
def BO (e:EF) (dst:J Nat) (x:AV):EF:=λt=>if dst=Z t then Z x else e t
def eF (h:HF) (wr:ι) (nw:HF):HF:=λi=>if i∈wr then nw i else h i
structure AA where
 val:AV
 rd:ι
 wr:ι
 nw:HF
 N:ι
def gB (P:Program) (o:Oper) (e:EF) (h:HF) (f:AA):Prop:=
 ∀(φ:PM) (E:Nat->Prop) (h':HF) (w:World) (a:Act),(∀i∈f.rd,h' i=h i)->(∀i∈f.wr,h' i=h i)->
  (∀t,.tmp t∈o.op.operands->∀y,e t=Z y->cH φ (tot E φ h') w y (a.tmps.getD t undef))->qO φ E h' w->(∀n∈f.N,φ n=U)->
  o.wp P a w (λa' w'=>∃v φ',a'=a.put o.dst v/\iW φ φ' h' (eF h' f.wr f.nw) w w'/\(∀i k,φ' i=Z k->φ i=Z k\/i∈f.N)/\
   qO φ' E (eF h' f.wr f.nw) w'/\cH φ' (tot E φ' (eF h' f.wr f.nw)) w' f.val v) (λ_ _ _=>False)
def rC:AA:=⟨.f (.raw undef),[],[],λ_=>U,[]⟩
inductive J4 (P:Program) (ops:Array Oper) (o:Oper) (f:AA) (e:EF) (h:HF):Prop
 |run (hg:o.guard=U) (ht:gB P o e h f)
 |runG (j t:Nat) (want:Bool) (hg:o.guard=Z (j,want)) (hj:(ops[j]?).bind (·.dst)=Z t) (he:e t=Z (.f (.raw (.bool want)))) (ht:gB P o e h f)
 |skip (j t:Nat) (want:Bool) (hg:o.guard=Z (j,want)) (hj:(ops[j]?).bind (·.dst)=Z t) (v:Value) (he:e t=Z (.f (.raw v))) (hv:v≠ .bool want) (hf:f=rC)
inductive za (P:Program) (ops:Array Oper):List (Oper×AA)->EF->HF->EF->HF->Prop
 |nil (e:EF) (h:HF):za P ops [] e h e h
 |cons {o:Oper} {f:AA} {r:List (Oper×AA)} {e e':EF} {h h':HF} (hs:J4 P ops o f e h)
   (hr:za P ops r (BO e o.dst f.val) (eF h f.wr f.nw) e' h'):za P ops ((o,f)::r) e h e' h'
def Kn (S:Nat->Bool):Nat->Y (Oper×AA)->EF->EF
 |_,[],e=>e
 |k,(o,f)::r,e=>Kn S (k+1) r (if S k then BO e o.dst f.val else e)
def Br (S:Nat->Bool):Nat->Y (Oper×AA)->HF->HF
 |_,[],h=>h
 |k,(_,f)::r,h=>Br S (k+1) r (if S k then eF h f.wr f.nw else h)
theorem Dl {S S':Nat->Bool} {t:Nat}:∀(l:Y (Oper×AA)) (k:Nat) (e e':EF),e t=e' t->
 (∀(j:Nat) o f,l[j]? =Z (o,f)->o.dst=Z t->S (k+j)=S' (k+j))->Kn S k l e t=Kn S' k l e' t
 |[],_,_,_,he,_=>he
 |(o,f)::r,k,e,e',he,d=>by
  simp only[Kn];refine Dl r (k+1) _ _ ?_ (λj o f hj hd=>by have:=d (j+1) o f (by simpa using hj) hd;rwa [show k+(j+1)=k+1+j from by omega]at this);by_cases hd:o.dst=Z t
  .rw[show S k=S' k from by simpa using d 0 o f rfl hd];split
   .simp[BO,hd]
   .exact he
  .split<;>split<;>simp[BO,hd,he]
theorem Dk {S S':Nat->Bool} {t:Nat}:∀(l:Y (Oper×AA)) (k:Nat) (e e':HF),e t=e' t->
 (∀(j:Nat) o f,l[j]? =Z (o,f)->t∈f.wr->S (k+j)=S' (k+j))->Br S k l e t=Br S' k l e' t
 |[],_,_,_,he,_=>he
 |(o,f)::r,k,e,e',he,d=>by
  simp only[Br];refine Dk r (k+1) _ _ ?_ (λj o f hj hd=>by have:=d (j+1) o f (by simpa using hj) hd;rwa [show k+(j+1)=k+1+j from by omega]at this);by_cases hd:t∈f.wr
  .rw[show S k=S' k from by simpa using d 0 o f rfl hd];split
   .simp[eF,hd]
   .exact he
  .split<;>split<;>simp[eF,hd,he]
theorem BE {S:Nat->Bool} {t:Nat}:∀(l:Y (Oper×AA)) (k:Nat) (e:EF),(∀(j:Nat) o f,l[j]? =Z (o,f)->o.dst=Z t->S (k+j)=aa)->Kn S k l e t=e t
 |[],_,_,_=>rfl
 |(o,f)::r,k,e,d=>by
  simp only[Kn];rw[BE r (k+1) _ (λj o f hj hd=>by have:=d (j+1) o f (by simpa using hj) hd;rwa [show k+(j+1)=k+1+j from by omega]at this)];split
  .rename_i h;unfold BO;rw[aL];intro hd;have:=d 0 o f rfl hd;simp_all
  .rfl
theorem BD {S:Nat->Bool} {t:Nat}:∀(l:Y (Oper×AA)) (k:Nat) (e:HF),(∀(j:Nat) o f,l[j]? =Z (o,f)->t∈f.wr->S (k+j)=aa)->Br S k l e t=e t
 |[],_,_,_=>rfl
 |(o,f)::r,k,e,d=>by
  simp only[Br];rw[BD r (k+1) _ (λj o f hj hd=>by have:=d (j+1) o f (by simpa using hj) hd;rwa [show k+(j+1)=k+1+j from by omega]at this)];split
  .rename_i h;unfold eF;rw[aL];intro hd;have:=d 0 o f rfl hd;simp_all
  .rfl
theorem O7 {S:Nat->Bool} {t:Nat}:∀(l:Y (Oper×AA)) (k i:Nat) (e:EF) (o:Oper) (f:AA),l[i]? =Z (o,f)->o.dst=Z t->S (k+i)=M->
 (∀(j:Nat) o' f',i<j->l[j]? =Z (o',f')->o'.dst=Z t->S (k+j)=aa)->Kn S k l e t=Z f.val
 |[],_,_,_,_,_,h,_,_,_=>by simp at h
 |(o',f')::r,k,0,e,o,f,h,hd,d,hl=>by
  simp only[lG,af,aC]at h;obtain⟨rfl,rfl⟩:=h;simp only[Kn];rw[BE r (k+1) _ (λj o f hj hd=>by have:=hl (j+1) o f (by omega) (by simpa using hj) hd;rwa [show k+(j+1)=k+1+j from by omega]at this)];simp at d;simp[d,BO,hd]
 |(o',f')::r,k,i+1,e,o,f,h,hd,d,hl=>by
  simp only[Kn];exact O7 r (k+1) i _ o f (by simpa using h) hd (by rwa [show k+1+i=k+(i+1) from by omega])
   (λj o f hij hj hd=>by have:=hl (j+1) o f (by omega) (by simpa using hj) hd;rwa [show k+(j+1)=k+1+j from by omega]at this)
theorem O6 {S:Nat->Bool} {t:Nat}:∀(l:Y (Oper×AA)) (k i:Nat) (e:HF) (o:Oper) (f:AA),l[i]? =Z (o,f)->t∈f.wr->S (k+i)=M->
 (∀(j:Nat) o' f',i<j->l[j]? =Z (o',f')->t∈f'.wr->S (k+j)=aa)->Br S k l e t=f.nw t
 |[],_,_,_,_,_,h,_,_,_=>by simp at h
 |(o',f')::r,k,0,e,o,f,h,hd,d,hl=>by
  simp only[lG,af,aC]at h;obtain⟨rfl,rfl⟩:=h;simp only[Br];rw[BD r (k+1) _ (λj o f hj hd=>by have:=hl (j+1) o f (by omega) (by simpa using hj) hd;rwa [show k+(j+1)=k+1+j from by omega]at this)];simp at d;simp[d,eF,hd]
 |(o',f')::r,k,i+1,e,o,f,h,hd,d,hl=>by
  simp only[Br];exact O6 r (k+1) i _ o f (by simpa using h) hd (by rwa [show k+1+i=k+(i+1) from by omega])
   (λj o f hij hj hd=>by have:=hl (j+1) o f (by omega) (by simpa using hj) hd;rwa [show k+(j+1)=k+1+j from by omega]at this)
theorem za.step {P:Program} {ops:Array Oper}:∀{l:Y (Oper×AA)} {e e':EF} {h h':HF} (_:za P ops l e h e' h') (k i:Nat) (o:Oper) (f:AA),l[i]? =Z (o,f)->
 J4 P ops o f (Kn (λj=>decide (j<k+i)) k l e) (Br (λj=>decide (j<k+i)) k l h):=by
 intro l e e' h h' hc;induction hc with
 |nil=>intro k i o f hi;simp at hi
 |@cons o1 d r e e' h h' hs hr q=>
  intro k i o f hi;cases i with
  |zero=>
   simp only[lG,af,aC]at hi;obtain⟨rfl,rfl⟩:=hi;have e1:Kn (λj=>decide (j<k+0)) k ((o1,d)::r) e=e:=by
    funext t;rw[BE];intro j o f _ _;simp
   have e2:Br (λj=>decide (j<k+0)) k ((o1,d)::r) h=h:=by
    funext t;rw[BD];intro j o f _ _;simp
   rw[e1,e2];exact hs
  |succ i=>
   have:=q (k+1) i o f (by simpa using hi);simp only[Kn,Br];rw[show k+(i+1)=k+1+i from by omega];simpa[show k<k+1+i from by omega] using this
theorem za.final {P:Program} {ops:Array Oper}:∀{l:Y (Oper×AA)} {e e':EF} {h h':HF} (_:za P ops l e h e' h') (k:Nat) (S:Nat->Bool),(∀j,j<l.length->S (k+j)=M)->
 Kn S k l e=e'/\Br S k l h=h':=by
 intro l e e' h h' hc;induction hc with
 |nil=>intro k S _;exact⟨rfl,rfl⟩
 |@cons o1 s r e e' h h' hs hr q=>
  intro k S d;have h0:S k=M:=by simpa using d 0 (by simp)
  simp only[Kn,Br,h0,bE];exact q (k+1) S (λj hj=>by have:=d (j+1) (by simpa using hj);rwa [show k+(j+1)=k+1+j from by omega]at this)
theorem OY {P:Program} {o:Oper} {a:Act} {w:World} {K K':Act->World->Prop} {Q:Exit->Act->World->Prop} (h:∀a w,K a w->K' a w)
 (hh:o.wp P a w K (λ_ _ _=>False)):o.wp P a w K' Q:=by
 unfold G0 at*
 generalize (execOp a.eval o).run P w=r at*
 cases r with
 |ok n w'=>
  cases n<;>simp only[Oper.upon]at hh ⊢<;>
   first
    |exact h _ _ hh
    |exact Calls.mono hh (λe w'' he=>by
      cases e with
      |returned v=>exact h _ _ he
      |panicked c=>exact he.elim
      |outgrown=>obtain⟨_,_,h⟩:=he;exact h.elim)
    |exact Rows.mono hh (λ_ _ he=>h _ _ he)
 |halt x w'=>cases x<;>simp only[Oper.upon]at hh ⊢<;>first|exact hh.elim|exact hh
inductive Bef (ops:Array Oper):Nat->Nat->Prop
 |one {j:Nat} {o:Oper} {e:Edge} (h:ops[j]? =Z o) (he:e∈o.after) (hb:zd .any e=M):Bef ops j e.on
 |more {j i:Nat} {o:Oper} {e:Edge} (h:ops[j]? =Z o) (he:e∈o.after) (hb:zd .any e=M) (hi:Bef ops e.on i):Bef ops j i
structure NIP (ops:Array Oper) (l:List (Oper×AA)):Prop where
 edge:∀(j:Nat) o,ops[j]? =Z o->∀e∈o.after,zd .any e=M->e.on<j
 pair:∀(i j:Nat) oi fi oj fj,i<j->l[i]? =Z (oi,fi)->l[j]? =Z (oj,fj)->Bef ops j i\/
  (oi.apart ops oj=M/\(∀x∈fi.wr,x∉fj.rd/\x∉fj.wr)/\(∀x∈fj.wr,x∉fi.rd))
 names:∀(i j:Nat) oi fi oj fj,i<j->l[i]? =Z (oi,fi)->l[j]? =Z (oj,fj)->∀n∈fi.N,n∉fj.N
def Ev (ops:Array Oper) (listed:Array Bool):Prop:=∀(j:Nat) o,ops[j]? =Z o->listed.getD j aa=M->∀e∈o.after,zd .any e=M->listed.getD e.on aa=M
theorem Ev.bef {ops:Array Oper} {listed:Array Bool} (hc:Ev ops listed) {j i:Nat} (h:Bef ops j i):listed.getD j aa=M->listed.getD i aa=M:=by
 induction h with
 |one h he hb=>intro hj;exact hc _ _ h hj _ he hb
 |more h he hb hi d=>intro hj;exact d (hc _ _ h hj _ he hb)
theorem Wk {ops:Array Oper} {listed:Array Bool} (hc:Ev ops listed) {j i:Nat} {o:Oper} (d:ops[j]? =Z o) (hr:∀e∈o.after,zd .any e=M->listed.getD e.on aa=M) (h:Bef ops j i):listed.getD i aa=M:=by
 cases h with
 |one h he hb=>rw[h]at d;cases d;exact hr _ he hb
 |more h he hb hi=>rw[h]at d;cases d;exact hc.bef hi (hr _ he hb)
theorem sr {listed:Array Bool} {j:Nat} (h:listed.getD j M=aa):listed.getD j aa=aa/\j<listed.size:=by
 rcases bM j listed.size with h1|h1
 .simp[h1]at h ⊢;exact h
 .simp[Array.getElem?_eq_none h1]at h
def StP (φ0:PM) (E:Nat->Prop) (e0:EF) (h0:HF) (w0:World) (a0:Act) (l:Y (Oper×AA)) (S:Nat->Bool) (a:Act) (w:World):Prop:=
 ∃φ,iW φ0 φ h0 (Br S 0 l h0) w0 w/\(∀i k,φ i=Z k->φ0 i=Z k\/∃(j:Nat) (o:Oper) (f:AA),S j=M/\l[j]? =Z (o,f)/\i∈f.N)/\
  qO φ E (Br S 0 l h0) w/\MW φ (tot E φ (Br S 0 l h0)) w (Kn S 0 l e0) a/\a.defers=a0.defers/\a.tmps.size=a0.tmps.size
theorem HG {a:Act} {dst:J Tmp} {v:Value} {t:Nat} (hd:∀d,dst=Z d->d<a.tmps.size):(a.put dst v).tmps.getD t undef=if dst=Z t then v else a.tmps.getD t undef:=by
 cases dst with
 |none=>simp[M2]
 |some d=>
  by_cases h:d=t
  .subst h;simp[M2,hd d rfl]
  .simp[M2,h,pP h]
theorem Pp {a:Act} {dst:J Tmp} {v:Value}:(a.put dst v).tmps.size=a.tmps.size:=by cases dst<;>simp[M2]
theorem HH {a:Act} {dst:J Tmp} {v:Value}:(a.put dst v).defers=a.defers:=by cases dst<;>rfl
theorem YT {P:Program} {ops:Array Oper} {l:Y (Oper×AA)} {e0 e':EF} {h0 h':HF} {φ0:PM} {E:Nat->Prop} {w0:World} {a0:Act}
 (hl:l.map (·.1)=ops.toList) (hc:za P ops l e0 h0 e' h') (ni:NIP ops l) (hfr:∀(j:Nat) o f,l[j]? =Z (o,f)->∀n∈f.N,φ0 n=U)
 (hsz:∀(j:Nat) o,ops[j]? =Z o->∀d,o.dst=Z d->d<a0.tmps.size) {listed:Array Bool} (hcl:Ev ops listed) {i:Nat} (hi:i∈GY .any ops listed) {Q:Exit->Act->World->Prop} {K:Act->World->Prop}
 (hK:∀a w,StP φ0 E e0 h0 w0 a0 l (λj=>(listed.setIfInBounds i M).getD j aa) a w->K a w) {a:Act} {w:World} (hst:StP φ0 E e0 h0 w0 a0 l (λj=>listed.getD j aa) a w):
 wpOp P ops Q i K a w:=by
 obtain⟨hun,o,ho,hdeps⟩:=mem_ready.1 hi;obtain⟨hnf,hlt⟩:=sr hun;have hln:∀(j:Nat) o',ops[j]? =Z o'->∃f,l[j]? =Z (o',f):=λj o' h=>by
  have h1:(l.map (·.1))[j]? =Z o':=by rw[hl];simpa using h
  rw[bi]at h1;cases hj:l[j]? with
  |none=>rw[hj]at h1;cases h1
  |some p=>rw[hj]at h1;obtain⟨a,b⟩:=p;simp at h1;subst h1;exact⟨b,rfl⟩
 have hnl:∀(j:Nat) o' f,l[j]? =Z (o',f)->ops[j]? =Z o':=λj o' f h=>by
  have h1:(l.map (·.1))[j]? =Z o':=by rw[bi,h];rfl
  rw[hl]at h1;simpa using h1
 obtain⟨f,hf⟩:=hln i o ho;have hord:∀(j:Nat) oj fj,j≠i->l[j]? =Z (oj,fj)->(listed.getD j aa=decide (j<i))\/
  (o.apart ops oj=M\/oj.apart ops o=M)/\(∀x∈f.wr,x∉fj.rd/\x∉fj.wr)/\(∀x∈fj.wr,x∉f.rd/\x∉f.wr):=by
  intro j oj fj hji hj;rcases bM j i with h|h
  .rcases ni.pair j i oj fj o f h hj hf with hb|⟨h1,h2,L⟩
   .left;rw[Wk hcl ho hdeps hb];simp[h]
   .right;exact⟨.inr h1,λx q=>⟨L x q,λD=>(h2 x D).2 q⟩,λx q=>h2 x q⟩
  .have h:i<j:=by omega
   rcases ni.pair i j o f oj fj h hf hj with hb|⟨h1,h2,L⟩
   .left;have:listed.getD j aa=aa:=by
     cases q:listed.getD j aa with
     |false=>rfl
     |true=>have:=hcl.bef hb q;rw[hnf]at this;cases this
    rw[this];simp;omega
   .right;exact⟨.inl h1,λx q=>h2 x q,λx q=>⟨L x q,λD=>(h2 x D).2 q⟩⟩
 have s:∀j,(listed.setIfInBounds i M).getD j aa=if j=i then M else listed.getD j aa:=λj=>by
  by_cases h:i=j
  .subst h;simp[hlt]
  .rw[getD_set_ne aa h,aL (λe=>h e.symm)]
 have hlater:∀(j:Nat) oj fj,i<j->l[j]? =Z (oj,fj)->(listed.getD j aa=aa)\/((o.apart ops oj=M\/oj.apart ops o=M)/\(∀x∈f.wr,x∉fj.rd/\x∉fj.wr)):=by
  intro j oj fj hij hj;rcases hord j oj fj (by omega) hj with h|⟨h1,h2,_⟩
  .left;rw[h];simp;omega
  .right;exact⟨h1,h2⟩
 have hdd:∀{x y:Oper},(x.apart ops y=M\/y.apart ops x=M)->∀d,x.dst=Z d->y.dst≠Z d:=by
  intro x y h d hd he;rcases h with h|h
  .exact (Oper.apart_spec h).2.1 d hd he
  .exact (Oper.apart_spec h).2.1 d he hd
 have hlook:∀{x y:Oper},(x.apart ops y=M\/y.apart ops x=M)->∀d,y.dst=Z d->d∉x.looksAt ops:=by
  intro x y h d hd;rcases h with h|h
  .exact (Oper.apart_spec h).2.2 d hd
  .exact (Oper.apart_spec h).1 d hd
 have heL:∀t,t∈o.looksAt ops->Kn (λj=>listed.getD j aa) 0 l e0 t=Kn (λj=>decide (j<0+i)) 0 l e0 t:=λt ht=>by
  refine Dl l 0 e0 e0 rfl λj oj fj hj hd=>?_
  simp only[bL];by_cases hji:j=i
  .subst hji;rw[hnf];simp
  .rcases hord j oj fj hji hj with h|⟨h,_⟩
   .exact h
   .exact dP ht (hlook h t hd)
 have hhL:∀t,t∈f.rd\/t∈f.wr->Br (λj=>listed.getD j aa) 0 l h0 t=Br (λj=>decide (j<0+i)) 0 l h0 t:=λt ht=>by
  refine Dk l 0 h0 h0 rfl λj oj fj hj hd=>?_
  simp only[bL];by_cases hji:j=i
  .subst hji;rw[hnf];simp
  .rcases hord j oj fj hji hj with h|⟨_,_,h⟩
   .exact h
   .rcases ht with ht|ht
    .exact dP ht (h t hd).1
    .exact dP ht (h t hd).2
 have hE':∀t,Kn (λj=>(listed.setIfInBounds i M).getD j aa) 0 l e0 t=if o.dst=Z t then Z f.val else Kn (λj=>listed.getD j aa) 0 l e0 t:=λt=>by
  by_cases hd:o.dst=Z t
  .rw[aT hd];refine O7 l 0 i e0 o f hf hd (by simp[s]) λj o' f' hij hj A=>?_
   simp only[bL,s,aL (show ¬j=i by omega)];rcases hlater j o' f' hij hj with h|⟨h,_⟩
   .exact h
   .exact dP A (hdd h t hd)
  .rw[aL hd];refine Dl l 0 e0 e0 rfl λj oj fj hj A=>?_
   simp only[bL,s];rw[aL];intro hji;subst hji;rw[hf]at hj;cases hj;exact hd A
 have F:Br (λj=>(listed.setIfInBounds i M).getD j aa) 0 l h0=eF (Br (λj=>listed.getD j aa) 0 l h0) f.wr f.nw:=by
  funext t;unfold eF;by_cases hd:t∈f.wr
  .rw[aT hd];refine O6 l 0 i h0 o f hf hd (by simp[s]) λj o' f' hij hj A=>?_
   simp only[bL,s,aL (show ¬j=i by omega)];rcases hlater j o' f' hij hj with h|⟨_,h⟩
   .exact h
   .exact dP A (h t hd).2
  .rw[aL hd];refine Dk l 0 h0 h0 rfl λj oj fj hj A=>?_
   simp only[bL,s];rw[aL];intro hji;subst hji;rw[hf]at hj;cases hj;exact hd A
 obtain⟨φ,hm,hdom,hrep,henv,hdef,hsize⟩:=hst;have hfrN:∀n∈f.N,φ n=U:=λn hn=>by
  cases q:φ n with
  |none=>rfl
  |some k=>
   rcases hdom n k q with h|⟨j,oj,fj,hSj,hj,hnj⟩
   .rw[hfr i o f hf n hn]at h;cases h
   .have hji:j≠i:=by intro h;subst h;exact dP hSj (by simp only[hnf];simp)
    rcases bM j i with h|h
    .exact dP hn (ni.names j i oj fj o f h hj hf n hnj)
    .exact dP hnj (ni.names i j o f oj fj (by omega) hf hj n hn)
 have hdsz:∀d,o.dst=Z d->d<a.tmps.size:=λd hd=>by rw[hsize];exact hsz i o ho d hd
 have main:∀(v:Value) (φ':PM) (w':World),iW φ φ' (Br (λj=>listed.getD j aa) 0 l h0) (eF (Br (λj=>listed.getD j aa) 0 l h0) f.wr f.nw) w w'->
  (∀i k,φ' i=Z k->φ i=Z k\/i∈f.N)->qO φ' E (eF (Br (λj=>listed.getD j aa) 0 l h0) f.wr f.nw) w'->
  cH φ' (tot E φ' (eF (Br (λj=>listed.getD j aa) 0 l h0) f.wr f.nw)) w' f.val v->K (a.put o.dst v) w':=by
  intro v φ' w' m1 d1 r1 v1;refine hK _ _ ⟨φ',?_,?_,?_,?_,?_,?_⟩
  .rw[F];exact hm.trans m1
  .intro i' k h;rcases d1 i' k h with h|h
   .rcases hdom i' k h with h|⟨j,oj,fj,hSj,hj,hnj⟩
    .exact .inl h
    .refine .inr ⟨j,oj,fj,?_,hj,hnj⟩;show (listed.setIfInBounds i M).getD j aa=M;rw[s j];split
     .rfl
     .exact hSj
   .exact .inr ⟨i,o,f,(s i).trans (by simp),hf,h⟩
  .rw[F];exact r1
  .rw[F];intro t x q;rw[hE' t]at q;rw[HG hdsz];by_cases hd:o.dst=Z t
   .rw[aT hd]at q ⊢;cases q;exact v1
   .rw[aL hd]at q ⊢;exact m1.keep (henv t x q)
  .rw[HH];exact hdef
  .rw[Pp];exact hsize
 have hstep:=hc.step 0 i o f hf;have hrun:gB P o (Kn (λj=>decide (j<0+i)) 0 l e0) (Br (λj=>decide (j<0+i)) 0 l h0) f->o.wp P a w K Q:=by
  intro ht;refine OY ?_ (ht φ E (Br (λj=>listed.getD j aa) 0 l h0) w a (λt h=>hhL t (.inl h)) (λt h=>hhL t (.inr h)) ?_ hrep hfrN)
  .rintro a' w' ⟨v,φ',rfl,m1,d1,r1,v1⟩;exact main v φ' w' m1 d1 r1 v1
  .intro t ht' y hy;refine henv t y ?_;rw[heL t (jh _ (List.mem_filterMap.2 ⟨.tmp t,by simpa using ht',rfl⟩))];exact hy
 have hyield:∀(j t:Nat) (want b:Bool),o.guard=Z (j,want)->(ops[j]?).bind (·.dst)=Z t->Kn (λj=>decide (j<0+i)) 0 l e0 t=Z (.f (.raw (.bool b)))->iJ o (yielded ops a.tmps)=(b==want):=by
  intro j t want b hg hj he;rw[<- heL t (kx _ (by rw[hg];simp[hj]))]at he;have h1:=henv t _ he;have h2:a.tmps.getD t undef= .bool b:=by
   generalize I:a.tmps.getD t undef=z at h1;cases h1 with
   |f h=>cases h;rfl
  have L:a.tmps[t]? =Z (.bool b):=by
   rw[gD]at h2;cases I:a.tmps[t]? with
   |none=>rw[I]at h2;simp[undef]at h2
   |some z=>rw[I]at h2;simp at h2;rw[h2]
  unfold iJ yielded;rw[hg];simp[hj,L]
 unfold wpOp;simp only[ho];cases hstep with
 |run hg ht=>
  rw[aT (by unfold iJ;rw[hg])];exact .inl (hrun ht)
 |runG j t want hg hj he ht=>
  rw[aT (by rw[hyield j t want want hg hj he];simp)];exact .inl (hrun ht)
 |skip j t want hg hj v he hv hf'=>
  have hnw:iJ o (yielded ops a.tmps)=aa:=by
   rw[<- heL t (kx _ (by rw[hg];simp[hj]))]at he;have h1:=henv t _ he;have h2:a.tmps.getD t undef=v:=by
    generalize a.tmps.getD t undef=z at h1;cases h1 with
    |f h=>cases h;rfl
   unfold iJ yielded;rw[hg];simp only[hj,aD];rw[gD]at h2;cases I:a.tmps[t]? with
   |none=>simp
   |some z=>
    rw[I]at h2;simp at h2;subst h2;cases z<;>simp at hv ⊢;exact hv
  rw[aL (by rw[hnw];simp)];subst hf';have hu:eF (Br (λj=>listed.getD j aa) 0 l h0) rC.wr rC.nw=Br (λj=>listed.getD j aa) 0 l h0:=by
   funext t;simp[eF,rC]
  refine main undef φ w ?_ (λ_ _ h=>.inl h) ?_ ?_
  .rw[hu];exact iW.refl _ _ _
  .rw[hu];exact hrep
  .exact .f (.raw _)
theorem Xa {l:θ}:∀{i:Nat},l[i]? =Z aa->(l.set i M).countP id=l.countP id+1:=by
 induction l with
 |nil=>intro i h;simp at h
 |cons b l d=>
  intro i h;cases i with
  |zero=>simp at h;subst h;simp
  |succ i=>
   simp only[List.set_cons_succ,List.countP_cons];rw[d (by simpa using h)];omega
theorem OD {l:θ} (h:l.length<=l.countP id):∀(j:Nat),j<l.length->l[j]? =Z M:=by
 have h1:l.countP id=l.length:=Nat.le_antisymm List.countP_le_length h;rw[List.countP_eq_length]at h1;intro j hj;rw[ax hj];simpa using h1 _ (qF hj)
theorem UF {ops:Array Oper} {l:Y (Oper×AA)} (q:NIP ops l) {listed:Array Bool} (hs:listed.size=ops.size) (hr:GY .any ops listed=[]):
 ∀(n j:Nat),j<n->j<ops.size->listed.getD j aa=M:=by
 intro n;induction n with
 |zero=>intro j h;omega
 |succ n s=>
  intro j hj hjs;cases d:listed.getD j aa with
  |true=>rfl
  |false=>
   exfalso;have hmem:j∈GY .any ops listed:=by
    refine mem_ready.2 ⟨?_,ops[j],ib hjs,λe he hb=>?_⟩
    .have:j<listed.size:=by omega
     simp[this]at d ⊢;exact d
    .have h1:=q.edge j _ (ib hjs) e he hb;exact s e.on (by omega) (by omega)
   rw[hr]at hmem;cases hmem
theorem MP {P:Program} {ops:Array Oper} {l:Y (Oper×AA)} {e0 e':EF} {h0 h':HF} {φ0:PM} {E:Nat->Prop} {w0:World} {a0:Act}
 (hl:l.map (·.1)=ops.toList) (hc:za P ops l e0 h0 e' h') (s:NIP ops l) (hfr:∀(j:Nat) o f,l[j]? =Z (o,f)->∀n∈f.N,φ0 n=U)
 (hsz:∀(j:Nat) o,ops[j]? =Z o->∀d,o.dst=Z d->d<a0.tmps.size) {Q:Exit->Act->World->Prop}
 (A:∀a w,StP φ0 E e0 h0 w0 a0 l (λ_=>M) a w->Q .normal a w):
 ∀(fuel:Nat) (listed:Array Bool) (a:Act) (w:World),listed.size=ops.size->Ev ops listed->ops.size<=fuel+listed.toList.countP id->
  StP φ0 E e0 h0 w0 a0 l (λj=>listed.getD j aa) a w->wpAny P .any ops Q fuel listed a w:=by
 have hlen:l.length=ops.size:=by have:=iX ah hl;simpa using this
 have fin:∀(listed:Array Bool) (a:Act) (w:World),(∀j,j<ops.size->listed.getD j aa=M)->StP φ0 E e0 h0 w0 a0 l (λj=>listed.getD j aa) a w->Q .normal a w:=by
  intro listed a w hall hst;refine A a w ?_;have h1:=hc.final 0 (λj=>listed.getD j aa) (λj hj=>by simp only[bL];exact hall j (by omega));have h2:=hc.final 0 (λ_=>M) (λ_ _=>rfl);unfold StP at hst ⊢;rw[h1.1,h1.2]at hst;rw[h2.1,h2.2];obtain⟨φ,m,d,r⟩:=hst;refine ⟨φ,m,λi k h=>?_,r⟩;rcases d i k h with h|⟨j,o,f,_,hj,hn⟩
  .exact .inl h
  .exact .inr ⟨j,o,f,rfl,hj,hn⟩
 intro fuel;induction fuel with
 |zero=>
  intro listed a w hs hcl hcnt hst;have hall:∀j,j<ops.size->listed.getD j aa=M:=λj hj=>by
   have:=OD (l:=listed.toList) (by simp only[iq];omega) j (by simp only[iq];omega);rw[cq]at this;rw[gD,this];rfl
  refine ⟨?_,fin listed a w hall hst⟩;cases hr:GY .any ops listed with
  |nil=>rfl
  |cons i r=>
   have hi:i∈GY .any ops listed:=by rw[hr];simp
   obtain⟨hun,o,q,_⟩:=mem_ready.1 hi;have hnf:=(sr hun).1;rw[hall i (ct.1 q).1]at hnf;cases hnf
 |succ fuel z=>
  intro listed a w hs hcl hcnt hst;refine ⟨λhr=>fin listed a w (λj hj=>UF s hs hr (j+1) j (by omega) hj) hst,λi hi=>?_⟩;obtain⟨hun,o,q,hdeps⟩:=mem_ready.1 hi;obtain⟨hnf,hlt⟩:=sr hun;refine YT hl hc s hfr hsz hcl hi (λa' w' h=>z _ a' w' ?_ ?_ ?_ h) hst
  .simpa using hs
  .intro j oj hoj hj e he hb;by_cases hji:i=j
   .subst hji;rw[q]at hoj;cases hoj;exact getD_set_true (hdeps e he hb)
   .rw[getD_set_ne aa hji]at hj;exact getD_set_true (hcl j oj hoj hj e he hb)
  .have h1:listed.toList[i]? =Z aa:=by
    rw[cq,ib hlt];simp[hlt]at hnf;rw[hnf]
   rw[Array.toList_setIfInBounds,Xa h1];omega
def akz (φ0:PM) (E:Nat->Prop) (e':EF) (h0 h':HF) (N:ι) (w0:World) (a0:Act) (a:Act) (w:World):Prop:=
 ∃φ,iW φ0 φ h0 h' w0 w/\(∀i k,φ i=Z k->φ0 i=Z k\/i∈N)/\qO φ E h' w/\MW φ (tot E φ h') w e' a/\a.defers=a0.defers/\a.tmps.size=a0.tmps.size
theorem iW.drew {φ:PM} {h:HF} (w:World):iW φ φ h h w {w with drawn:=w.drawn+1}:=
 ⟨λ_ _ h=>h,⟨rfl,rfl,rfl,cF _,λ_ _ _=>rfl,λ_ _=>rfl⟩,λ_ _ h=>h⟩
theorem qO.moved {φ:PM} {E:Nat->Prop} {h:HF} {w w':World} (r:qO φ E h w) (m:iW φ φ h h w w') (hk:∀k,own φ h k->w'.heap[k]? =w.heap[k]?):qO φ E h w':=
 ⟨r.inj,λi b hb=>by
   obtain⟨k,h1,h2,o,q,d⟩:=r.at_ i b hb;exact⟨k,h1,h2,o,by rw[hk k ⟨i,b,hb,h1⟩];exact q,d.mono λ_ _ h=>m.keep h⟩,λk hk=>dz (r.el k hk) m.ext.size,
   λg cells hg=>m.keepF (r.gl g cells hg)⟩
theorem Po {P:Program} {ops:Array Oper} {l:Y (Oper×AA)} {e0 e':EF} {h0 h':HF} {φ0:PM} {E:Nat->Prop} {w0:World} {a0:Act} {id:Nat} {draw:Bool}
 (hm:P.follows .mixedOrders=M) (hl:l.map (·.1)=ops.toList) (hc:za P ops l e0 h0 e' h') (q:NIP ops l) (hfr:∀n∈l.flatMap (λp=>p.2.N),φ0 n=U)
 (hsz:∀(j:Nat) o,ops[j]? =Z o->∀d,o.dst=Z d->d<a0.tmps.size) (hrep:qO φ0 E h0 w0) (henv:MW φ0 (tot E φ0 h0) w0 e0 a0) {Q:Exit->Act->World->Prop}
 (D:∀a w,akz φ0 E e' h0 h' (l.flatMap (λp=>p.2.N)) w0 a0 a w->Q .normal a w):(Code.region id ops draw).wp P Q a0 w0:=by
 have hfr':∀(j:Nat) o f,l[j]? =Z (o,f)->∀n∈f.N,φ0 n=U:=λj o f hj n hn=>hfr n (uq.2 ⟨(o,f),bh hj,hn⟩)
 have fin:∀a w,StP φ0 E e0 h0 w0 a0 l (λ_=>M) a w->Q .normal a w:=by
  rintro a w ⟨φ,m,d,r,en,F,sz⟩;have h2:=hc.final 0 (λ_=>M) (λ_ _=>rfl);rw[h2.2]at m r en;rw[h2.1]at en;refine D a w ⟨φ,m,λi k h=>?_,r,en,F,sz⟩;rcases d i k h with h|⟨j,o,f,_,hj,hn⟩
  .exact .inl h
  .exact .inr (uq.2 ⟨(o,f),bh hj,hn⟩)
 have st0:∀(w:World),iW φ0 φ0 h0 h0 w0 w->qO φ0 E h0 w->StP φ0 E e0 h0 w0 a0 l (λj=>(om ops.size aa).getD j aa) a0 w:=by
  intro w m r;have e1:(λj=>(om ops.size aa).getD j aa)=λ_=>aa:=by
   funext j;rw[gD,Array.getElem?_replicate];split<;>rfl
  rw[e1];have e2:Kn (λ_=>aa) 0 l e0=e0:=by funext t;rw[BE];intros;rfl
  have e3:Br (λ_=>aa) 0 l h0=h0:=by funext t;rw[BD];intros;rfl
  refine ⟨φ0,by rw[e3];exact m,λ_ _ h=>.inl h,by rw[e3];exact r,?_,rfl,rfl⟩;rw[e2,e3];exact λt x A=>m.keep (henv t x A)
 have cl0:Ev ops (om ops.size aa):=by
  intro j o I hj;rw[gD,Array.getElem?_replicate]at hj;split at hj<;>simp at hj
 cases draw with
 |true=>
  refine wp_region_any hm ?_;exact MP hl hc q hfr' hsz fin ops.size _ a0 _ (by simp) cl0 (by omega) (st0 _ (iW.drew w0) (hrep.moved (iW.drew w0) λ_ _=>rfl))
 |false=>
  have hany:=MP (E:=E) (w0:=w0) hl hc q hfr' hsz fin ops.size _ a0 w0 (by simp) cl0 (by omega) (st0 _ (iW.refl _ _ _) hrep);refine wp_region ?_;have key:∀(m k:Nat) (listed:Array Bool) (a:Act) (w:World),k+m=ops.size->listed.size=ops.size->(∀j,j<k->listed.getD j aa=M)->(∀j,k<=j->j<ops.size->listed.getD j M=aa)->
   wpAny P .any ops Q m listed a w->wpOps P ops Q (List.range' k m) a w:=by
   intro m;induction m with
   |zero=>intro k listed a w hk hs h1 h2 h;simpa[wpOps] using h.2
   |succ m z=>
    intro k listed a w hk hs h1 h2 h;rw[List.range'_succ,wpOps_cons];have hkr:k∈GY .any ops listed:=by
     refine mem_ready.2 ⟨h2 k (cF _) (by omega),ops[k]'(by omega),ib (by omega),λe he hb=>?_⟩;exact h1 _ (q.edge k _ (ib (by omega)) e he hb)
    refine wpOp_mono (λa' w' h'=>z (k+1) (listed.setIfInBounds k M) a' w' (by omega) (by simpa using hs) ?_ ?_ h') (h.2 k hkr)
    .intro j hj;by_cases hjk:k=j
     .subst hjk;simp[show k<listed.size by omega]
     .rw[getD_set_ne aa hjk];exact h1 j (by omega)
    .intro j hj s;rw[getD_set_ne M (by omega)];exact h2 j (by omega) s
  have:=key ops.size 0 (om ops.size aa) a0 w0 (by omega) (by simp) (by intro j hj;omega) (by
   intro j _ hj;rw[gD,Array.getElem?_replicate,aT hj];rfl) hany
  rwa [List.range_eq_range']
inductive PT (α:Type) where
 |leaf
 |node (v:Option α) (l r:PT α)
namespace PT
variable {α:Type}
def get:PT α->Nat->J α
 |leaf,_=>U
 |node v l r,n=>match n with
  |0=>v
  |m+1=>if aw (m%2) 0 then get l (m/2) else get r (m/2)
def Nf:Nat->PT α->Nat->J α->PT α
 |0,t,_,_=>t
 |k+1,t,n,x=>match t with
  |leaf=>(match n with
   |0=>node x leaf leaf
   |m+1=>if aw (m%2) 0 then node U (Nf k leaf (m/2) x) leaf else node U leaf (Nf k leaf (m/2) x))
  |node v l r=>(match n with
   |0=>node x l r
   |m+1=>if aw (m%2) 0 then node v (Nf k l (m/2) x) r else node v l (Nf k r (m/2) x))
def set (t:PT α) (n:Nat) (x:J α):PT α:=Nf (n+1) t n x
theorem yA:∀(k:Nat) (t:PT α) (n:Nat) (x:J α),n<k->∀i,(Nf k t n x).get i=if i=n then x else t.get i
 |0,_,_,_,h,_=>dP h (wa _)
 |k+1,t,n,x,h,i=>by
  cases n with
  |zero=>
   cases t<;>cases i<;>simp[Nf,get]
  |succ m=>
   have hm:m/2<k:=by have:=Nat.div_le_self m 2;omega
   cases t with
   |leaf=>
    simp only[Nf];cases hb:aw (m%2) 0 with
    |true=>
     have q:m%2=0:=au hb;simp only[bE];cases i with
     |zero=>simp[get]
     |succ j=>
      simp only[get];cases hj:aw (j%2) 0 with
      |true=>
       have d:j%2=0:=au hj;simp only[bE];rw[yA k _ _ _ hm];by_cases he:j/2=m/2
       .rw[aT he,aT (by omega)]
       .rw[aL he,aL (by omega)];rfl
      |false=>
       have d:¬j%2=0:=gY hj;simp only[bF,du];rw[aL (by omega)]
    |false=>
     have q:¬m%2=0:=gY hb;simp only[bF,du];cases i with
     |zero=>simp[get]
     |succ j=>
      simp only[get];cases hj:aw (j%2) 0 with
      |true=>
       have d:j%2=0:=au hj;simp only[bE];rw[aL (by omega)]
      |false=>
       have d:¬j%2=0:=gY hj;simp only[bF,du];rw[yA k _ _ _ hm];by_cases he:j/2=m/2
       .rw[aT he,aT (by omega)]
       .rw[aL he,aL (by omega)];rfl
   |node v l r=>
    simp only[Nf];cases hb:aw (m%2) 0 with
    |true=>
     have q:m%2=0:=au hb;simp only[bE];cases i with
     |zero=>simp[get]
     |succ j=>
      simp only[get];cases hj:aw (j%2) 0 with
      |true=>
       have d:j%2=0:=au hj;simp only[bE];rw[yA k _ _ _ hm];by_cases he:j/2=m/2
       .rw[aT he,aT (by omega)]
       .rw[aL he,aL (by omega)]
      |false=>
       have d:¬j%2=0:=gY hj;simp only[bF,du];rw[aL (by omega)]
    |false=>
     have q:¬m%2=0:=gY hb;simp only[bF,du];cases i with
     |zero=>simp[get]
     |succ j=>
      simp only[get];cases hj:aw (j%2) 0 with
      |true=>
       have d:j%2=0:=au hj;simp only[bE];rw[aL (by omega)]
      |false=>
       have d:¬j%2=0:=gY hj;simp only[bF,du];rw[yA k _ _ _ hm];by_cases he:j/2=m/2
       .rw[aT he,aT (by omega)]
       .rw[aL he,aL (by omega)]
theorem get_set (t:PT α) (n:Nat) (x:J α) (i:Nat):(t.set n x).get i=if i=n then x else t.get i:=yA (n+1) t n x (by omega) i
def mask {β:Type}:PT α->PT β->PT α
 |leaf,_=>leaf
 |node _ _ _,leaf=>leaf
 |node v l r,node u q d=>node (match u with|some _=>v|none=>U) (mask l q) (mask r d)
def mk:J α->PT α->PT α->PT α
 |none,leaf,leaf=>leaf
 |v,l,r=>node v l r
def only (m:Nat):Nat->Nat->PT α->PT α
 |_,_,leaf=>leaf
 |a,b,node v l r=>mk (if aO m b then v else U) (only m (2*a) (a+b) l) (only m (2*a) (2*a+b) r)
def exc (m:Nat):Nat->Nat->PT α->PT α
 |_,_,leaf=>leaf
 |a,b,node v l r=>mk (if aO m b then U else v) (exc m (2*a) (a+b) l) (exc m (2*a) (2*a+b) r)
def merge (m:Nat):Nat->Nat->PT α->PT α->PT α
 |a,b,leaf,t=>only m a b t
 |a,b,node v l r,leaf=>exc m a b (node v l r)
 |a,b,node v l r,node d s q=>mk (if aO m b then d else v) (merge m (2*a) (a+b) l s) (merge m (2*a) (2*a+b) r q)
def all (p:Nat->α->Bool):Nat->Nat->PT α->Bool
 |_,_,leaf=>M
 |a,b,node v l r=>(match v with|some x=>p b x|none=>M)&&all p (2*a) (a+b) l&&all p (2*a) (2*a+b) r
theorem get_all (p:Nat->α->Bool):∀(t:PT α) (a b i:Nat) (x:α),all p a b t=M->t.get i=Z x->p (a*i+b) x=M
 |leaf,_,_,_,_,_,h=>by simp[get]at h
 |node v l r,a,b,0,x,h,d=>by
  simp only[get]at d;subst d;simp only[all,ak]at h;rw[Nat.mul_zero,bL];exact h.1.1
 |node v l r,a,b,j+1,x,h,d=>by
  simp only[all,ak]at h;simp only[get]at d;cases hj:aw (j%2) 0 with
  |true=>
   have q:j%2=0:=au hj;simp only[hj,bE]at d;have key:=get_all p l _ _ _ x h.1.2 d;have:2*a*(j/2)+(a+b)=a*(j+1)+b:=by
    have e:j=2*(j/2):=by omega
    calc 2*a*(j/2)+(a+b)=a*(2*(j/2))+a+b:=by rw[G1 2 a,Nat.mul_assoc];omega
     _=a*(j+1)+b:=by rw[<- e,Nat.mul_add];omega
   rw[this]at key;exact key
  |false=>
   have q:¬j%2=0:=gY hj;simp only[hj,bF,du]at d;have key:=get_all p r _ _ _ x h.2 d;have:2*a*(j/2)+(2*a+b)=a*(j+1)+b:=by
    have e:j=2*(j/2)+1:=by omega
    have h2:a*(j+1)=a*(2*(j/2))+2*a:=by
     calc a*(j+1)=a*(2*(j/2)+2):=by rw[show j+1=2*(j/2)+2 from by omega]
      _=a*(2*(j/2))+2*a:=by rw[Nat.mul_add];omega
    have s:2*a*(j/2)=a*(2*(j/2)):=by rw[G1 2 a,Nat.mul_assoc]
    omega
   rw[this]at key;exact key
def dom:Nat->Nat->PT α->Nat->Nat
 |_,_,leaf,acc=>acc
 |a,b,node v l r,acc=>dom (2*a) (a+b) l (dom (2*a) (2*a+b) r (match v with|some _=>acc|||(1<<<b)|none=>acc))
def emp:PT α:=leaf
end PT
abbrev y_:=PT AV
abbrev nX:=PT u_
abbrev NW:=Y (Nat×u_)
def y_.put (e:y_):J Nat->AV->y_
 |none,_=>e
 |some d,x=>e.set d (Z x)
def jf:NW->HF
 |[],_=>U
 |(s,x)::r,t=>if aw s t then Z x else jf r t
theorem YL (e:y_) (d:J Nat) (x:AV):BO e.get d x=(e.put d x).get:=by
 funext t;cases d with
 |none=>simp[BO,y_.put]
 |some d=>
  simp only[BO,y_.put,PT.get_set,af];by_cases h:d=t
  .simp[h]
  .rw[aL h,aL (λe=>h e.symm)]
def Hl (acc:ι) (s:Nat) (e:Edge):Nat:=if zd .any e then (s|||2^e.on)|||acc.getD e.on 0 else s
def JS:Y Oper->ι->ι
 |[],acc=>acc
 |o::r,acc=>JS r (acc++[o.after.toList.foldl (Hl acc) 0])
theorem JT {ops:Array Oper} {o:Oper} {k:Nat} {acc:ι} (q:ops[k]? =Z o) (z:∀(j:Nat) B,acc[j]? =Z B->∀i,B.testBit i=M->Bef ops j i):
 ∀(es:Y Edge) (s:Nat),(∀e∈es,e∈o.after)->(∀i,s.testBit i=M->Bef ops k i)->∀i,(es.foldl (Hl acc) s).testBit i=M->Bef ops k i
 |[],s,_,hs,i,hi=>hs i hi
 |e::r,s,he,hs,i,hi=>by
  refine JT q z r (Hl acc s e) (λe' h'=>he e' (dk _ h')) (λi hi=>?_) i hi;unfold Hl at hi;split at hi
  .rename_i hb;rw[bw,bw,iQ,iQ]at hi;rcases hi with (hi|hi)|hi
   .exact hs i hi
   .rw[Nat.testBit_two_pow]at hi;have:e.on=i:=by simpa using hi
    subst this;exact .one q (he e (eo ..)) hb
   .refine .more q (he e (eo ..)) hb ?_;rw[ay]at hi;cases d:acc[e.on]? with
    |none=>rw[d]at hi;simp at hi
    |some C=>rw[d]at hi;exact z _ C d i hi
  .exact hs i hi
theorem MO {ops:Array Oper}:∀(rest:Y Oper) (acc:ι),(∀(j:Nat),∀o,rest[j]? =Z o->ops[acc.length+j]? =Z o)->
 (∀(j:Nat) B,acc[j]? =Z B->∀i,B.testBit i=M->Bef ops j i)->∀(j:Nat) B,(JS rest acc)[j]? =Z B->∀i,B.testBit i=M->Bef ops j i
 |[],acc,_,d=>d
 |o::r,acc,q,d=>by
  refine MO r _ (λj o' hj=>?_) ?_
  .rw[b6,cS,show acc.length+1+j=acc.length+(j+1) from by omega];exact q (j+1) o' (by simpa using hj)
  .intro j B hj i hi;rcases bM j acc.length with h|h
   .rw[bQ h]at hj;exact d j B hj i hi
   .rw[bX h]at hj;have s:j-acc.length=0:=by
     rcases rz (j-acc.length) with h0|h0
     .exact h0
     .rw[bJ (by simp;omega)]at hj;cases hj
    have hjl:j=acc.length:=by omega
    subst hjl;simp at hj;subst hj;have hoo:ops[acc.length]? =Z o:=by simpa using q 0 o rfl
    rw[<- Array.foldl_toList]at hi;exact JT hoo d _ 0 (λe he=>by simpa using he) (λi hi=>by simp at hi) i hi
inductive XL where
 |mv (x:Operand)
 |pick (c a b:Operand)
 |alloc (ty:TypeId) (z:ξ)
 |box (ty:TypeId) (x:Operand)
 |build (z:ξ) (parts:List (Nat×Nat×Operand))
 |bsl (ty:TypeId) (sz len:Nat) (z:ξ) (parts:List (Nat×Nat×Operand))
 |load (sz:Nat) (ag:Bool) (x:Operand)
 |store (sz:Nat) (x v:Operand)
 |nilc (x:Operand)
 |bin (op:BinOp) (x y:Operand)
 |eqs (neg:Bool) (ds:List TypeDesc) (x y:Operand)
 |isnil (neg:Bool) (x:Operand)
 |eqb (neg:Bool) (x y:Operand)
 |not (x:Operand)
 |conv (k:IntKind) (x:Operand)
 |mksl (ty:TypeId) (sz bytes:Nat) (z:ξ) (l c:Operand)
 |slc (sz:Nat) (x:Operand) (lo hi mx:Option Operand)
 |fad (off:Nat) (x:Operand)
 |fld (off sz:Nat) (ag:Bool) (x:Operand)
 |iad (sz:Nat) (x i:Operand)
 |iada (n sz:Nat) (x i:Operand)
 |idx (n sz:Nat) (ag:Bool) (x i:Operand)
 |ext (x:Operand) (i:Nat)
 |len (x:Operand)
 |lens (x:Operand)
 |lenm (x:Operand)
 |max (x y:Operand)
 |min (x y:Operand)
 |sidx (x i:Operand)
 |app (ty:TypeId) (sz bytes:Nat) (s x:Operand)
 |copy (sz:Nat) (d x:Operand)
 |clr (sz:Nat) (z:ξ) (x:Operand)
 |mkf (f:FuncId) (caps:List Operand)
 |mkm
 |lku (str ok:Bool) (z:Value) (x k:Operand)
 |mup (str:Bool) (x k v:Operand)
 |rng (x:Operand)
 |nxt (x:Operand)
 |bad
inductive SI where
 |op (s:XL)
 |call (f:FuncId) (args:List Operand)
 |callv (x:Operand) (args:List Operand)
def Wt (t:Nat):ι->Bool
 |[]=>aa
 |x::r=>aw x t||Wt t r
def JO:ξ->Bool
 |[]=>M
 |v::r=>v.oneCell'&&JO r
def Eg:Value->AV
 |.agg vs=>if JO vs.toList then .agg (vs.toList.map λv=>.f (.raw v)) else .f (.raw (.agg vs))
 |v=>.f (.raw v)
def mI (e:y_):Operand->J AV
 |.tmp t=>e.get t
 |.const v=>Z (Eg v)
 |.func g=>Z (.clo g [])
 |.global g=>match G g with|some cells=>Z (.f (.ptr cells 0))|none=>U
def Vw (e:y_):Y Operand->J (Y AV)
 |[]=>Z []
 |x::xs=>match mI e x with|some y=>(match Vw e xs with|some d=>Z (y::d)|none=>U)|none=>U
structure zZ where
 val:AV
 rd:ι
 wr:ι
 nw:NW
 N:ι
def zZ.eff (r:zZ):AA:=⟨r.val,r.rd,r.wr,jf r.nw,r.N⟩
def rv (x:AV):J zZ:=Z ⟨x,[],[],[],[]⟩
def raw (v:Value):AV:=.f (.raw v)
def pkV (ok:Bool) (v:AV) (b:Bool):AV:=match ok with|true=>.tup [v,raw (.bool b)]|false=>v
def wY:Y AV->J (Y FV)
 |[]=>Z []
 |.f x::r=>match wY r with|some l=>Z (x::l)|none=>U
 |_::_=>U
def oE (l:Y AV):BC:=match wY l with|some fs=>.fz fs|none=>.mx l
def L4 (l:Y AV):AV:=match wY l with|some fs=>.f (.agg fs)|none=>.agg l
def splice {α:Type} (l:Y α) (off:Nat) (vs:Y α):Y α:=l.take off++vs++l.drop (off+vs.length)
def BC.toMx:BC->Y AV
 |.fz l=>l.map .f
 |.mx l=>l
 |_=>[]
def gi:Y AV->Bool
 |[]=>M
 |x::r=>x.isCell&&gi r
def BC.put (c:BC) (off:Nat) (vs:Y AV):J BC:=
 if c.isCells&&dN (off+vs.length) c.len&&gi vs then
  match c,wY vs with
  |.fz l,Z d=>Z (.fz (splice l off d))
  |c,_=>Z (.mx (splice c.toMx off vs))
 else U
def BC.sub? (c:BC) (off sz:Nat):Bool->J AV
 |false=>match sz with|1=>c.get off|_=>U
 |true=>match c with
  |.fz l=>if dN (off+sz) l.length then Z (.f (.agg ((l.drop off).take sz))) else U
  |.mx l=>if dN (off+sz) l.length then Z (.agg ((l.drop off).take sz)) else U
  |_=>U
def AV.cs:AV->Y AV
 |.agg l=>l
 |.f (.agg l)=>l.map .f
 |x=>[x]
def C4 (h:nX) (sz:Nat) (ag:Bool):AV->J zZ
 |.ptr id off=>match h.get id with
  |some b=>(match b.c.sub? off sz ag with|some v=>Z ⟨v,[id],[],[],[]⟩|none=>U)
  |none=>U
 |.f (.ptr cells off)=>(match (BC.fz cells).sub? off sz ag with|some v=>rv v|none=>U)
 |_=>U
def JU (h:nX) (sz:Nat) (v:AV):AV->J zZ
 |.ptr id off=>match h.get id with
  |some b=>if v.cs.length==sz then (match b.c.put off v.cs with|some c=>Z ⟨raw undef,[id],[id],[(id,⟨b.ty,c⟩)],[]⟩|none=>U) else U
  |none=>U
 |_=>U
def yG (cells:Y AV) (e:y_):Y (Nat×Nat×Operand)->J (Y AV)
 |[]=>Z cells
 |(off,sz,x)::r=>match mI e x with
  |some v=>if v.cs.length==sz&&dN (off+sz) cells.length&&gi v.cs then yG (splice cells off v.cs) e r else U
  |none=>U
def cP (a b:Int):Bool:=decide (a<=b)
def fK (a b:Int):Bool:=decide (a<b)
def LJ (k:IntKind) (n:Int):Int:=
 match k with
 |.i64=>if cP (-9223372036854775808) n&&cP n 9223372036854775807 then n else oQ .i64 n
 |.u8=>if cP 0 n&&cP n 255 then n else oQ .u8 n
 |k=>oQ k n
def nok:Int->Bool
 |.ofNat k=>aw k k
 |.negSucc k=>aw k k
theorem aik (n:Int):nok n=M:=by cases n<;>exact rA _
def a9 (k:IntKind) (n:Int):Int:=bif nok n then LJ k n else 0
theorem G3 (k:IntKind) (n:Int):a9 k n=LJ k n:=by unfold a9;rw[aik];rfl
def rQ (a b:ByteArray):Bool:=a.data.toList==b.data.toList
def sY (op:BinOp):Value->Value->J Value
 |.int k a,.int k' b=>if k==k' then
   match op with
   |.add=>Z (.int k (a9 k (a+b)))
   |.sub=>Z (.int k (a9 k (a-b)))
   |.mul=>Z (.int k (a9 k (a*b)))
   |.rem=>if b==0 then U else Z (.int k (a.tmod b))
   |.quo=>if b==0 then U else Z (.int k (a9 k (a.tdiv b)))
   |.eql=>Z (.bool (a==b))
   |.neq=>Z (.bool (a !=b))
   |.lss=>Z (.bool (fK a b))
   |.leq=>Z (.bool (cP a b))
   |.gtr=>Z (.bool (fK b a))
   |.geq=>Z (.bool (cP b a))
   |_=>U
  else U
 |.string a,.string b=>match op with
   |.eql=>Z (.bool (rQ a b))
   |.neq=>Z (.bool !(rQ a b))
   |_=>U
 |_,_=>U
def wM:TypeDesc->FV->FV->J Bool
 |.int _,.raw (.int k a),.raw (.int k' b)=>if k==k' then Z (a==b) else U
 |.bool,.raw (.bool a),.raw (.bool b)=>Z (a==b)
 |.string,.raw (.string a),.raw (.string b)=>Z (rQ a b)
 |_,_,_=>U
def o9:Y TypeDesc->Y FV->Y FV->J Bool
 |[],[],[]=>Z M
 |d::ds,x::xs,y::q=>match wM d x y with
  |some M=>o9 ds xs q
  |some aa=>Z aa
  |none=>U
 |_,_,_=>U
def AV.row? (h:nX) (sz:Nat):AV->J (Y AV×Nat×ι)
 |.f (.sl cells n)=>if dN (n*sz) cells.length then Z ((cells.take (n*sz)).map .f,n,[]) else U
 |.f (.raw (.slice U 0 0))=>Z ([],0,[])
 |.emp=>Z ([],0,[])
 |.row id sz' n=>if sz'==sz then (match h.get id with|some b=>if b.c.isCells&&dN (n*sz) b.c.len then Z (b.c.toMx.take (n*sz),n,[id]) else U|none=>U) else U
 |.sl id off n=>match h.get id with|some b=>if b.c.isCells&&dN (off+n*sz) b.c.len then Z ((b.c.toMx.drop off).take (n*sz),n,[id]) else U|none=>U
 |_=>U
def AV.slen:AV->J Nat
 |.f (.sl _ n)=>Z n
 |.f (.raw (.slice _ n _))=>Z n
 |.emp=>Z 0
 |.row _ _ n=>Z n
 |.sl _ _ n=>Z n
 |_=>U
def bc (n bytes:Nat):Bool:=dN n 1099511627776&&dN (n*bytes) 1099511627776
def repl (z:ξ):Nat->Y FV
 |0=>[]
 |n+1=>z.map .raw++repl z n
def sV:Value->Bool
 |.slice U 0 0=>M
 |_=>aa
def Ih:AV->Bool
 |.emp=>M
 |.f (.raw v)=>sV v
 |_=>aa
def sT (k:Value):Y (Value×AV)->J (J AV)
 |[]=>Z U
 |(k',v)::r=>match sY .eql k k' with
  |some (.bool M)=>Z (Z v)
  |some (.bool aa)=>sT k r
  |_=>U
def ym (k:Value) (v:AV):Y (Value×AV)->J (Y (Value×AV))
 |[]=>Z [(k,v)]
 |(k',d)::r=>match sY .eql k k' with
  |some (.bool M)=>Z ((k,v)::r)
  |some (.bool aa)=>(match ym k v r with|some q=>Z ((k',d)::q)|none=>U)
  |_=>U
def told (n:Int):Y (Value×AV)->J AV
 |(.int .i64 k,v)::r=>if k=n then Z v else told n r
 |_=>U
def lI (n:Int) (y:AV):Y (Value×AV)->Y (Value×AV)
 |[]=>[]
 |p::r=>(p.1,match p.1 with|.int .i64 k=>if k=n then y else p.2|_=>p.2)::lI n y r
def yp:Bool->Value->Bool
 |false,.int _ _=>M
 |true,.string _=>M
 |_,_=>aa
def rnA (b:UInt8) (s:ByteArray) (p:Nat):Int:=bif eS b.toNat 128 then b.toNat else (xJ s p).1
def wdA (b:UInt8) (s:ByteArray) (p:Nat):Nat:=bif eS b.toNat 128 then 1 else (xJ s p).2
def ef (s:XL) (e:y_) (h:nX) (nx:Nat):J zZ:=
 match s with
 |.mv x=>match mI e x with|some v=>rv v|none=>U
 |.pick c a b=>match mI e c with
  |some (.f (.raw (.bool t)))=>(match mI e (if t then a else b) with|some v=>rv v|none=>U)
  |_=>U
 |.alloc ty z=>Z ⟨.ptr nx 0,[],[nx],[(nx,⟨ty,.fz (z.map .raw)⟩)],[nx]⟩
 |.box ty x=>match mI e x with
  |some v=>if gi v.cs then Z ⟨.ptr nx 0,[],[nx],[(nx,⟨ty,oE v.cs⟩)],[nx]⟩ else U
  |none=>U
 |.build z parts=>match yG (z.map raw) e parts with|some cs=>rv (L4 cs)|none=>U
 |.bsl ty sz len z parts=>match yG ((repl z len).map .f) e parts with
  |some cs=>Z ⟨if len=0 then .emp else .row nx sz len,[],[nx],[(nx,⟨ty,oE cs⟩)],[nx]⟩
  |none=>U
 |.load sz ag x=>match mI e x with|some p=>C4 h sz ag p|none=>U
 |.store sz x v=>match mI e x,mI e v with|some p,Z y=>JU h sz y p|_,_=>U
 |.nilc x=>match mI e x with
  |some (.ptr id off)=>rv (.ptr id off)
  |some (.f (.ptr cells off))=>rv (.f (.ptr cells off))
  |some (.clo g cap)=>rv (.clo g cap)
  |_=>U
 |.bin op x y=>match mI e x,mI e y with
  |some (.f (.raw u)),Z (.f (.raw v))=>(match sY op u v with|some r=>rv (raw r)|none=>U)
  |_,_=>U
 |.eqs neg ds x y=>match mI e x,mI e y with
  |some (.f (.agg a)),Z (.f (.agg b))=>(match o9 ds a b with|some r=>rv (raw (.bool (r !=neg)))|none=>U)
  |_,_=>U
 |.eqb neg x y=>match mI e x,mI e y with
  |some (.f (.raw (.bool a))),Z (.f (.raw (.bool b)))=>rv (raw (.bool ((a==b) !=neg)))
  |_,_=>U
 |.isnil neg x=>match mI e x with
  |some (.row _ _ _)=>rv (raw (.bool neg))
  |some (.sl _ _ _)=>rv (raw (.bool neg))
  |some (.f (.sl _ (_+1)))=>rv (raw (.bool neg))
  |some (.f (.sl _ 0))=>rv .anyb
  |some .emp=>rv .anyb
  |some (.f (.raw v))=>if sV v then rv (raw (.bool !neg)) else U
  |_=>U
 |.not x=>match mI e x with|some (.f (.raw (.bool b)))=>rv (raw (.bool !b))|_=>U
 |.conv k x=>match mI e x with|some (.f (.raw (.int _ n)))=>rv (raw (.int k (a9 k n)))|_=>U
 |.mksl ty sz bytes z l c=>match mI e l,mI e c with
  |some (.f (.raw (.int _ a))),Z (.f (.raw (.int _ b)))=>
   if cP 0 a&&cP a b&&bc b.toNat bytes then Z ⟨.row nx sz a.toNat,[],[nx],[(nx,⟨ty,.fz (repl z a.toNat)⟩)],[nx]⟩ else U
  |_,_=>U
 |.slc sz x lo hi mx=>match mI e x with
  |some v=>match lo,hi,mx with
   |none,Z (.const (.int _ 0)),Z (.const (.int _ 0))=>if v.slen.isSome then rv .emp else U
   |none,Z b,U=>match v,mI e b with
    |.row id sz' n,Z (.f (.raw (.int _ j)))=>if sz'==sz&&cP 0 j&&cP j n then (match h.get id with
     |some blk=>if blk.c.isCells&&dN (n*sz) blk.c.len then Z ⟨.row nx sz j.toNat,[id],[nx,id],[(nx,⟨blk.ty,oE (blk.c.toMx.take (j.toNat*sz))⟩)],[nx]⟩ else U
     |none=>U) else U
    |.f (.sl cells n),Z (.f (.raw (.int _ j)))=>if cP 0 j&&cP j n&&dN (n*sz) cells.length then rv (.f (.sl (cells.take (j.toNat*sz)) j.toNat)) else U
    |_,_=>U
   |some b,U,U=>match v,mI e b with
    |.row id sz' n,Z (.f (.raw (.int _ j)))=>if sz'==sz&&cP 0 j&&fK j n then rv (.sl id (j.toNat*sz) (n-j.toNat)) else U
    |.f (.sl cells n),Z (.f (.raw (.int _ j)))=>if cP 0 j&&cP j n&&dN (n*sz) cells.length then rv (.f (.sl ((cells.drop (j.toNat*sz)).take ((n-j.toNat)*sz)) (n-j.toNat))) else U
    |_,_=>U
   |none,Z b,Z b'=>match v,mI e b,mI e b' with
    |.f (.sl cells n),Z (.f (.raw (.int _ j))),Z (.f (.raw (.int _ q)))=>if decide (j=q)&&cP 0 j&&cP j n&&dN (n*sz) cells.length then rv (.ful (cells.take (j.toNat*sz)) j.toNat) else U
    |_,_,_=>U
   |_,_,_=>U
  |none=>U
 |.fad off x=>match mI e x with
  |some (.ptr id o)=>rv (.ptr id (o+off))
  |some (.f (.ptr cells o))=>rv (.f (.ptr cells (o+off)))
  |_=>U
 |.fld off sz ag x=>match mI e x with
  |some (.agg l)=>(match (BC.mx l).sub? off sz ag with|some v=>rv v|none=>U)
  |some (.f (.agg l))=>(match (BC.fz l).sub? off sz ag with|some v=>rv v|none=>U)
  |_=>U
 |.iad sz x i=>match mI e x,mI e i with
  |some v,Z (.f (.raw (.int _ j)))=>match v with
   |.row id sz' n=>if sz'==sz&&cP 0 j&&fK j n then rv (.ptr id (j.toNat*sz)) else U
   |.sl id off n=>if cP 0 j&&fK j n then rv (.ptr id (off+j.toNat*sz)) else U
   |.f (.sl cells n)=>if cP 0 j&&fK j n then rv (.f (.ptr cells (j.toNat*sz))) else U
   |_=>U
  |_,_=>U
 |.iada n sz x i=>match mI e x,mI e i with
  |some v,Z (.f (.raw (.int _ j)))=>if cP 0 j&&fK j n then (match v with
   |.ptr id off=>rv (.ptr id (off+j.toNat*sz))
   |.f (.ptr cells off)=>rv (.f (.ptr cells (off+j.toNat*sz)))
   |_=>U) else U
  |_,_=>U
 |.idx n sz ag x i=>match mI e x,mI e i with
  |some v,Z (.f (.raw (.int _ j)))=>if cP 0 j&&fK j n then (match v with
   |.agg l=>(match (BC.mx l).sub? (j.toNat*sz) sz ag with|some v=>rv v|none=>U)
   |.f (.agg l)=>(match (BC.fz l).sub? (j.toNat*sz) sz ag with|some v=>rv v|none=>U)
   |_=>U) else U
  |_,_=>U
 |.ext x i=>match mI e x with|some (.tup l)=>(match l[i]? with|some v=>rv v|none=>U)|_=>U
 |.len x=>match mI e x with
  |some v=>(match v.slen with|some n=>rv (raw (.int .i64 n))|none=>U)
  |none=>U
 |.lens x=>match mI e x with
  |some (.f (.raw (.string s)))=>rv (raw (.int .i64 s.data.toList.length))
  |_=>U
 |.lenm x=>match mI e x with
  |some (.mp id)=>(match h.get id with|some ⟨0,.mp es⟩=>Z ⟨raw (.int .i64 es.length),[id],[],[],[]⟩|_=>U)
  |_=>U
 |.max x y=>match mI e x,mI e y with
  |some (.f (.raw (.int k a))),Z (.f (.raw (.int _ b)))=>rv (raw (.int k (if fK a b then b else a)))
  |_,_=>U
 |.min x y=>match mI e x,mI e y with
  |some (.f (.raw (.int k a))),Z (.f (.raw (.int _ b)))=>rv (raw (.int k (if fK b a then b else a)))
  |_,_=>U
 |.sidx x i=>match mI e x,mI e i with
  |some (.f (.raw (.string s))),Z (.f (.raw (.int _ j)))=>if cP 0 j then (match s.data.toList[j.toNat]? with|some b=>rv (raw (.int .u8 b.toNat))|none=>U) else U
  |_,_=>U
 |.app ty sz bytes s x=>match mI e s,mI e x with
  |some b,Z y=>match y.row? h sz with
   |some (src,m,rd)=>match b with
    |.row id sz' n=>match h.get id with
     |some blk=>if sz'==sz&& !(Wt id rd)&&blk.c.isCells&&dN (n*sz) blk.c.len&&blk.ty==ty&&bc (n+m) bytes then
       Z ⟨.row nx sz (n+m),id::rd,[nx,id],[(nx,⟨ty,oE (blk.c.toMx.take (n*sz)++src)⟩)],[nx]⟩ else U
     |none=>U
    |.ful cells n=>if dN (n*sz) cells.length&&bc (n+m) bytes then
      (if m==0 then Z ⟨.f (.sl cells n),rd,[],[],[]⟩ else Z ⟨.row nx sz (n+m),rd,[nx],[(nx,⟨ty,oE ((cells.take (n*sz)).map .f++src)⟩)],[nx]⟩) else U
    |b=>if Ih b&&bc m bytes then
      (if m==0 then Z ⟨b,rd,[],[],[]⟩ else Z ⟨.row nx sz m,rd,[nx],[(nx,⟨ty,oE src⟩)],[nx]⟩) else U
   |none=>U
  |_,_=>U
 |.copy sz d x=>match mI e d,mI e x with
  |some (.row id sz' n),Z y=>(match h.get id,y.row? h sz with
   |some blk,Z (src,m,rd)=>if sz'==sz&& !(Wt id rd)&&dN (n*sz) blk.c.len then
     (match blk.c.put 0 (src.take (iO m n*sz)) with
     |some c=>Z ⟨raw (.int .i64 (iO m n)),id::rd,[id],[(id,⟨blk.ty,c⟩)],[]⟩
     |none=>U) else U
   |_,_=>U)
  |_,_=>U
 |.clr _ z x=>match mI e x with
  |some (.sl id off n)=>(match h.get id with
   |some blk=>if eS 0 n then (match blk.c.put off ((repl z n).map .f) with
    |some c=>Z ⟨.tup [],[id],[id],[(id,⟨blk.ty,c⟩)],[]⟩
    |none=>U) else U
   |none=>U)
  |_=>U
 |.mkf f caps=>match Vw e caps with|some l=>rv (.clo f l)|none=>U
 |.mkm=>Z ⟨.mp nx,[],[nx],[(nx,⟨0,.mp []⟩)],[nx]⟩
 |.lku str ok z x k=>match mI e x,mI e k with
  |some (.mp id),Z (.f (.raw key))=>(match h.get id with
   |some ⟨0,.mp es⟩=>if yp str key then (match sT key es with|some (Z v)=>Z ⟨pkV ok v M,[id],[],[],[]⟩|some U=>Z ⟨pkV ok (raw z) aa,[id],[],[],[]⟩|none=>U) else U
   |some ⟨_+1,.mp es⟩=>(match key with
    |.int .i64 n=>if !str&&(!ok&&sV z) then (match told n es with|some v=>Z ⟨v,[id],[],[],[]⟩|none=>U) else U
    |_=>U)
   |_=>U)
  |_,_=>U
 |.mup str x k v=>match mI e x,mI e k,mI e v with
  |some (.mp id),Z (.f (.raw key)),Z y=>(match h.get id with
   |some ⟨0,.mp es⟩=>if yp str key then (match ym key y es with|some es'=>Z ⟨raw undef,[id],[id],[(id,⟨0,.mp es'⟩)],[]⟩|none=>U) else U
   |some ⟨ty+1,.mp es⟩=>(match key with
    |.int .i64 n=>if str then U else Z ⟨raw undef,[id],[id],[(id,⟨ty+1,.mp (lI n y es)⟩)],[]⟩
    |_=>U)
   |_=>U)
  |_,_,_=>U
 |.rng x=>match mI e x with
  |some (.f (.raw (.string s)))=>Z ⟨.ptr nx 0,[],[nx],[(nx,⟨0,.it s 0⟩)],[nx]⟩
  |_=>U
 |.nxt x=>match mI e x with
  |some (.ptr id 0)=>(match h.get id with
   |some ⟨ty,.it s p⟩=>(match s.data.toList[p]? with
    |some b=>Z ⟨.tup [raw (.bool M),raw (.int .i64 p),raw (.int .i32 (rnA b s p))],[id],[id],[(id,⟨ty,.it s (p+wdA b s p)⟩)],[]⟩
    |none=>Z ⟨.tup [raw (.bool aa)],[id],[id],[(id,⟨ty,.it s p⟩)],[]⟩)
   |_=>U)
  |_=>U
 |.bad=>U
structure sj where
 dst:Option Nat
 op:SI
 guard:Option (Nat×Bool)
inductive SC where
 |skip
 |reg (ops:List sj) (prs:List (Nat×Nat))
 |seq (a b:SC)
 |cond (c:Nat) (a b:SC)
 |block (id:Nat) (b:SC)
 |loop (b:SC)
 |exit (id:Nat)
 |ret
 |defer (f:FuncId) (caps:List Operand) (t:Nat)
 |bad
structure aky where
 val:AV
 h:nX
 nx:Nat
 wr:Nat
abbrev Wb:=FuncId->Y AV->nX->Nat->J aky
mutual
def AV.ids:AV->Nat->Nat
 |.ptr id _,acc=>acc|||(1<<<id)
 |.sl id _ _,acc=>acc|||(1<<<id)
 |.row id _ _,acc=>acc|||(1<<<id)
 |.mp id,acc=>acc|||(1<<<id)
 |.agg l,acc=>AV.idsL l acc
 |.tup l,acc=>AV.idsL l acc
 |.clo _ l,acc=>AV.idsL l acc
 |.f _,acc=>acc
 |.emp,acc=>acc
 |.anyb,acc=>acc
 |.ful _ _,acc=>acc
def AV.idsL:Y AV->Nat->Nat
 |[],acc=>acc
 |x::r,acc=>AV.idsL r (AV.ids x acc)
end
mutual
def AV.all (p:Nat->Bool):AV->Bool
 |.ptr id _=>p id
 |.sl id _ _=>p id
 |.row id _ _=>p id
 |.mp id=>p id
 |.agg l=>AV.allL p l
 |.tup l=>AV.allL p l
 |.clo _ l=>AV.allL p l
 |.f _=>M
 |.emp=>M
 |.anyb=>M
 |.ful _ _=>M
def AV.allL (p:Nat->Bool):Y AV->Bool
 |[]=>M
 |x::r=>AV.all p x&&AV.allL p r
end
def BC.ids:BC->Nat->Nat
 |.mx l,acc=>AV.idsL l acc
 |.mp es,acc=>AV.idsL (es.map (·.2)) acc
 |_,acc=>acc
def BC.all (p:Nat->Bool):BC->Bool
 |.mx l=>AV.allL p l
 |.mp es=>AV.allL p (es.map (·.2))
 |_=>M
def nX.all (p:Nat->Bool) (h:nX):Bool:=PT.all (λi b=>p i&&b.c.all p) 1 0 h
def U_:Nat->nX->Nat->Nat->Nat
 |0,_,_,Kz=>Kz
 |n+1,h,todo,Kz=>
  if aw todo 0 then Kz else
  match Nat.log2 todo with
  |id=>if aO Kz id then U_ n h (todo ^^^ (1<<<id)) Kz else
   match h.get id with
   |some b=>U_ n h (b.c.ids (todo ^^^ (1<<<id))) (Kz|||(1<<<id))
   |none=>U_ n h (todo ^^^ (1<<<id)) Kz
section force
variable {α:Type}
def sv (n:Nat) (k:Nat->α):α:=match n with|0=>k 0|m+1=>k (m+1)
def frcI (n:Int) (k:Int->α):α:=match n with|.ofNat m=>sv m λm=>k (.ofNat m)|.negSucc m=>sv m λm=>k (.negSucc m)
def frcB (b:Bool) (k:Bool->α):α:=match b with|true=>k M|false=>k aa
def frcV (v:Value) (k:Value->α):α:=match v with
 |.int kd n=>frcI n λn=>k (.int kd n)
 |.bool b=>frcB b λb=>k (.bool b)
 |v=>k v
def ais (x:FV) (k:FV->α):α:=match x with
 |.raw v=>frcV v λv=>k (.raw v)
 |.ptr cells off=>sv off λoff=>k (.ptr cells off)
 |.sl cells n=>sv n λn=>k (.sl cells n)
 |.agg l=>k (.agg l)
def Zy:Y FV->(Y FV->α)->α
 |[],k=>k []
 |x::r,k=>ais x λx=>Zy r λr=>k (x::r)
def air (x:FV) (k:FV->α):α:=match x with
 |.agg l=>Zy l λl=>k (.agg l)
 |x=>ais x k
def ael (x:AV) (k:AV->α):α:=match x with
 |.f x=>air x λx=>k (.f x)
 |.ptr id off=>sv id λid=>sv off λoff=>k (.ptr id off)
 |.sl id off n=>sv id λid=>sv off λoff=>sv n λn=>k (.sl id off n)
 |.row id sz n=>sv id λid=>sv sz λsz=>sv n λn=>k (.row id sz n)
 |.mp id=>sv id λid=>k (.mp id)
 |x=>k x
def Qq:Y AV->(Y AV->α)->α
 |[],k=>k []
 |x::r,k=>ael x λx=>Qq r λr=>k (x::r)
def ait (x:AV) (k:AV->α):α:=match x with
 |.agg l=>Qq l λl=>k (.agg l)
 |.tup l=>Qq l λl=>k (.tup l)
 |.clo f l=>Qq l λl=>k (.clo f l)
 |x=>ael x k
def frcC (c:BC) (k:BC->α):α:=match c with
 |.fz l=>Zy l λl=>k (.fz l)
 |.mx l=>Qq l λl=>k (.mx l)
 |.it s p=>sv p λp=>k (.it s p)
 |.mp es=>k (.mp es)
def Qp {β:Type}:PT β->(PT β->α)->α
 |.leaf,k=>k .leaf
 |.node v l r,k=>(match v with
  |none=>λ(k:J β->α)=>k U
  |some x=>λk=>k (Z x)) λv=>Qp l λl=>Qp r λr=>k (.node v l r)
def SH {β:Type}:Nat->PT β->Nat->J β->(PT β->α)->α
 |0,t,_,_,k=>k t
 |f+1,t,n,x,k=>match t with
  |.leaf=>(match n with
   |0=>k (.node x .leaf .leaf)
   |m+1=>if aw (m%2) 0 then sv (m/2) λq=>SH f .leaf q x λu=>k (.node U u .leaf) else sv (m/2) λq=>SH f .leaf q x λu=>k (.node U .leaf u))
  |.node v l r=>(match n with
   |0=>k (.node x l r)
   |m+1=>if aw (m%2) 0 then sv (m/2) λq=>SH f l q x λu=>k (.node v u r) else sv (m/2) λq=>SH f r q x λu=>k (.node v l u))
theorem NU {β:Type}:∀(x:PT β) (k:PT β->α),Qp x k=k x
 |.leaf,_=>rfl
 |.node v l r,k=>by cases v<;>simp only[Qp,NU l,NU r]
end force
structure IS where
 e:y_
 h:nX
 nx:Nat
 wr:Nat
structure aey where
 val:AV
 rd:Nat
 wr:Nat
 h:nX
 nx:Nat
def bits:ι->Nat->Nat
 |[],acc=>acc
 |x::r,acc=>bits r (acc|||(1<<<x))
def afa {α:Type} (h:nX) (nw:NW):ι->(nX->α)->α
 |[],k=>k h
 |i::r,k=>match jf nw i with
  |none=>SH (i+1) h i U λh=>afa h nw r k
  |some ⟨ty,c⟩=>frcC c λc=>SH (i+1) h i (Z ⟨ty,c⟩) λh=>afa h nw r k
def aeo (call:Wb) (f:FuncId) (args:Y AV) (h:nX) (nx:Nat):J aey:=
 sv (U_ 1000000 h (AV.idsL args 0) 0) λids=>Qp (PT.only ids 1 0 h) λhc=>
 if AV.allL (eS · nx) args&&nX.all (eS · nx) hc then
  match call f args hc nx with
  |some ⟨val,h',nx',wr⟩=>ait val λval=>sv nx' λnx'=>sv wr λwr=>Qp (PT.merge wr 1 0 h h') λhm=>Z ⟨val,ids,wr,hm,nx'⟩
  |none=>U
 else U
def opA (call:Wb) (o:SI) (e:y_) (h:nX) (nx:Nat):J aey:=
 match o with
 |.call f args=>match Vw e args with|some l=>aeo call f l h nx|none=>U
 |.callv x args=>match mI e x,Vw e args with|some (.clo f cap),Z l=>aeo call f (l++cap) h nx|_,_=>U
 |.op o=>match ef o e h nx with
  |some ⟨val,rd,wr,nw,N⟩=>ait val λval=>sv (bits rd 0) λrd=>sv (bits wr 0) λd=>sv (nx+N.length) λnx'=>afa h nw wr λh=>Z ⟨val,rd,d,h,nx'⟩
  |none=>U
def ai8 (e:y_):J (Nat×Bool)->J Bool
 |none=>Z M
 |some (t,want)=>match e.get t with
  |some (.f (.raw (.bool b)))=>Z (b==want)
  |some (.f (.raw (.tuple _)))=>Z aa
  |_=>U
def afe {α:Type} (e:y_) (dst:J Nat) (v:AV) (k:y_->α):α:=match dst with
 |none=>k e
 |some d=>SH (d+1) e d (Z v) k
structure FPm where
 rd:Nat
 wr:Nat
def SM (call:Wb):Y sj->IS->J (IS×Y FPm)
 |[],s=>Z (s,[])
 |o::r,⟨e,h,nx,wr⟩=>
  match ai8 e o.guard with
  |some M=>(match opA call o.op e h nx with
   |some ⟨val,rd,w,h',nx'⟩=>afe e o.dst val λe'=>sv (wr|||w) λwr'=>(match SM call r ⟨e',h',nx',wr'⟩ with
    |some (s',fs)=>Z (s',⟨rd,w⟩::fs)
    |none=>U)
   |none=>U)
  |some aa=>afe e o.dst (raw undef) λe'=>(match SM call r ⟨e',h,nx,wr⟩ with
   |some (s',fs)=>Z (s',⟨0,0⟩::fs)
   |none=>U)
  |none=>U
def WR:Y FPm->Nat->J FPm
 |[],_=>U
 |f::_,0=>Z f
 |_::r,n+1=>WR r n
def CP (a b:Nat):Bool:=aw (a&&&b) 0
def EQ (fs:Y FPm):Y (Nat×Nat)->Bool
 |[]=>M
 |(i,j)::r=>(match WR fs i,WR fs j with
  |some a,Z b=>CP a.wr b.rd&&CP a.wr b.wr&&CP b.wr a.rd
  |_,_=>aa)&&EQ fs r
inductive Ex where
 |normal
 |exit (id:Nat)
 |ret
def aej (body:IS->J (Ex×IS)) (e0:y_):Nat->IS->J (Ex×IS)
 |0,_=>U
 |n+1,s=>match body s with
  |some (.normal,⟨e,h,nx,wr⟩)=>Qp (PT.mask e e0) λe=>aej body e0 n ⟨e,h,nx,wr⟩
  |r=>r
def run (call:Wb) (inert:FuncId->Bool) (fuel:Nat):SC->IS->J (Ex×IS)
 |.skip,s=>Z (.normal,s)
 |.reg ops prs,s=>match SM call ops s with
  |some (s',fs)=>if EQ fs prs then Z (.normal,s') else U
  |none=>U
 |.seq a b,s=>match run call inert fuel a s with
  |some (.normal,s')=>run call inert fuel b s'
  |r=>r
 |.cond c a b,s=>match s.e.get c with
  |some (.f (.raw (.bool M)))=>run call inert fuel a s
  |some (.f (.raw (.bool aa)))=>run call inert fuel b s
  |_=>U
 |.block id b,s=>match run call inert fuel b s with
  |some (.exit i,s')=>if aw i id then Z (.normal,s') else Z (.exit i,s')
  |r=>r
 |.loop b,s=>aej (run call inert fuel b) s.e fuel s
 |.exit id,s=>Z (.exit id,s)
 |.ret,s=>Z (.ret,s)
 |.defer f caps t,⟨e,h,nx,wr⟩=>match Vw e caps with
  |some l=>if inert f then afe e (Z t) (.clo f l) λe'=>Z (.normal,⟨e',h,nx,wr⟩) else U
  |none=>U
 |.bad,_=>U
inductive RV where
 |tmp (t:Nat)
 |cell (a:Nat) (sz:Nat) (ag:Bool)
structure SF where
 code:SC
 res:List RV
 nt:Nat
def Di:Y AV->AV
 |[x]=>x
 |l=>.tup l
def afx:Value->Value->Bool
 |.bool a,.bool b=>a==b
 |.int k a,.int k' b=>k==k'&&a==b
 |.string a,.string b=>rQ a b
 |.slice U n c,.slice U d c'=>aw n d&&aw c c'
 |.pointer U,.pointer U=>M
 |.tuple a,.tuple b=>a.isEmpty&&b.isEmpty
 |_,_=>aa
def fc (P:Program) (t:TypeId):J Nat:=(P.info? t).map (·.size)
def Ek (P:Program) (t:TypeId):J Nat:=(P.info? t).map (·.bytes)
def sF (P:Program) (t:TypeId):J ξ:=((P.info? t).bind (·.zero)).map (·.cells.toList)
def C5 (P:Program) (t:TypeId):J Bool:=(P.underlying t).map λ|.struct _=>M|.array _ _=>M|_=>aa
def Ae (P:Program) (t:TypeId):J TypeId:=match P.underlying t with|some (.slice e)=>Z e|_=>U
def AG (P:Program) (t:TypeId) (i:Nat):J (Nat×Nat):=match P.underlying t with
 |some (.struct fs)=>(fs[i]?).bind λf=>(fc P f.type).map (f.offset,·)
 |some (.array _ el)=>(fc P el).map λs=>(i*s,s)
 |some (.slice el)=>(fc P el).map λs=>(i*s,s)
 |_=>U
def wn (P:Program) (t:TypeId):Y (Nat×Operand)->J (Y (Nat×Nat×Operand))
 |[]=>Z []
 |(i,x)::r=>match AG P t i,wn P t r with|some (o,s),Z l=>Z ((o,s,x)::l)|_,_=>U
def mK (z:ξ):Bool:=z.all λv=>v.oneCell'
def HK:TypeDesc->Bool
 |.int _=>M
 |.bool=>M
 |.string=>M
 |_=>aa
def rD (P:Program):Nat→Y Field→J (Y TypeDesc)
 |_,[]=>Z []
 |k,f::r=>match P.underlying f.type,rD P (k+1) r with
  |some d,Z ds=>if f.name != "_" &&f.offset==k&&HK d then Z (d::ds) else U
  |_,_=>U
def YP (P:Program) (t:TypeId):J (Y TypeDesc):=match P.underlying t with
 |some (.struct fs)=>if P.stoodInHeld t then U else rD P 0 fs.toList
 |_=>U
def Rv (P:Program) (c:Call):J XL:=
 match c.callee with
 |.builtin .len=>(match c.args.toList,c.argTypes.toList with
  |[x],[t]=>(match P.underlying t with
   |some (.slice _)=>Z (.len x)
   |some .string=>Z (.lens x)
   |some (.map _ _)=>Z (.lenm x)
   |_=>U)
  |_,_=>U)
 |.builtin .max=>(match c.args.toList with
  |[x,y]=>Z (.max x y)
  |_=>U)
 |.builtin .min=>(match c.args.toList with
  |[x,y]=>Z (.min x y)
  |_=>U)
 |.builtin .copy=>(match c.args.toList,c.argTypes.toList with
  |[d,x],[t,u]=>(match Ae P t,Ae P u with
   |some el,Z _=>(fc P el).bind λsz=>if sz !=0 then Z (.copy sz d x) else U
   |_,_=>U)
  |_,_=>U)
 |.builtin .clear=>(match c.args.toList,c.argTypes.toList with
  |[x],[t]=>(Ae P t).bind λel=>(sF P el).bind λz=>(fc P el).bind λsz=>if mK z&&z.length==sz&&sz !=0 then Z (.clr sz z x) else U
  |_,_=>U)
 |.builtin .append=>(match c.args.toList,c.argTypes.toList with
  |[s,x],[t,u]=>(match Ae P t,Ae P u with
   |some el,Z _=>(fc P el).bind λsz=>(Ek P el).bind λb=>(sF P el).bind λz=>if sz !=0&&z.length==sz then Z (.app el sz b s x) else U
   |_,_=>U)
  |_,_=>U)
 |_=>U
def dq (P:Program):Op->J XL
 |.move x=>Z (.mv x)
 |.assign x=>Z (.mv x)
 |.pick c a b=>Z (.pick c a b)
 |.alloc t=>(sF P t).bind λz=>if mK z then Z (.alloc t z) else U
 |.box t x=>Z (.box t x)
 |.build t ps=>match P.underlying t with
  |some (.struct fs)=>(sF P t).bind λz=>if mK z&&(fs.toList.all λf=>(fc P f.type).isSome) then (wn P t ps.toList).map (.build z) else U
  |some (.array _ el)=>(sF P t).bind λz=>if mK z&&(fc P el).isSome then (wn P t ps.toList).map (.build z) else U
  |_=>U
 |.buildSlice t n ps=>(Ae P t).bind λel=>(sF P el).bind λz=>(fc P el).bind λsz=>if mK z&&z.length==sz&&dN (n*sz) 65536&&sz !=0 then (wn P t ps.toList).map (.bsl el sz n z) else U
 |.load t x=>(fc P t).bind λsz=>(C5 P t).map λag=>.load sz ag x
 |.store t x v=>(fc P t).map λsz=>.store sz x v
 |.nilCheck x=>Z (.nilc x)
 |.binOp op t x y _=>match P.underlying t with
  |some (.int _)|some .string=>Z (.bin op x y)
  |some .bool=>(match op with|.eql=>Z (.eqb aa x y)|.neq=>Z (.eqb M x y)|_=>U)
  |some (.slice _)=>(match op,y with
   |.eql,.const (.slice U 0 0)=>Z (.isnil aa x)
   |.neq,.const (.slice U 0 0)=>Z (.isnil M x)
   |_,_=>U)
  |some (.struct _)=>(YP P t).bind λds=>(match op with|.eql=>Z (.eqs aa ds x y)|.neq=>Z (.eqs M ds x y)|_=>U)
  |_=>U
 |.unOp .not _ x=>Z (.not x)
 |.unOp .neg t x=>match P.underlying t with|some (.int k)=>Z (.bin .sub (.const (.int k 0)) x)|_=>U
 |.convert s d x=>match P.underlying s,P.underlying d with|some (.int _),Z (.int k)=>Z (.conv k x)|_,_=>U
 |.makeSlice t l c=>(Ae P t).bind λel=>(sF P el).bind λz=>(fc P el).bind λsz=>(Ek P el).bind λb=>if mK z&&z.length==sz&&sz !=0 then Z (.mksl el sz b z l c) else U
 |.slice t x lo hi mx=>(Ae P t).bind λel=>(fc P el).map λsz=>.slc sz x lo hi mx
 |.fieldAddr t x k=>match P.underlying t with
  |some (.struct fs)=>(fs[k]?).bind λf=>(fc P f.type).bind λsz=>if sz !=0 then Z (.fad f.offset x) else U
  |_=>U
 |.field t x k=>match P.underlying t with
  |some (.struct fs)=>(fs[k]?).bind λf=>(fc P f.type).bind λsz=>(C5 P f.type).map λag=>.fld f.offset sz ag x
  |_=>U
 |.indexAddr t x i=>match P.underlying t with
  |some (.slice el)=>(fc P el).map λsz=>.iad sz x i
  |some (.array n el)=>(fc P el).map λsz=>.iada n sz x i
  |_=>U
 |.index t x i=>match P.underlying t with
  |some (.array n el)=>(fc P el).bind λsz=>(C5 P el).map λag=>.idx n sz ag x i
  |some .string=>Z (.sidx x i)
  |_=>U
 |.extract x i=>Z (.ext x i)
 |.makeFunc (.func f) first caps=>if first.isEmpty then Z (.mkf f caps.toList) else U
 |.makeMap t U=>match P.underlying t with|some (.map _ _)=>Z .mkm|_=>U
 |.lookup t x k ok=>match P.underlying t with
  |some (.map q el)=>(match P.underlying q,(P.info? el).bind (·.zero) with
   |some (.int _),Z z=>if z.oneCell' then Z (.lku aa ok z x k) else U
   |some .string,Z z=>if z.oneCell' then Z (.lku M ok z x k) else U
   |_,_=>U)
  |_=>U
 |.mapUpdate t m k v=>match P.underlying t with
  |some (.map q _)=>(match P.underlying q with
   |some (.int _)=>Z (.mup aa m k v)
   |some .string=>Z (.mup M m k v)
   |_=>U)
  |_=>U
 |.range t x=>match P.underlying t with|some .string=>Z (.rng x)|_=>U
 |.next x M=>Z (.nxt x)
 |.call c=>Rv P c
 |_=>U
def Ow:Op->J SI
 |.call c=>(match c.callee with
  |.value (.func f)=>Z (.call f c.args.toList)
  |.value (.tmp t)=>Z (.callv (.tmp t) c.args.toList)
  |_=>U)
 |_=>U
def xI (P:Program) (op:Op):SI:=match Ow op with
 |some i=>i
 |none=>(match dq P op with|some s=>.op s|none=>.op .bad)
def XL.still:XL->Bool
 |.mv _|.pick _ _ _|.build _ _|.nilc _|.bin _ _ _|.eqs _ _ _ _|.isnil _ _|.eqb _ _ _|.not _|.conv _ _|.fad _ _|.fld _ _ _ _|.iad _ _ _|.iada _ _ _ _|.idx _ _ _ _ _|.ext _ _|.max _ _|.min _ _|.sidx _ _|.mkf _ _|.bad=>M
 |_=>aa
def SI.still:SI->Bool
 |.op s=>s.still
 |_=>aa
def rP (P:Program) (ops:Array Oper):Y Oper->J (Y sj)
 |[]=>Z []
 |o::r=>match rP P ops r with
  |some l=>(match o.guard with
   |none=>Z (⟨o.dst,xI P o.op,U⟩::l)
   |some (j,want)=>(match (ops[j]?).bind (·.dst) with
    |some t=>Z (⟨o.dst,xI P o.op,Z (t,want)⟩::l)
    |none=>U))
  |none=>U
def LY (ops:Array Oper) (l:Y sj):J (Y (Nat×Nat)):=
 let B:=JS ops.toList []
 if (fm ops.size).all λj=>((ops[j]?).all λoj=>oj.after.toList.all λe=> !zd .any e||decide (e.on<j))&&
     (fm j).all λi=>aO (B.getD j 0) i||(match ops[i]?,ops[j]? with|some oi,Z oj=>oi.apart ops oj|_,_=>aa)
 then Z ((fm ops.size).flatMap λj=>(fm j).filterMap λi=>
  if aO (B.getD j 0) i||(match l[i]?,l[j]? with|some a,Z b=>a.op.still||b.op.still|_,_=>aa) then U else Z (i,j))
 else U
def CQ (ops:Array Oper) (d:Bool):J (FuncId×Y Operand×Nat):=match ops.toList,d with
 |[p,q],aa=>(match p.op,p.guard,p.dst,q.op,q.guard,q.dst with
  |.makeFunc (.func f) first caps,U,Z t,.defer c,U,U=>(match c.callee,c.args.toList with
   |.value (.tmp t'),[]=>if aw t t'&&first.isEmpty then Z (f,caps.toList,t) else U
   |_,_=>U)
  |_,_,_,_,_,_=>U)
 |_,_=>U
def co (P:Program) (nt:Nat):Code->SC
 |.skip=>.skip
 |.region _ ops q=>if ops.toList.all λo=>match o.dst with|some d=>decide (d<nt)|none=>M then
   (match CQ ops q with
   |some (f,caps,t)=>.defer f caps t
   |none=>(match rP P ops ops.toList with
    |some l=>(match LY ops l with|some prs=>.reg l prs|none=>.bad)
    |none=>.bad)) else .bad
 |.seq a b=>.seq (co P nt a) (co P nt b)
 |.cond (.tmp c) a b=>.cond c (co P nt a) (co P nt b)
 |.cond (.const (.bool M)) a _=>co P nt a
 |.cond (.const (.bool aa)) _ b=>co P nt b
 |.block id b=>.block id (co P nt b)
 |.loop b=>.loop (co P nt b)
 |.exit id=>.exit id
 |.ret=>.ret
 |_=>.bad
def uN (P:Program):Y ResultVar->J (Y RV)
 |[]=>Z []
 |.tmp t::r=>match uN P r with|some l=>Z (.tmp t::l)|none=>U
 |.cell a t::r=>match uN P r,fc P t,C5 P t with|some l,Z sz,Z ag=>Z (.cell a sz ag::l)|_,_,_=>U
def yU (P:Program) (f:FuncId):J SF:=
 match P.funcs[f]? with
 |some fn=>if fn.name== "runtime.NumGoroutine" then U else (match fn.body,uN P fn.results.toList with
  |some c,Z r=>Z ⟨co P fn.ntmps c,r,fn.ntmps⟩
  |_,_=>U)
 |none=>U
inductive Xp where
 |mk (op n:Int) (name:ζ) (l:List Xp)
inductive Sx where
 |mk (op line:Int) (name arg:ζ) (index:List Xp) (expr:Xp) (body els:List Sx)
def Xp.op:Xp->Int|.mk a _ _ _=>a
def Xp.n:Xp->Int|.mk _ a _ _=>a
def Xp.name:Xp->ζ|.mk _ _ a _=>a
def Xp.l:Xp->Y Xp|.mk _ _ _ a=>a
def Sx.op:Sx->Int|.mk a _ _ _ _ _ _ _=>a
def Sx.line:Sx->Int|.mk _ a _ _ _ _ _ _=>a
def Sx.name:Sx->ζ|.mk _ _ a _ _ _ _ _=>a
def Sx.arg:Sx->ζ|.mk _ _ _ a _ _ _ _=>a
def Sx.index:Sx->Y Xp|.mk _ _ _ _ a _ _ _=>a
def Sx.expr:Sx->Xp|.mk _ _ _ _ _ a _ _=>a
def Sx.body:Sx->Y Sx|.mk _ _ _ _ _ _ a _=>a
def Sx.els:Sx->Y Sx|.mk _ _ _ _ _ _ _ a=>a
inductive Ty where
 |int (k:IntKind)
 |bool
 |str
 |sl (t:Ty)
 |st (t:Ty)
 |pr (a b:Ty)
 |un
 |ex
 |sm
 deriving DecidableEq
@[reducible] def Ty.den:Ty->Type
  |.int _=>Int
  |.bool=>Bool
  |.str=>ζ
  |.sl t=>Y t.den
  |.st t=>t.den
  |.pr a b=>a.den×b.den
  |.un=>Unit
  |.ex=>Xp
  |.sm=>Sx
def Ty.size:Ty->Nat
 |.st t=>t.size
 |.pr a b=>a.size+b.size
 |.un=>0
 |.ex=>4
 |.sm=>11
 |_=>1
def Ty.zero:(t:Ty)->t.den
 |.int _=>(0:Int)
 |.bool=>aa
 |.str=>[]
 |.sl _=>[]
 |.st t=>t.zero
 |.pr a b=>(a.zero,b.zero)
 |.un=>()
 |.ex=>.mk 0 0 [] []
 |.sm=>.mk 0 0 [] [] [] (.mk 0 0 [] []) [] []
def Ty.one:Ty->Bool
 |.int _=>M
 |.bool=>M
 |.str=>M
 |.sl _=>M
 |_=>aa
def Mm:Ty:=.pr (.int .i64) (.pr (.int .i64) (.pr .str (.sl .ex)))
def LR:Ty:=.pr (.int .i64) (.pr (.int .i64) (.pr .str (.pr .str (.pr (.sl .ex) (.pr .ex (.pr (.sl .sm) (.sl .sm)))))))
def M4 (e:Xp):Mm.den:=(e.op,e.n,e.name,e.l)
def d8 (x:Mm.den):Xp:=.mk x.1 x.2.1 x.2.2.1 x.2.2.2
def M3 (e:Sx):LR.den:=(e.op,e.line,e.name,e.arg,e.index,e.expr,e.body,e.els)
def oD (x:LR.den):Sx:=.mk x.1 x.2.1 x.2.2.1 x.2.2.2.1 x.2.2.2.2.1 x.2.2.2.2.2.1 x.2.2.2.2.2.2.1 x.2.2.2.2.2.2.2
mutual
def vJ:Xp->Y FV
 |.mk op n name l=>[.raw (.int .i64 op),.raw (.int .i64 n),.raw (.string ⟨name.toArray⟩),.sl (I0 l) l.length]
def I0:Y Xp->Y FV
 |[]=>[]
 |x::r=>vJ x++I0 r
end
mutual
def xn:Sx->Y FV
 |.mk op line name arg index expr body els=>[.raw (.int .i64 op),.raw (.int .i64 line),.raw (.string ⟨name.toArray⟩),.raw (.string ⟨arg.toArray⟩),.sl (I0 index) index.length]++vJ expr++[.sl (IZ body) body.length,.sl (IZ els) els.length]
def IZ:Y Sx->Y FV
 |[]=>[]
 |x::r=>xn x++IZ r
end
def bP:(T:Ty)->T.den->Y FV
 |.int k,n=>[.raw (.int k n)]
 |.bool,b=>[.raw (.bool b)]
 |.str,s=>[.raw (.string ⟨s.toArray⟩)]
 |.sl t,xs=>[.sl (List.flatMap (bP t) xs) (ah xs)]
 |.st t,v=>bP t v
 |.pr a b,v=>bP a v.1++bP b v.2
 |.un,_=>[]
 |.ex,v=>vJ v
 |.sm,v=>xn v
def gh:(T:Ty)->T.den->FV
 |.int k,n=>.raw (.int k n)
 |.bool,b=>.raw (.bool b)
 |.str,s=>.raw (.string ⟨s.toArray⟩)
 |.sl t,xs=>.sl (List.flatMap (bP t) xs) (ah xs)
 |.st t,v=>.agg (bP t v)
 |.pr a b,v=>.agg (bP a v.1++bP b v.2)
 |.un,_=>.agg []
 |.ex,v=>.agg (vJ v)
 |.sm,v=>.agg (xn v)
def Mo:(T:Ty)->T.den->T.den->Bool
 |.int _,a,b=>decide ((a:Int)=b)
 |.bool,a,b=>(a:Bool)==b
 |.str,a,b=>decide ((a:ζ)=b)
 |.st t,a,b=>Mo t a b
 |.pr x y,a,b=>Mo x a.1 b.1&&Mo y a.2 b.2
 |_,_,_=>M
def sM {S:Ty} (T:Ty) (v:S.den):J T.den:=if h:S=T then Z (h▸v) else U
def e9 (j:Int) (n:Nat):Bool:=cP 0 j&&fK j n
def aG {T:Ty} (xs:Y T.den) (j:Int):T.den:=xs.getD j.toNat T.zero
def cj {α:Type} (xs:Y α) (j:Int) (x:α):Y α:=xs.set j.toNat x
def Sk {α:Type} (xs d:Y α):Y α:=d.take xs.length++xs.drop d.length
def lq (a b:Int):Int:=if fK a b then b else a
def F4 (a b:Int):Int:=if fK b a then b else a
def qJ (s:ζ) (j:Int):Int:=aU (s.getD j.toNat 0).toNat
def aF {R:Type} (b:Bool) (t f:J R):J R:=match b with|true=>t|false=>f
def chk {R:Type} (b:Bool) (k:b=M->J R):J R:=match b,k with|true,k=>k rfl|false,_=>U
open Classical in
def El {R:Type} (a b:J R):J R:=if a=b then a else U
open Classical in
def same {α R:Type} (a b:α) (r:J R):J R:=if a=b then r else U
def av {α R:Type} (o:J α) (k:α->J R):J R:=match o with|some x=>k x|none=>U
def lt {α R:Type} (x:α) (k:α->J R):J R:=k x
def jn {α R:Type} (o:J (R⊕α)) (k:α->J R):J R:=match o with|some (.inr x)=>k x|some (.inl r)=>Z r|none=>U
def iterN {σ R:Type} (step:σ->J (σ⊕R)):Nat->σ->J R
 |0,_=>U
 |n+1,x=>match step x with
  |some (.inl y)=>iterN step n y
  |some (.inr r)=>Z r
  |none=>U
open Classical in
def iter {σ R:Type} (step:σ->J (σ⊕R)) (x:σ):J R:=
 if h:∃n,(iterN step n x).isSome=M then iterN step (Classical.choose h) x else U
def fR {σ R:Type} (step:σ->J (σ⊕R)) (x:σ):J R:=iterN step 18446744073709551616 x
abbrev xT:Type 1:=∀σ R:Type,(σ->J (σ⊕R))->σ->J R
def lm {R:Type} (a b:J R):Prop:=∀y,a=Z y->b=Z y
theorem lm.rfl {R:Type} {a:J R}:lm a a:=λ_ h=>h
theorem lm.bcase {R:Type} {b:Bool} {t f t' f':J R} (h1:lm t t') (h2:lm f f'):lm (AI.aF b t f) (AI.aF b t' f'):=by cases b<;>assumption
theorem lm.chk {R:Type} {b:Bool} {k k':J R} (h:lm k k'):lm (AI.chk b λ_=>k) (AI.chk b λ_=>k'):=by
 cases b with
 |true=>exact h
 |false=>exact λ_ h=>by cases h
theorem lm.obind {α R:Type} {o o':J α} {k k':α->J R} (h:lm o o') (hk:∀x,lm (k x) (k' x)):lm (AI.av o k) (AI.av o' k'):=by
 intro y d;cases o with
 |none=>cases d
 |some x=>rw[h x (by exact Eq.refl _)];exact hk x y d
theorem lm.lt {α R:Type} {x:α} {k k':α->J R} (h:∀y,lm (k y) (k' y)):lm (AI.lt x k) (AI.lt x k'):=h x
theorem lm.jn {α R:Type} {o o':J (R⊕α)} {k k':α->J R} (h:lm o o') (hk:∀x,lm (k x) (k' x)):lm (AI.jn o k) (AI.jn o' k'):=by
 intro y d;cases o with
 |none=>cases d
 |some x=>
  rw[h x (by exact Eq.refl _)];cases x with
  |inl r=>exact d
  |inr a=>exact hk a y d
theorem lm.iterN {σ R:Type} {f g:σ->J (σ⊕R)} (h:∀x,lm (f x) (g x)):∀(n:Nat) (x:σ),lm (AI.iterN f n x) (AI.iterN g n x)
 |0,_=>λ_ h=>by cases h
 |n+1,x=>by
  intro y d;cases hf:f x with
  |none=>rw[AI.iterN,hf]at d;cases d
  |some s=>
   rw[AI.iterN,hf]at d;rw[AI.iterN,h x s hf];cases s with
   |inl z=>exact lm.iterN h n z y d
   |inr r=>exact d
theorem Ig {σ R:Type} {f:σ->J (σ⊕R)}:∀{n:Nat} {x:σ} {r:R},iterN f n x=Z r->iterN f (n+1) x=Z r
 |0,x,r,h=>by cases h
 |n+1,x,r,h=>by
  cases hf:f x with
  |none=>rw[iterN,hf]at h;cases h
  |some s=>
   cases s with
   |inl y=>rw[iterN,hf]at h;rw[iterN,hf];exact Ig h
   |inr q=>rw[iterN,hf]at h;rw[iterN,hf];exact h
theorem vB {σ R:Type} {f:σ->J (σ⊕R)} {n m:Nat} {x:σ} {r:R} (h:iterN f n x=Z r) (hle:n<=m):iterN f m x=Z r:=by
 induction hle with
 |refl=>exact h
 |step _ d=>exact Ig d
theorem If {σ R:Type} {f:σ->J (σ⊕R)} {n:Nat} {x:σ} {r:R} (h:iterN f n x=Z r):iter f x=Z r:=by
 have q:∃n,(iterN f n x).isSome=M:=⟨n,by rw[h];exact Eq.refl _⟩
 unfold iter;rw[dif_pos q];have hc:=Classical.choose_spec q;obtain⟨s,d⟩:=iK.1 hc;rw[d];rcases Nat.le_total n (Classical.choose q) with hl|hl
 .rw[vB h hl]at d;exact d.symm
 .rw[vB d hl]at h;exact h
theorem lm.iter {σ R:Type} {f g:σ->J (σ⊕R)} {x:σ} (h:∀x,lm (f x) (g x)):lm (fR f x) (AI.iter g x):=λy d=>If (lm.iterN h _ x y d)
def orE {R:Type} (a b:J R):J R:=match a with|some y=>Z y|none=>b
def fuel:Nat:=Classical.choose (⟨100000,rfl⟩:∃n:Nat,n=100000)
theorem qu:fuel=100000:=Classical.choose_spec (⟨100000,rfl⟩:∃n:Nat,n=100000)
def FW (a:Ty):Ty->Ty
 |.un=>a
 |.int k=>.pr a (.int k)
 |.bool=>.pr a .bool
 |.str=>.pr a .str
 |.sl t=>.pr a (.sl t)
 |.st t=>.pr a (.st t)
 |.pr x y=>.pr a (.pr x y)
 |.ex=>.pr a .ex
 |.sm=>.pr a .sm
def spr:Ty->Ty->Ty
 |.un,b=>b
 |.int k,b=>FW (.int k) b
 |.bool,b=>FW .bool b
 |.str,b=>FW .str b
 |.sl t,b=>FW (.sl t) b
 |.st t,b=>FW (.st t) b
 |.pr x y,b=>FW (.pr x y) b
 |.ex,b=>FW .ex b
 |.sm,b=>FW .sm b
def Pz (a:Ty):(b:Ty)->a.den->b.den->(FW a b).den
 |.un,x,_=>x
 |.int _,x,y=>(x,y)
 |.bool,x,y=>(x,y)
 |.str,x,y=>(x,y)
 |.sl _,x,y=>(x,y)
 |.st _,x,y=>(x,y)
 |.pr _ _,x,y=>(x,y)
 |.ex,x,y=>(x,y)
 |.sm,x,y=>(x,y)
def fsN (a:Ty):(b:Ty)->(FW a b).den->a.den
 |.un,z=>z
 |.int _,z=>z.1
 |.bool,z=>z.1
 |.str,z=>z.1
 |.sl _,z=>z.1
 |.st _,z=>z.1
 |.pr _ _,z=>z.1
 |.ex,z=>z.1
 |.sm,z=>z.1
def snN (a:Ty):(b:Ty)->(FW a b).den->b.den
 |.un,_=>()
 |.int _,z=>z.2
 |.bool,z=>z.2
 |.str,z=>z.2
 |.sl _,z=>z.2
 |.st _,z=>z.2
 |.pr _ _,z=>z.2
 |.ex,z=>z.2
 |.sm,z=>z.2
def S6:(a b:Ty)->a.den->b.den->(spr a b).den
 |.un,_,_,y=>y
 |.int k,b,x,y=>Pz (.int k) b x y
 |.bool,b,x,y=>Pz .bool b x y
 |.str,b,x,y=>Pz .str b x y
 |.sl t,b,x,y=>Pz (.sl t) b x y
 |.st t,b,x,y=>Pz (.st t) b x y
 |.pr u v,b,x,y=>Pz (.pr u v) b x y
 |.ex,b,x,y=>Pz .ex b x y
 |.sm,b,x,y=>Pz .sm b x y
def NT:(a b:Ty)->(spr a b).den->a.den
 |.un,_,_=>()
 |.int k,b,z=>fsN (.int k) b z
 |.bool,b,z=>fsN .bool b z
 |.str,b,z=>fsN .str b z
 |.sl t,b,z=>fsN (.sl t) b z
 |.st t,b,z=>fsN (.st t) b z
 |.pr u v,b,z=>fsN (.pr u v) b z
 |.ex,b,z=>fsN .ex b z
 |.sm,b,z=>fsN .sm b z
def Kx:(a b:Ty)->(spr a b).den->b.den
 |.un,_,z=>z
 |.int k,b,z=>snN (.int k) b z
 |.bool,b,z=>snN .bool b z
 |.str,b,z=>snN .str b z
 |.sl t,b,z=>snN (.sl t) b z
 |.st t,b,z=>snN (.st t) b z
 |.pr u v,b,z=>snN (.pr u v) b z
 |.ex,b,z=>snN .ex b z
 |.sm,b,z=>snN .sm b z
theorem sX (a b:Ty) (x:a.den) (y:b.den):NT a b (S6 a b x y)=x:=by cases a<;>cases b<;>rfl
theorem uu (a b:Ty) (x:a.den) (y:b.den):Kx a b (S6 a b x y)=y:=by cases a<;>cases b<;>rfl
inductive TV where
 |f (T:Ty) (v:T.den)
 |fel (T:Ty) (xs:List T.den) (j:Int) (h:e9 j xs.length=M) (off:Nat)
 |pel (id sz:Nat) (j:Int) (off:Nat)
 |ptr (id off:Nat)
 |row (id:Nat)
 |csl (id sz n:Nat)
 |emp
 |nil
 |mp (id:Nat)
 |agg (l:List TV)
 |tup (l:List TV)
 |clo (g:FuncId) (l:List TV)
 |undef
 |np
 |anyb
 |rtl (id:Nat) (j:Int)
 |ful (T:Ty) (xs:List T.den)
instance cty (n:Nat):OfNat (J TypeId) n:=⟨Z n⟩
inductive ia where
 |rows (ty:TypeId) (p:Bool) (T:Ty) (xs:List T.den)
 |cells (ty:Option TypeId) (l:List TV)
 |dead (p:Bool) (sz n:Nat)
 |mp (K V:Ty) (es:List (K.den×V.den))
abbrev iL:=PT TV
abbrev bl:=PT ia
def cst:Value->J TV
 |.int k n=>Z (.f (.int k) n)
 |.bool b=>Z (.f .bool b)
 |.string s=>Z (.f .str s.data.toList)
 |.slice U 0 0=>Z .nil
 |.pointer U=>Z .np
 |_=>U
def Jw:ξ->J (Y TV)
 |[]=>Z []
 |v::r=>match cst v,Jw r with|some x,Z l=>Z (x::l)|_,_=>U
def afr:Value->J TV
 |.agg vs=>if JO vs.toList then (match Jw vs.toList with|some l=>Z (.agg l)|none=>U) else U
 |v=>cst v
def cellsOf:Nat->(T:Ty)->T.den->J (Y TV)
 |0,_,_=>U
 |n+1,.st t,v=>cellsOf n t v
 |n+1,.pr a b,v=>match cellsOf n a v.1,cellsOf n b v.2 with|some x,Z y=>Z (x++y)|_,_=>U
 |_+1,.un,_=>Z []
 |n+1,.ex,v=>cellsOf n Mm (M4 v)
 |n+1,.sm,v=>cellsOf n LR (M3 v)
 |_+1,.int k,v=>Z [.f (.int k) v]
 |_+1,.bool,v=>Z [.f .bool v]
 |_+1,.str,v=>Z [.f .str v]
 |_+1,.sl t,v=>Z [.f (.sl t) v]
def TV.isC:TV->Bool
 |.f T _=>T.one
 |.fel _ _ _ _ _=>M
 |.pel _ _ _ _=>M
 |.ptr _ _=>M
 |.row _=>M
 |.csl _ _ _=>M
 |.emp=>M
 |.nil=>M
 |.np=>M
 |.mp _=>M
 |.clo _ _=>M
 |_=>aa
def kF:Y TV->Bool
 |[]=>M
 |x::r=>x.isC&&kF r
def TV.cs (v:TV):J (Y TV):=match v with
 |.agg l=>if kF l then Z l else U
 |.f T x=>cellsOf 40 T x
 |x=>if x.isC then Z [x] else U
def ku (i:Nat):Nat:=1<<<i
def h_ (h:bl) (T:Ty):TV->J (T.den×Nat)
 |.f _ v=>match sM T v with|some x=>Z (x,0)|none=>U
 |.emp=>(match T with|.sl _=>Z ([],0)|_=>U)
 |.nil=>(match T with|.sl _=>Z ([],0)|_=>U)
 |.row id=>match h.get id with
  |some (.rows _ _ S xs)=>(match sM (S:=.sl S) T xs with|some x=>Z (x,ku id)|none=>U)
  |_=>U
 |_=>U
def eM (h:bl):Nat->(T:Ty)->Y TV->J (T.den×Nat×Y TV)
 |0,_,_=>U
 |n+1,.st t,l=>eM h n t l
 |n+1,.pr a b,l=>match eM h n a l with
  |some (x,m,r)=>(match eM h n b r with|some (y,m',d)=>Z ((x,y),m|||m',d)|none=>U)
  |none=>U
 |_+1,.un,l=>Z ((),0,l)
 |n+1,.ex,l=>match eM h n Mm l with|some (x,m,r)=>Z (d8 x,m,r)|none=>U
 |n+1,.sm,l=>match eM h n LR l with|some (x,m,r)=>Z (oD x,m,r)|none=>U
 |_+1,.int k,l=>match l with|c::r=>(match h_ h (.int k) c with|some (x,m)=>Z (x,m,r)|none=>U)|[]=>U
 |_+1,.bool,l=>match l with|c::r=>(match h_ h .bool c with|some (x,m)=>Z (x,m,r)|none=>U)|[]=>U
 |_+1,.str,l=>match l with|c::r=>(match h_ h .str c with|some (x,m)=>Z (x,m,r)|none=>U)|[]=>U
 |_+1,.sl t,l=>match l with|c::r=>(match h_ h (.sl t) c with|some (x,m)=>Z (x,m,r)|none=>U)|[]=>U
def Bs (h:bl) (T:Ty) (v:TV):J (T.den×Nat):=match v with
 |.agg l=>if T.one then U else (match eM h 40 T l with|some (x,m,[])=>Z (x,m)|_=>U)
 |x=>h_ h T x
def nY:Nat->(T:Ty)->T.den->Nat->Nat->Bool->J TV
 |0,_,_,_,_,_=>U
 |n+1,.st t,v,off,sz,ag=>if aw off 0&&aw sz t.size&&ag then Z (.f (.st t) v) else nY n t v off sz ag
 |n+1,.pr a b,v,off,sz,ag=>if eS off a.size then nY n a v.1 off sz ag else nY n b v.2 (off-a.size) sz ag
 |_+1,.un,_,_,_,_=>U
 |n+1,.ex,v,off,sz,ag=>if aw off 0&&aw sz 4&&ag then Z (.f .ex v) else nY n Mm (M4 v) off sz ag
 |n+1,.sm,v,off,sz,ag=>if aw off 0&&aw sz 11&&ag then Z (.f .sm v) else nY n LR (M3 v) off sz ag
 |_+1,.int k,v,off,sz,ag=>if aw off 0&&aw sz 1&& !ag then Z (.f (.int k) v) else U
 |_+1,.bool,v,off,sz,ag=>if aw off 0&&aw sz 1&& !ag then Z (.f .bool v) else U
 |_+1,.str,v,off,sz,ag=>if aw off 0&&aw sz 1&& !ag then Z (.f .str v) else U
 |_+1,.sl t,v,off,sz,ag=>if aw off 0&&aw sz 1&& !ag then Z (.f (.sl t) v) else U
def gK (h:bl) (x:TV):Nat->(T:Ty)->T.den->Nat->Nat->J (T.den×Nat)
 |0,_,_,_,_=>U
 |n+1,.st t,v,off,sz=>match (if aw off 0&&aw sz t.size then Bs h (.st t) x else U) with
  |some y=>Z y
  |none=>gK h x n t v off sz
 |n+1,.pr a b,v,off,sz=>if eS off a.size then (match gK h x n a v.1 off sz with|some (y,m)=>Z ((y,v.2),m)|none=>U) else (match gK h x n b v.2 (off-a.size) sz with|some (y,m)=>Z ((v.1,y),m)|none=>U)
 |_+1,.un,_,_,_=>U
 |n+1,.ex,v,off,sz=>match (if aw off 0&&aw sz 4 then Bs h .ex x else U) with
  |some y=>Z y
  |none=>(match gK h x n Mm (M4 v) off sz with|some (y,m)=>Z (d8 y,m)|none=>U)
 |n+1,.sm,v,off,sz=>match (if aw off 0&&aw sz 11 then Bs h .sm x else U) with
  |some y=>Z y
  |none=>(match gK h x n LR (M3 v) off sz with|some (y,m)=>Z (oD y,m)|none=>U)
 |_+1,.int k,_,off,sz=>if aw off 0&&aw sz 1 then h_ h (.int k) x else U
 |_+1,.bool,_,off,sz=>if aw off 0&&aw sz 1 then h_ h .bool x else U
 |_+1,.str,_,off,sz=>if aw off 0&&aw sz 1 then h_ h .str x else U
 |_+1,.sl t,_,off,sz=>if aw off 0&&aw sz 1 then h_ h (.sl t) x else U
def ya (h:bl) (T:Ty):Nat->Y TV->J (Y T.den×Nat)
 |0,[]=>Z ([],0)
 |0,_::_=>U
 |n+1,l=>match eM h 40 T l with
  |some (x,m,r)=>(match ya h T n r with|some (xs,m')=>Z (x::xs,m|||m')|none=>U)
  |none=>U
def sD:Ty->ξ
 |.int k=>[.int k 0]
 |.bool=>[.bool aa]
 |.str=>[.string ⟨#[]⟩]
 |.sl _=>[.slice U 0 0]
 |.st t=>sD t
 |.pr a b=>sD a++sD b
 |.un=>[]
 |.ex=>[.int .i64 0,.int .i64 0,.string ⟨#[]⟩,.slice U 0 0]
 |.sm=>[.int .i64 0,.int .i64 0,.string ⟨#[]⟩,.string ⟨#[]⟩,.slice U 0 0,.int .i64 0,.int .i64 0,.string ⟨#[]⟩,.slice U 0 0,.slice U 0 0,.slice U 0 0]
def RD:ξ->ξ->Bool
 |[],[]=>M
 |x::xs,y::d=>afx x y&&RD xs d
 |_,_=>aa
def Ty.flat:Ty->Bool
 |.int _=>M
 |.bool=>M
 |.str=>M
 |.st t=>t.flat
 |.pr a b=>a.flat&&b.flat
 |.un=>M
 |_=>aa
def qN:Y TypeDesc->J Ty
 |[]=>Z .un
 |.int k::r=>match qN r with|some t=>Z (.pr (.int k) t)|none=>U
 |.bool::r=>match qN r with|some t=>Z (.pr .bool t)|none=>U
 |.string::r=>match qN r with|some t=>Z (.pr .str t)|none=>U
 |_=>U
inductive PV where
 |d (T:Ty)
 |ptr (id off:Nat)
 |row (id:Nat)
 |csl (id sz n:Nat)
 |mp (id:Nat)
 |nil
 |emp
 |clo (q:FuncId) (id off:Nat)
 |agg (l:List PV)
inductive PB where
 |rows (ty:TypeId) (p:Bool) (T:Ty)
 |rowsP (ty:TypeId) (T:Ty)
 |cells (ty:Option TypeId) (l:List PV)
 |mp (K V:Ty)
 |gone
mutual
def PV.ty:PV->Ty
 |.d T=>T
 |.agg l=>PV.tyL l
 |.ptr _ _=>.un
 |.row _=>.un
 |.csl _ _ _=>.un
 |.clo _ _ _=>.un
 |.mp _=>.un
 |.nil=>.un
 |.emp=>.un
def PV.tyL:Y PV->Ty
 |[]=>.un
 |p::r=>spr p.ty (PV.tyL r)
end
def PB.ty:PB->Ty
 |.rows _ _ T=>.sl T
 |.rowsP _ T=>.pr .bool (.sl T)
 |.cells _ l=>PV.tyL l
 |.mp K V=>.sl (.pr K V)
 |.gone=>.un
def PB.tyL:Y PB->Ty
 |[]=>.un
 |p::r=>spr p.ty (PB.tyL r)
structure Tm where
 vs:List PV
 bs:List PB
def Tm.ty (t:Tm):Ty:=spr (PV.tyL t.vs) (PB.tyL t.bs)
mutual
def px (g:Nat->Nat) (h:bl):(p:PV)->Y TV->J (p.ty.den×Nat×Y TV)
 |.d T,l=>eM h 40 T l
 |.ptr i o,l=>match l with|.ptr i' o'::r=>if aw (g i) i'&&aw o o' then Z ((),0,r) else U|_=>U
 |.row i,l=>match l with|.row i'::r=>if aw (g i) i' then Z ((),0,r) else U|_=>U
 |.csl i s n,l=>match l with|.csl i' s' n'::r=>if aw (g i) i'&&aw s s'&&aw n n' then Z ((),0,r) else U|_=>U
 |.clo q i o,l=>match l with|.clo q' [.ptr i' o']::r=>if aw q q'&&aw (g i) i'&&aw o o' then Z ((),0,r) else U|_=>U
 |.mp i,l=>match l with|.mp i'::r=>if aw (g i) i' then Z ((),0,r) else U|_=>U
 |.nil,l=>match l with|.nil::r=>Z ((),0,r)|_=>U
 |.emp,l=>match l with|.nil::r=>Z ((),0,r)|.emp::r=>Z ((),0,r)|_=>U
 |.agg ps,l=>yB g h ps l
def yB (g:Nat->Nat) (h:bl):(ps:Y PV)->Y TV->J ((PV.tyL ps).den×Nat×Y TV)
 |[],l=>Z ((),0,l)
 |p::r,l=>match px g h p l with
  |some (x,m,l')=>(match yB g h r l' with|some (y,m',l'')=>Z (S6 p.ty (PV.tyL r) x y,m|||m',l'')|none=>U)
  |none=>U
end
def wG (g:Nat->Nat) (h:bl):(p:PV)->TV->J (p.ty.den×Nat)
 |.d T,v=>Bs h T v
 |.agg ps,v=>if v.isC then U else (match v.cs with
  |some l=>(match yB g h ps l with|some (x,m,[])=>Z (x,m)|_=>U)
  |none=>U)
 |.ptr i o,v=>match px g h (.ptr i o) [v] with|some (x,m,_)=>Z (x,m)|none=>U
 |.row i,v=>match px g h (.row i) [v] with|some (x,m,_)=>Z (x,m)|none=>U
 |.csl i s n,v=>match px g h (.csl i s n) [v] with|some (x,m,_)=>Z (x,m)|none=>U
 |.clo q i o,v=>match px g h (.clo q i o) [v] with|some (x,m,_)=>Z (x,m)|none=>U
 |.mp i,v=>match px g h (.mp i) [v] with|some (x,m,_)=>Z (x,m)|none=>U
 |.nil,v=>match px g h .nil [v] with|some (x,m,_)=>Z (x,m)|none=>U
 |.emp,v=>match px g h .emp [v] with|some (x,m,_)=>Z (x,m)|none=>U
def xm (g:Nat->Nat) (h:bl):(ps:Y PV)->Y TV->J ((PV.tyL ps).den×Nat)
 |[],[]=>Z ((),0)
 |p::r,v::vs=>match wG g h p v with
  |some (x,m)=>(match xm g h r vs with|some (y,m')=>Z (S6 p.ty (PV.tyL r) x y,m|||m')|none=>U)
  |none=>U
 |[],_::_=>U
 |_::_,[]=>U
def DW (g:Nat->Nat) (h:bl) (i:Nat):(b:PB)->J (b.ty.den×Nat)
 |.rows ty p T=>match h.get (g i) with
  |some (.rows ty' d S xs)=>if ty==ty'&&p==d then (match sM (S:=.sl S) (.sl T) xs with|some x=>Z (x,0)|none=>U) else U
  |_=>U
 |.rowsP ty T=>match h.get (g i) with
  |some (.rows ty' d S xs)=>if ty==ty' then (match sM (S:=.sl S) (.sl T) xs with|some x=>Z ((d,x),0)|none=>U) else U
  |_=>U
 |.cells ty ps=>match h.get (g i) with
  |some (.cells ty' l)=>if ty==ty' then (match yB g h ps l with|some (x,m,[])=>Z (x,m)|_=>U) else U
  |_=>U
 |.mp K V=>match h.get (g i) with
  |some (.mp K' V' es)=>(match sM (S:=.sl (.pr K' V')) (.sl (.pr K V)) es with|some x=>Z (x,0)|none=>U)
  |_=>U
 |.gone=>Z ((),0)
def Ad (g:Nat->Nat) (h:bl):Nat->(bs:Y PB)->J ((PB.tyL bs).den×Nat)
 |_,[]=>Z ((),0)
 |i,b::r=>match DW g h i b with
  |some (x,m)=>(match Ad g h (i+1) r with|some (y,m')=>Z (S6 b.ty (PB.tyL r) x y,m|||m')|none=>U)
  |none=>U
mutual
def pQ (g:Nat->Nat):(p:PV)->p.ty.den->J (Y TV)
 |.d T,x=>cellsOf 40 T x
 |.ptr i o,_=>Z [.ptr (g i) o]
 |.row i,_=>Z [.row (g i)]
 |.csl i s n,_=>Z [.csl (g i) s n]
 |.mp i,_=>Z [.mp (g i)]
 |.clo q i o,_=>Z [.clo q [.ptr (g i) o]]
 |.nil,_=>Z [.nil]
 |.emp,_=>Z [.emp]
 |.agg ps,x=>qL g ps x
def qL (g:Nat->Nat):(ps:Y PV)->(PV.tyL ps).den->J (Y TV)
 |[],_=>Z []
 |p::r,x=>match pQ g p (NT p.ty (PV.tyL r) x) with
  |some a=>(match qL g r (Kx p.ty (PV.tyL r) x) with|some b=>Z (a++b)|none=>U)
  |none=>U
end
def sR (g:Nat->Nat):(p:PV)->p.ty.den->J TV
 |.d T,x=>Z (.f T x)
 |.ptr i o,_=>Z (.ptr (g i) o)
 |.row i,_=>Z (.row (g i))
 |.csl i s n,_=>Z (.csl (g i) s n)
 |.mp i,_=>Z (.mp (g i))
 |.clo q i o,_=>Z (.clo q [.ptr (g i) o])
 |.nil,_=>Z .nil
 |.emp,_=>Z .emp
 |.agg ps,x=>match qL g ps x with|some l=>Z (.agg l)|none=>U
def pY (g:Nat->Nat):(ps:Y PV)->(PV.tyL ps).den->J (Y TV)
 |[],_=>Z []
 |p::r,x=>match sR g p (NT p.ty (PV.tyL r) x) with
  |some a=>(match pY g r (Kx p.ty (PV.tyL r) x) with|some b=>Z (a::b)|none=>U)
  |none=>U
def BQ (g:Nat->Nat):(b:PB)->b.ty.den->J (J ia)
 |.rows ty p T,x=>Z (Z (.rows ty p T x))
 |.rowsP ty T,x=>Z (Z (.rows ty x.1 T x.2))
 |.cells ty ps,x=>match qL g ps x with|some l=>Z (Z (.cells ty l))|none=>U
 |.mp K V,x=>Z (Z (.mp K V x))
 |.gone,_=>Z U
def uA:ia->ia
 |.rows _ p T xs=>.dead p T.size xs.length
 |.cells _ _=>.dead M 0 0
 |.mp _ _ _=>.dead M 0 0
 |.dead p sz n=>.dead p sz n
def kill (h:bl) (i:Nat):bl:=match h.get i with
 |some b=>h.set i (Z (uA b))
 |none=>h
def ou (g:Nat->Nat):(bs:Y PB)->(PB.tyL bs).den->J (Y (J ia))
 |[],_=>Z []
 |b::r,x=>match BQ g b (NT b.ty (PB.tyL r) x) with
  |some c=>(match ou g r (Kx b.ty (PB.tyL r) x) with|some l=>Z (c::l)|none=>U)
  |none=>U
def zN (g:Nat->Nat):Nat->Y (J ia)->bl->bl
 |_,[],h=>h
 |i,Z c::r,h=>zN g (i+1) r (h.set (g i) (Z c))
 |i,U::r,h=>zN g (i+1) r (kill h (g i))
def LX (g:Nat->Nat) (bs:Y PB) (x:(PB.tyL bs).den) (h:bl):J bl:=match ou g bs x with
 |some l=>Z (zN g 0 l h)
 |none=>U
def mA {K V:Ty} (k:K.den):Y (K.den×V.den)->J V.den
 |[]=>U
 |(k',v)::r=>if Mo K k k' then Z v else mA k r
def AU {K V:Ty} (k:K.den) (v:V.den):Y (K.den×V.den)->Y (K.den×V.den)
 |[]=>[(k,v)]
 |(k',d)::r=>if Mo K k k' then (k,v)::r else (k',d)::AU k v r
def Nt {K V:Ty} (k:K.den) (es:Y (K.den×V.den)):Bool:=match mA k es with|some _=>M|none=>aa
def yl {K V:Ty} (k:K.den) (es:Y (K.den×V.den)) (z:V.den):V.den:=match mA k es with|some v=>v|none=>z
def aih (T:Ty):Nat->Ty
 |0=>.un
 |1=>T
 |n+2=>.pr T (aih T (n+1))
def kwT:Ty:=.st (aih .str 22)
def kwV:kwT.den:=([118,97,114],[118,111,108,97,116,105,108,101],[109,117,116,101,120],[114,119,108,111,99,107],[99,111,110,100],[102,117,116,117,114,101],[116,104,114,101,97,100],[105,102],[101,108,115,101],[119,104,105,108,101],[108,111,99,107],[114,101,97,100],[119,114,105,116,101],[116,114,97,110,115,97,99,116,105,111,110],[97,116,111,109,105,99],[119,97,105,116],[110,111,116,105,102,121],[110,111,116,105,102,121,97,108,108],[115,112,97,119,110],[106,111,105,110],[115,101,116],[103,101,116])
@[simp] theorem dE {R:Type} (t f:J R):aF M t f=t:=Eq.trans rfl rfl
@[simp] theorem dU {R:Type} (t f:J R):aF aa t f=f:=Eq.trans rfl rfl
@[simp] theorem chk_t {R:Type} (k:M=M->J R):chk M k=k rfl:=Eq.trans rfl rfl
theorem cw {R:Type} {b:Bool} (h:b=M) (k:J R):chk b (λ_=>k)=k:=by cases b with|true=>rfl|false=>cases h
@[simp] theorem dc {α R:Type} (x:α) (k:α->J R):av (Z x) k=k x:=Eq.trans rfl rfl
@[simp] theorem mo {α R:Type} (x:α) (k:α->J R):jn (Z (.inr x)) k=k x:=Eq.trans rfl rfl
@[simp] theorem jn_l {α R:Type} (r:R) (k:α->J R):jn (Z (.inl r)) k=Z r:=Eq.trans rfl rfl
theorem ac5 {σ R:Type} {f:σ->J (σ⊕R)} {n:Nat} {x:σ} {r:R} (h:iterN f n x=Z r) (hn:n<=18446744073709551616):fR f x=Z r:=vB h hn
theorem yq {σ R:Type} {f:σ->J (σ⊕R)} (n:Nat) (hn:n<18446744073709551616) (st:Nat->σ) {r:R} (h0:∀i,i<n->f (st i)=Z (.inl (st (i+1)))) (h1:f (st n)=Z (.inr r)):fR f (st 0)=Z r:=by
 have key:∀k i,i+k=n->iterN f (k+1) (st i)=Z r:=by
  intro k;induction k with
  |zero=>intro i hi;have:i=n:=by omega
         subst this;simp only[iterN,h1]
  |succ k d=>intro i hi;rw[iterN,h0 i (by omega)];exact d (i+1) (by omega)
 exact ac5 (key n 0 (by omega)) (by omega)
@[simp] theorem Zh {a b:Int}:cP a b=M↔a<=b:=by unfold cP;simp
@[simp] theorem Zg {a b:Int}:fK a b=M↔a<b:=by unfold fK;simp
theorem qM {a b:Int} (h:a<=b):cP a b=M:=Zh.2 h
theorem uB {a b:Int} (h:a<b):fK a b=M:=Zg.2 h
theorem Zi {a b:Int} (h:b<a):cP a b=aa:=by unfold cP;simp;omega
theorem xh {a b:Int} (h:b<=a):fK a b=aa:=by unfold fK;simp;omega
theorem ain {j:Int} {n:Nat} (h0:0<=j) (h1:j<n):e9 j n=M:=by unfold e9;rw[qM h0,uB h1];rfl
theorem cZ {j n:Nat} (h1:j<n):e9 (j:Int) n=M:=ain (by omega) (by omega)
theorem wi {n b:Nat} (h0:n<=1099511627776) (h1:n*b<=1099511627776):bc n b=M:=by
 unfold bc;rw[bt h0,bt h1];rfl
theorem ae5 {n:Int} (h0: -9223372036854775808<=n) (h1:n<=9223372036854775807):a9 .i64 n=n:=by
 rw[G3];unfold LJ;simp only[];rw[qM h0,qM h1];rfl
theorem pE {i n:Nat} (h:i<n) (hn:n<=1099511627776):a9 .i64 ((i:Int)+1)=((i+1:Nat):Int):=by
 rw[ae5 (by omega) (by omega)];omega
theorem yr (a b:Nat):lq (aU a) (aU b)=((max a b:Nat):Int):=by
 unfold lq;by_cases h:a<b
 .rw[uB (by simp;omega),aT rfl];simp;omega
 .rw[xh (by simp;omega)];simp;omega
theorem tQ {T:Ty} (xs:Y T.den) (i:Nat):aG xs (i:Int)=xs.getD i T.zero:=by unfold aG;simp
theorem nv (xs:Y η) (i:Nat):aG (T:=.sl (.int .i64)) xs (i:Int)=xs.getD i []:=tQ (T:=.sl (.int .i64)) xs i
theorem afk (xs:η) (i:Nat):aG (T:=.int .i64) xs (i:Int)=xs.getD i 0:=tQ (T:=.int .i64) xs i
theorem eG {α:Type} (xs:Y α) (i:Nat) (x:α):cj xs (i:Int) x=xs.set i x:=by unfold cj;simp
structure cr where
 pre:Tm
 post:Tm
 m:pre.ty.den->Option post.ty.den
mutual
def aep:PV->Y TV->PT Nat->PT Nat×Y TV
 |.d T,l,σ=>(σ,l.drop T.size)
 |.ptr i _,l,σ=>match l with|.ptr a _::r=>(σ.set i (Z a),r)|l=>(σ,l.drop 1)
 |.row i,l,σ=>match l with|.row a::r=>(σ.set i (Z a),r)|l=>(σ,l.drop 1)
 |.csl i _ _,l,σ=>match l with|.csl a _ _::r=>(σ.set i (Z a),r)|l=>(σ,l.drop 1)
 |.mp i,l,σ=>match l with|.mp a::r=>(σ.set i (Z a),r)|l=>(σ,l.drop 1)
 |.clo _ i _,l,σ=>match l with|.clo _ [.ptr a _]::r=>(σ.set i (Z a),r)|l=>(σ,l.drop 1)
 |.nil,l,σ=>(σ,l.drop 1)
 |.emp,l,σ=>(σ,l.drop 1)
 |.agg ps,l,σ=>Uz ps l σ
def Uz:Y PV->Y TV->PT Nat->PT Nat×Y TV
 |[],l,σ=>(σ,l)
 |p::r,l,σ=>match aep p l σ with|(σ',l')=>Uz r l' σ'
end
def aj1 (p:PV) (v:TV) (σ:PT Nat):PT Nat:=match p with
 |.d _=>σ
 |p=>match v.cs with|some l=>(aep p l σ).1|none=>σ
def Z0:Y PV->Y TV->PT Nat->PT Nat
 |p::r,v::vs,σ=>Z0 r vs (aj1 p v σ)
 |_,_,σ=>σ
def UA (h:bl):Nat->Y PB->PT Nat->PT Nat
 |_,[],σ=>σ
 |i,b::r,σ=>UA h (i+1) r (match b with
  |.cells _ ps=>(match σ.get i with
   |some a=>(match h.get a with|some (.cells _ l)=>(Uz ps l σ).1|_=>σ)
   |none=>σ)
  |_=>σ)
def hZ (σ:PT Nat) (i:Nat):Nat:=match σ.get i with|some a=>a|none=>0
def YD (σ:PT Nat):Nat->Nat->Nat->J Nat
 |0,_,acc=>Z acc
 |n+1,i,acc=>match σ.get i with
  |some a=>if aO acc a then U else YD σ n (i+1) (acc|||ku a)
  |none=>U
def idn:Nat->PT Nat
 |0=>.leaf
 |n+1=>(idn n).set n (Z n)
def Vt (σ:PT Nat):Nat->Bool
 |0=>M
 |n+1=>(match σ.get n with|some a=>aw a n|none=>aa)&&Vt σ n
structure af1 (t:Tm) where
 x:t.ty.den
 m:Nat
 σ:PT Nat
 sm:Nat
def Dv (np:Nat) (t:Tm) (vs:Y TV) (h:bl):J (af1 t):=
 Qp (UA h 0 t.bs (UA h 0 t.bs (Z0 t.vs vs (idn np)))) λσ=>
 match YD σ t.bs.length 0 0 with
 |some sm=>(match xm (hZ σ) h t.vs vs with
  |some (x,m)=>(match Ad (hZ σ) h 0 t.bs with
   |some (y,m')=>if CP (m|||m') sm&&Vt σ np then Z ⟨S6 _ _ x y,m|||m',σ,sm⟩ else U
   |none=>U)
  |none=>U)
 |none=>U
def PT.updI {α:Type} (f:Nat->α->α):Nat->Nat->PT α->PT α
 |_,_,.leaf=>.leaf
 |a,b,.node v l r=>.node (match v with|some x=>Z (f b x)|none=>U) (PT.updI f (2*a) (a+b) l) (PT.updI f (2*a) (2*a+b) r)
def d9 (m:Nat) (h:bl):bl:=if aw m 0 then h else PT.updI (λi b=>if aO m i then uA b else b) 1 0 h
def Tc:Operand->Bool
 |.const (.agg _)=>M
 |_=>aa
def fe (e:iL):Operand->J TV
 |.tmp t=>e.get t
 |.const v=>afr v
 |.func g=>Z (.clo g [])
 |.global g=>match G g with|some _=>Z (.fel kwT [kwV] 0 (Eq.refl M) 0)|none=>U
def ER (e:iL):Y Operand->J (Y TV)
 |[]=>Z []
 |x::xs=>match fe e x with|some y=>(match ER e xs with|some d=>Z (y::d)|none=>U)|none=>U
def IP (cells:Y TV) (e:iL):Y (Nat×Nat×Operand)->J (Y TV)
 |[]=>Z cells
 |(off,sz,x)::r=>match fe e x with
  |some v=>(match v.cs with
   |some cs=>if cs.length==sz&&dN (off+sz) cells.length then IP (splice cells off cs) e r else U
   |none=>U)
  |none=>U
def Sy (l:Y TV) (off sz:Nat):Bool->J TV
 |false=>if aw sz 1 then l[off]? else U
 |true=>if dN (off+sz) l.length then Z (.agg ((l.drop off).take sz)) else U
def eh (h:bl) (id:Nat):J (Bool×Nat×Nat):=match h.get id with
 |some (.rows _ p T xs)=>Z (p,T.size,xs.length)
 |some (.dead p sz n)=>Z (p,sz,n)
 |_=>U
def lenOf (h:bl):TV->J Nat
 |.f (.sl _) xs=>Z (ah xs)
 |.emp=>Z 0
 |.nil=>Z 0
 |.row id=>match eh h id with|some (_,_,n)=>Z n|none=>U
 |.csl _ _ n=>Z n
 |_=>U
mutual
def KH (h:bl):TV->Bool
 |.row id=>(eh h id).isSome
 |.rtl id _=>(eh h id).isSome
 |.ful _ _=>M
 |.agg l=>kU h l
 |.tup l=>kU h l
 |.clo _ l=>kU h l
 |.f _ _=>M
 |.fel _ _ _ _ _=>M
 |.pel _ _ _ _=>M
 |.ptr _ _=>M
 |.csl _ _ _=>M
 |.emp=>M
 |.nil=>M
 |.mp _=>M
 |.undef=>M
 |.np=>M
 |.anyb=>M
def kU (h:bl):Y TV->Bool
 |[]=>M
 |x::r=>KH h x&&kU h r
end
mutual
def KJ (n:Nat):TV->Bool
 |.row id=>eS id n
 |.rtl id _=>eS id n
 |.ful _ _=>M
 |.pel id _ _ _=>eS id n
 |.ptr id _=>eS id n
 |.csl id _ _=>eS id n
 |.mp id=>eS id n
 |.agg l=>rf n l
 |.tup l=>rf n l
 |.clo _ l=>rf n l
 |.f _ _=>M
 |.fel _ _ _ _ _=>M
 |.emp=>M
 |.nil=>M
 |.undef=>M
 |.np=>M
 |.anyb=>M
def rf (n:Nat):Y TV->Bool
 |[]=>M
 |x::r=>KJ n x&&rf n r
end
def B6 (t:Tm) (x:t.ty.den):J (Y TV×bl):=
 match pY (λi=>i) t.vs (NT _ _ x) with
 |some vs=>(match LX (λi=>i) t.bs (Kx _ _ x) PT.leaf with
  |some h=>if kU h vs&&rf t.bs.length vs&&PT.all (λ_ b=>match b with|.cells _ l=>kU h l&&rf t.bs.length l|_=>M) 1 0 h then Z (vs,h) else U
  |none=>U)
 |none=>U
abbrev KO (R:Type):=TV->Nat->Nat->bl->Nat->J R
def Pm:Y TV->TV
 |[x]=>x
 |l=>.tup l
def AQ:Y PB->Bool
 |[]=>M
 |.gone::_=>aa
 |_::r=>AQ r
def Ho:Y PB->Bool
 |[]=>M
 |.rows _ _ _::r=>Ho r
 |_::_=>aa
def tj (h h2:bl) (g:Nat->Nat):Nat->Bool
 |0=>M
 |n+1=>(match eh h (g n) with
  |some (p,s,k)=>(match eh h2 (g n) with|some (d,s',k')=>(p==d)&&aw s s'&&aw k k'|none=>aa)
  |none=>M)&&tj h h2 g n
def VR {R:Type} (con:FuncId->J cr) (f:FuncId) (l:Y TV) (h:bl) (nx:Nat) (K:KO R):J R:=
 match con f with
 |some c=>(match Dv 0 c.pre l h with
  |some ⟨x,m,σ,sm⟩=>(match B6 c.pre x with
   |some _=>av (c.m x) λy=>(match B6 c.post y with
    |some _=>if dN c.pre.bs.length c.post.bs.length&&AQ c.pre.bs then
      let np:=c.pre.bs.length
      let d:=c.post.bs.length-np
      let g:=λi=>if eS i np then hZ σ i else nx+(i-np)
      (match pY g c.post.vs (NT _ _ y) with
      |some rs=>if !(aw m 0)&&aw c.post.bs.length 0&&(PV.tyL c.post.vs).flat then K (Pm rs) m 0 h nx else
       (match LX g c.post.bs (Kx _ _ y) (d9 m h) with
       |some h2=>chk (tj h h2 g np) λ_=>K (Pm rs) (sm|||m) (sm|||m|||(((1<<<d)-1)<<<nx)) h2 (nx+d)
       |none=>U)
      |none=>U) else if aw c.post.bs.length 0&&Ho c.pre.bs then
      let np:=c.pre.bs.length
      let g:=λi=>if eS i np then hZ σ i else nx+(i-np)
      (match pY g c.post.vs (NT _ _ y) with
      |some rs=>(match LX g c.pre.bs (Kx _ _ x) (d9 m h) with
       |some h2=>K (Pm rs) (sm|||m) m h2 nx
       |none=>U)
      |none=>U) else U
    |none=>U)
   |none=>U)
  |none=>U)
 |none=>U
def afw {R:Type} (op:BinOp) (x y:TV) (q:TV->J R):J R:=
 match x,y with
 |.f (.int k) a,.f (.int k') b=>if k==k' then
   (match op with
   |.add=>q (.f (.int k) (a9 k (a+b)))
   |.sub=>q (.f (.int k) (a9 k (a-b)))
   |.mul=>q (.f (.int k) (a9 k (a*b)))
   |.rem=>chk (!decide ((b:Int)=0)) λ_=>q (.f (.int k) (bp a b))
   |.quo=>chk (!decide ((b:Int)=0)) λ_=>q (.f (.int k) (a9 k (Int.tdiv a b)))
   |.eql=>q (.f .bool (decide ((a:Int)=b)))
   |.neq=>q (.f .bool (!decide ((a:Int)=b)))
   |.lss=>q (.f .bool (fK a b))
   |.leq=>q (.f .bool (cP a b))
   |.gtr=>q (.f .bool (fK b a))
   |.geq=>q (.f .bool (cP b a))
   |_=>U)
  else U
 |.f .str a,.f .str b=>match op with
   |.eql=>q (.f .bool (decide ((a:ζ)=b)))
   |.neq=>q (.f .bool (!decide ((a:ζ)=b)))
   |_=>U
 |_,_=>U
def Wv:Bool->Ty->Bool
 |false,.int _=>M
 |true,.str=>M
 |_,_=>aa
abbrev itK:Ty:=.st (.pr .str (.int .i64))
def isIt:Ty->Bool
 |.st (.pr .str (.int .i64))=>M
 |_=>aa
def S5 (K:Ty):Bool:= !isIt K
def G':Y ((ζ×Int)×Unit)->ζ
 |[]=>[]
 |e::_=>e.1.1
def F3:Y ((ζ×Int)×Unit)->Nat
 |[]=>0
 |e::_=>aP e.1.2
def Nj (s:ζ) (p:Nat):Int:=rnA (List.getD s p 0) ⟨eT s⟩ p
def So (s:ζ) (p:Nat):Nat:=wdA (List.getD s p 0) ⟨eT s⟩ p
def itE:(K V:Ty)->Y (K.den×V.den)->J (ζ×Nat)
 |.st (.pr .str (.int .i64)),.un,es=>Z (G' es,F3 es)
 |_,_,_=>U
def mpE:(K V:Ty)->Y (K.den×V.den)->Bool
 |.un,.un,[]=>M
 |_,_,_=>aa
def wX (T:Ty):Y TV->J (Y T.den)
 |[]=>Z []
 |.f S v::r=>match sM (S:=S) T v with
  |some x=>(match wX T r with|some l=>Z (x::l)|none=>U)
  |none=>U
 |_::_=>U
def Z4:Y TV->J ((T:Ty)×Y T.den)
 |.f T v::r=>match wX T (.f T v::r) with|some l=>Z ⟨T,l⟩|none=>U
 |_=>U
def aio (n sz:Nat) (v:TV):Bool->J ((T:Ty)×Y T.den)
 |true=>U
 |false=>if aw sz 1&& !v.isC then (match v.cs with|some l=>if aw l.length n then Z4 l else U|none=>U) else U
def arrB (n sz off:Nat):J ia->J ((T:Ty)×Y T.den)
 |some (.cells (Z _) l)=>if aw sz 1&&aw off 0&&aw l.length n then Z4 l else U
 |_=>U
def aem:Ty->Nat
 |.pr .un t=>aem t+1
 |_=>0
def CW:J Ty->J Nat
 |some (.pr .un t)=>Z (aem t)
 |_=>U
def aen {R:Type} (ty:TypeId) (sz bytes:Nat) (b y:TV) (h:bl) (nx:Nat) (K:KO R):J R:=match y with
 |.csl id2 sz2 m=>(match h.get id2 with
  |some (.cells (Z _) l2)=>if aw sz2 sz&&aw l2.length (m*sz)&& !(aw m 0) then (match b with
   |.csl id sz1 n=>(match h.get id with
    |some (.cells (Z ty1) l)=>if aw sz1 sz&&ty1==ty&&aw l.length (n*sz)&& !(aw id id2) then
      chk (bc (n+m) bytes) λ_=>K (.csl nx sz (n+m)) (ku id|||ku id2) (ku id|||ku nx) ((h.set id (Z (.dead M 0 0))).set nx (Z (.cells (Z ty) (l++l2)))) (nx+1) else U
    |_=>U)
   |.nil=>chk (bc m bytes) λ_=>K (.csl nx sz m) (ku id2) (0|||ku nx) ((d9 0 h).set nx (Z (.cells (Z ty) l2))) (nx+1)
   |_=>U) else U
  |_=>U)
 |_=>U
def pkT (ok:Bool) (v b:TV):TV:=match ok with|true=>.tup [v,b]|false=>v
def dS {R:Type} (con:FuncId->J cr) (b9:TypeId->J Ty) (o:SI) (e:iL) (h:bl) (nx:Nat) (K:KO R):J R:=
 match o with
 |.call f args=>match ER e args with|some l=>VR con f l h nx K|none=>U
 |.callv x args=>match fe e x,ER e args with
  |some (.clo f cap),Z l=>VR con f (l++cap) h nx K
  |_,_=>U
 |.op s=>match s with
  |.mksl ty sz bytes z l c=>match CW (b9 ty) with
   |some n=>(match Jw z,fe e l,fe e c with
    |some F,Z (.f (.int _) a),Z (.f (.int _) b)=>chk (cP 0 a&&cP a b&&bc (aP b) bytes&&decide ((a:Int)=aU n)) λ_=>K (.csl nx sz n) 0 (0|||ku nx) ((d9 0 h).set nx (Z (.cells (Z ty) (aA n F).flatten))) (nx+1)
    |_,_,_=>U)
   |none=>match b9 ty,fe e l,fe e c with
   |some T,Z (.f (.int _) a),Z (.f (.int _) b)=>if aw sz T.size&&RD z (sD T) then
     chk (cP 0 a&&cP a b&&bc (aP b) bytes) λ_=>K (.row nx) 0 (ku nx) (h.set nx (Z (.rows ty aa T (aA (aP a) T.zero)))) (nx+1) else U
   |_,_,_=>U
  |.bsl ty sz len z parts=>match CW (b9 ty) with
   |some _=>(match Jw z with
    |some F=>(match IP ((aA len F).flatten) e parts with
     |some cs=>if aw len 0 then U else K (.csl nx sz len) 0 (0|||ku nx) ((d9 0 h).set nx (Z (.cells (Z ty) cs))) (nx+1)
     |none=>U)
    |none=>U)
   |none=>match b9 ty,Jw z with
   |some T,Z F=>if aw sz T.size then (match IP ((aA len F).flatten) e parts with
    |some cs=>(match ya h T len cs with
     |some (xs,m)=>K (.row nx) m (m|||ku nx) ((d9 m h).set nx (Z (.rows ty (aw len 0) T xs))) (nx+1)
     |none=>U)
    |none=>U) else U
   |_,_=>U
  |.app ty sz bytes s x=>match CW (b9 ty) with
   |some _=>(match fe e s,fe e x with
    |some b,Z y=>aen ty sz bytes b y h nx K
    |_,_=>U)
   |none=>match b9 ty,fe e s,fe e x with
   |some T,Z b,Z y=>if aw sz T.size then (match Bs h (.sl T) y with
    |some (q,m)=>(match b with
     |.row id=>(match h.get id with
      |some (.rows ty' p S xs)=>(match sM (S:=.sl S) (.sl T) xs with
       |some xs=>if ty'==ty&& !(aO m id) then
         chk (bc (ah xs+ah q) bytes) λ_=>K (.row nx) (ku id|||m) (ku id|||ku nx) ((h.set id (Z (.dead p sz (ah xs)))).set nx (Z (.rows ty p T (xs++q)))) (nx+1)
        else U
       |none=>U)
      |_=>U)
     |.ful S xs=>if aw m 0 then (match sM (S:=.sl S) (.sl T) xs with
      |some xs=>chk (bc (ah xs+ah q) bytes) λ_=>aF (aw (ah q) 0) (K (.f (.sl T) xs) 0 0 h nx) (K (.row nx) 0 (0|||ku nx) ((d9 0 h).set nx (Z (.rows ty aa T (xs++q)))) (nx+1))
      |none=>U) else U
     |.emp=>chk (bc (ah q) bytes) λ_=>K (.row nx) m (ku nx) (h.set nx (Z (.rows ty M T q))) (nx+1)
     |.nil=>chk (bc (ah q) bytes) λ_=>K (.row nx) m (ku nx) (h.set nx (Z (.rows ty M T q))) (nx+1)
     |_=>U)
    |none=>U) else U
   |_,_,_=>U
  |.copy sz d x=>match fe e d,fe e x with
   |some (.row id),Z y=>(match h.get id with
    |some (.rows ty p T xs)=>if aw sz T.size then (match Bs h (.sl T) y with
     |some (q,m)=>if !(aO m id)&& !p then
       K (.f (.int .i64) (aU (iO (ah q) (ah xs)))) (ku id|||m) (ku id) (h.set id (Z (.rows ty p T (Sk xs q)))) nx else U
     |none=>U) else U
    |_=>U)
   |_,_=>U
  |.clr sz z x=>match fe e x with
   |some (.rtl id j)=>(match h.get id with
    |some (.rows ty p T xs)=>if (aw sz T.size&&RD z (sD T))&&mK z then
      chk (cP 0 j&&fK j (ah xs)) λ_=>K (.tup []) (ku id) (0|||ku id) ((d9 0 h).set id (Z (.rows ty p T (cM (aP j) xs++aA (ah xs-aP j) T.zero)))) nx
     else U
    |_=>U)
   |_=>U
  |.mv x=>match fe e x with|some v=>K v 0 0 h nx|none=>U
  |.pick c a b=>match fe e c with
   |some (.f .bool t)=>aF t (match fe e a with|some v=>K v 0 0 h nx|none=>U) (match fe e b with|some v=>K v 0 0 h nx|none=>U)
   |_=>U
  |.alloc ty z=>match Jw z with
   |some l=>K (.ptr nx 0) 0 (ku nx) (h.set nx (Z (.cells (Z ty) l))) (nx+1)
   |none=>U
  |.box ty x=>match fe e x with
   |some v=>(match v.cs with|some l=>K (.ptr nx 0) 0 (ku nx) (h.set nx (Z (.cells (Z ty) l))) (nx+1)|none=>U)
   |none=>U
  |.build z parts=>match Jw z with
   |some l=>(match IP l e parts with|some cs=>K (.agg cs) 0 0 h nx|none=>U)
   |none=>U
  |.load sz ag x=>match fe e x with
   |some (.ptr id off)=>(match h.get id with
    |some (.cells (Z _) l)=>(match Sy l off sz ag with|some v=>K v (ku id) 0 h nx|none=>U)
    |_=>U)
   |some (.pel id sz' j off)=>(match h.get id with
    |some (.rows _ _ T xs)=>if aw sz' T.size then chk (e9 j xs.length) λ_=>(match nY 40 T (aG xs j) off sz ag with|some v=>K v (ku id) 0 h nx|none=>U) else U
    |some (.cells (Z _) l)=>(match ag with
     |true=>U
     |false=>if aw sz 1&&aw sz' 1&&aw off 0 then (match Z4 l with
      |some ⟨T,xs⟩=>chk (e9 j l.length) λ_=>K (.f T (aG xs j)) (ku id) 0 h nx
      |none=>U) else U)
    |_=>U)
   |some (.fel T xs j _ off)=>(match nY 40 T (aG xs j) off sz ag with|some v=>K v 0 0 h nx|none=>U)
   |_=>U
  |.store sz x v=>match fe e x,fe e v with
   |some (.ptr id off),Z y=>(match h.get id with
    |some (.cells (Z ty) l)=>(match y.cs with
     |some cs=>if cs.length==sz&&dN (off+sz) l.length then K .undef (ku id) (ku id) (h.set id (Z (.cells (Z ty) (splice l off cs)))) nx else U
     |none=>U)
    |_=>U)
   |some (.pel id sz' j off),Z y=>(match h.get id with
    |some (.rows ty p T xs)=>if aw sz' T.size then chk (e9 j xs.length) λ_=>(match gK h y 40 T (aG xs j) off sz with
     |some (z,m)=>if aO m id then U else K .undef (m|||ku id) (m|||ku id) ((d9 m h).set id (Z (.rows ty p T (cj xs j z)))) nx
     |none=>U) else U
    |some (.cells (Z ty) l)=>if aw sz 1&&(aw sz' 1&&aw off 0) then chk (e9 j l.length) λ_=>(match y.cs with
     |some cs=>if aw cs.length 1 then K .undef (ku id) (ku id) (h.set id (Z (.cells (Z ty) (splice l j.toNat cs)))) nx else U
     |none=>U) else U
    |_=>U)
   |_,_=>U
  |.nilc x=>match fe e x with
   |some (.ptr id off)=>K (.ptr id off) 0 0 h nx
   |some (.pel id sz j off)=>K (.pel id sz j off) 0 0 h nx
   |some (.fel T xs j hj off)=>K (.fel T xs j hj off) 0 0 h nx
   |some (.clo g cap)=>K (.clo g cap) 0 0 h nx
   |_=>U
  |.bin op x y=>match fe e x,fe e y with
   |some u,Z v=>afw op u v λr=>K r 0 0 h nx
   |_,_=>U
  |.eqs neg ds x y=>match qN ds,fe e x,fe e y with
   |some T,Z u,Z v=>if u.isC||v.isC||Tc x||Tc y then U else (match u.cs,v.cs with
    |some lu,Z lv=>(match eM PT.leaf 40 T lu,eM PT.leaf 40 T lv with
     |some (a,_,[]),Z (b,_,[])=>K (.f .bool (Mo T a b !=neg)) 0 0 h nx
     |_,_=>U)
    |_,_=>U)
   |_,_,_=>U
  |.isnil neg x=>match fe e x with
   |some .nil=>K (.f .bool (!neg)) 0 0 h nx
   |some .emp=>K .anyb 0 0 h nx
   |some (.f (.sl _) xs)=>aF (aw (ah xs) 0) (K .anyb 0 0 h nx) (K (.f .bool neg) 0 0 h nx)
   |some (.row id)=>(match h.get id with
    |some (.rows _ aa _ _)=>K (.f .bool neg) 0 0 h nx
    |_=>U)
   |_=>U
  |.eqb neg x y=>match fe e x,fe e y with
   |some (.f .bool a),Z (.f .bool b)=>K (.f .bool ((a==b) !=neg)) 0 0 h nx
   |_,_=>U
  |.not x=>match fe e x with|some (.f .bool b)=>K (.f .bool (!b)) 0 0 h nx|_=>U
  |.conv k x=>match fe e x with|some (.f (.int _) n)=>K (.f (.int k) (a9 k n)) 0 0 h nx|_=>U
  |.slc sz x lo hi mx=>match fe e x with
   |some v=>(match lo,hi,mx with
    |none,Z (.const (.int _ 0)),Z (.const (.int _ 0))=>if (lenOf h v).isSome then K .emp 0 0 h nx else U
    |none,Z b,U=>(match v,fe e b with
     |.f (.sl T) xs,Z (.f (.int _) j)=>if aw sz T.size then chk (cP 0 j&&cP j (ah xs)) λ_=>K (.f (.sl T) (cM (aP j) xs)) 0 0 h nx else U
     |.row id,Z (.f (.int _) j)=>(match h.get id with
      |some (.rows ty p T xs)=>if aw sz T.size then
        chk (cP 0 j&&fK j (ah xs)) λ_=>K (.row nx) (ku id) (ku id|||ku nx) ((h.set id (Z (.dead p sz (ah xs)))).set nx (Z (.rows ty aa T (cM (aP j) xs)))) (nx+1)
       else U
      |_=>U)
     |_,_=>U)
    |some b,U,U=>(match v,fe e b with
     |.f (.sl T) xs,Z (.f (.int _) j)=>if aw sz T.size then chk (cP 0 j&&cP j (ah xs)) λ_=>K (.f (.sl T) (List.drop (aP j) xs)) 0 0 h nx else U
     |.row id,Z (.f (.int _) j)=>(match h.get id with
      |some (.rows _ _ T xs)=>if aw sz T.size then chk (cP 0 j&&fK j (ah xs)) λ_=>K (.rtl id j) 0 0 h nx else U
      |_=>U)
     |_,_=>U)
    |none,Z b,Z b'=>(match v,fe e b,fe e b' with
     |.f (.sl T) xs,Z (.f (.int _) j),Z (.f (.int _) j')=>if aw sz T.size then chk ((decide (j=j')&&cP 0 j)&&cP j (ah xs)) λ_=>K (.ful T (cM (aP j) xs)) 0 0 h nx else U
     |_,_,_=>U)
    |_,_,_=>U)
   |none=>U
  |.fad off x=>match fe e x with
   |some (.ptr id o)=>K (.ptr id (o+off)) 0 0 h nx
   |some (.pel id sz j o)=>K (.pel id sz j (o+off)) 0 0 h nx
   |some (.fel T xs j hj o)=>K (.fel T xs j hj (o+off)) 0 0 h nx
   |_=>U
  |.fld off sz ag x=>match fe e x with
   |some (.agg l)=>(match Sy l off sz ag with|some v=>K v 0 0 h nx|none=>U)
   |some (.f T v)=>if T.one then U else (match nY 40 T v off sz ag with|some v=>K v 0 0 h nx|none=>U)
   |_=>U
  |.iad sz x i=>match fe e x,fe e i with
   |some (.row id),Z (.f (.int _) j)=>(match h.get id with
    |some (.rows _ _ T xs)=>if aw sz T.size then chk (e9 j xs.length) λ_=>K (.pel id sz j 0) 0 0 h nx else U
    |_=>U)
   |some (.f (.sl T) xs),Z (.f (.int _) j)=>if aw sz T.size then chk (e9 j (ah xs)) λhj=>K (.fel T xs j hj 0) 0 0 h nx else U
   |some (.csl id sz' n),Z (.f (.int _) j)=>if aw sz' sz then chk (cP 0 j&&fK j n) λ_=>K (.ptr id (aP j*sz)) 0 0 h nx else U
   |_,_=>U
  |.iada n sz x i=>match fe e x,fe e i with
   |some (.ptr id off),Z (.f (.int _) j)=>(match arrB n sz off (h.get id) with
    |some _=>chk (cP 0 j&&fK j n) λ_=>K (.pel id sz j off) 0 0 h nx
    |none=>chk (cP 0 j&&fK j n) λ_=>K (.ptr id (off+aP j*sz)) 0 0 h nx)
   |_,_=>U
  |.idx n sz ag x i=>match fe e x,fe e i with
   |some v,Z (.f (.int _) j)=>(match aio n sz v ag with
    |some ⟨T,xs⟩=>chk (cP 0 j&&fK j n) λ_=>K (.f T (aG xs j)) 0 0 h nx
    |none=>(match v with
     |.agg l=>chk (cP 0 j&&fK j n) λ_=>(match Sy l (aP j*sz) sz ag with|some v=>K v 0 0 h nx|none=>U)
     |.f T v=>if T.one then U else chk (cP 0 j&&fK j n) λ_=>(match nY 40 T v (aP j*sz) sz ag with|some v=>K v 0 0 h nx|none=>U)
     |_=>U))
   |_,_=>U
  |.ext x i=>match fe e x with|some (.tup l)=>(match l[i]? with|some v=>K v 0 0 h nx|none=>U)|_=>U
  |.len x=>match fe e x with
   |some v=>(match lenOf h v with|some n=>K (.f (.int .i64) (aU n)) 0 0 h nx|none=>U)
   |none=>U
  |.lens x=>match fe e x with
   |some (.f .str s)=>K (.f (.int .i64) (aU (ah s))) 0 0 h nx
   |_=>U
  |.max x y=>match fe e x,fe e y with
   |some (.f (.int k) a),Z (.f (.int k') b)=>if k==k' then K (.f (.int k) (lq a b)) 0 0 h nx else U
   |_,_=>U
  |.min x y=>match fe e x,fe e y with
   |some (.f (.int k) a),Z (.f (.int k') b)=>if k==k' then K (.f (.int k) (F4 a b)) 0 0 h nx else U
   |_,_=>U
  |.sidx x i=>match fe e x,fe e i with
   |some (.f .str s),Z (.f (.int _) j)=>chk (e9 j (ah s)) λ_=>K (.f (.int .u8) (qJ s j)) 0 0 h nx
   |_,_=>U
  |.rng x=>match fe e x with
   |some (.f .str s)=>K (.ptr nx 0) 0 (0|||ku nx) ((d9 0 h).set nx (Z (.mp itK .un [((s,0),())]))) (nx+1)
   |_=>U
  |.nxt x=>match fe e x with
   |some (.ptr id 0)=>(match h.get id with
    |some (.mp K' V es)=>(match itE K' V es with
     |some (s,p)=>aF (eS p (ah s)) (K (.tup [.f .bool M,.f (.int .i64) (aU p),.f (.int .i32) (Nj s p)]) (ku id) (0|||ku id) ((d9 0 h).set id (Z (.mp itK .un [((s,aU (p+So s p)),())]))) nx)
       (K (.tup [.f .bool aa]) (ku id) (0|||ku id) ((d9 0 h).set id (Z (.mp itK .un [((s,aU p),())]))) nx)
     |none=>U)
    |_=>U)
   |_=>U
  |.mkm=>K (.mp nx) 0 (0|||ku nx) ((d9 0 h).set nx (Z (.mp .un .un []))) (nx+1)
  |.lku str ok z x k=>match fe e x,fe e k with
   |some (.mp id),Z (.f KT D)=>(match h.get id with
    |some (.mp K' V es)=>if Wv str KT&&S5 K' then (match mpE K' V es with
     |true=>(match cst z with|some v=>K (pkT ok v (.f .bool aa)) (ku id) 0 h nx|none=>U)
     |false=>(match sM (S:=KT) K' D,cst z with
      |some kv',Z (.f A L)=>(match sM (S:=A) V L with
       |some zv'=>K (pkT ok (.f V (yl kv' es zv')) (.f .bool (Nt kv' es))) (ku id) 0 h nx
       |none=>U)
      |_,_=>U)) else U
    |some (.cells U l)=>(match sM (S:=KT) (.int .i64) D with
     |some n=>if !str&&(!ok&&sV z)&&(cP 0 n&&fK n l.length) then (match l[aP n]? with|some v=>K v (ku id) 0 h nx|none=>U) else U
     |none=>U)
    |_=>U)
   |_,_=>U
  |.mup str x k v=>match fe e x,fe e k,fe e v with
   |some (.mp id),Z (.f KT D),Z (.f VT I)=>(match h.get id with
    |some (.mp K' V es)=>if (Wv str KT&&VT.one)&&S5 K' then (match mpE K' V es with
     |true=>K .undef (ku id) (0|||ku id) ((d9 0 h).set id (Z (.mp KT VT [(D,I)]))) nx
     |false=>(match sM (S:=KT) K' D,sM (S:=VT) V I with
      |some kv',Z vv'=>K .undef (ku id) (0|||ku id) ((d9 0 h).set id (Z (.mp K' V (AU kv' vv' es)))) nx
      |_,_=>U)) else U
    |_=>U)
   |some (.mp id),Z (.f KT D),Z (.row i)=>(match h.get id with
    |some (.cells U l)=>(match sM (S:=KT) (.int .i64) D with
     |some n=>if !str&&(cP 0 n&&fK n l.length) then K .undef (ku id) (0|||ku id) ((d9 0 h).set id (Z (.cells U (splice l (aP n) [.row i])))) nx else U
     |none=>U)
    |_=>U)
   |_,_,_=>U
  |.lenm x=>match fe e x with
   |some (.mp id)=>(match h.get id with
    |some (.mp K' _ es)=>if S5 K' then K (.f (.int .i64) (aU es.length)) (ku id) 0 h nx else U
    |_=>U)
   |_=>U
  |.mkf f caps=>match ER e caps with|some l=>K (.clo f l) 0 0 h nx|none=>U
  |_=>U
def Yr {R:Type} (e:iL) (g:J (Nat×Bool)) (K:Bool->iL->J R):J R:=match g with
 |none=>K M e
 |some (t,want)=>match e.get t with
  |some (.f .bool b)=>(match want with
   |true=>aF b (K M (e.set t (Z (.f .bool M)))) (K aa (e.set t (Z (.f .bool aa))))
   |false=>aF b (K aa (e.set t (Z (.f .bool M)))) (K M (e.set t (Z (.f .bool aa)))))
  |some .undef=>K aa e
  |_=>U
def Dn (e:iL) (d:J Nat) (v:TV):iL:=match d with
 |none=>e
 |some d=>e.set d (Z v)
structure TS where
 e:iL
 h:bl
 nx:Nat
def KC {R:Type} (con:FuncId->J cr) (b9:TypeId->J Ty):Y sj->TS->Y FPm->(TS->Y FPm->J R)->J R
 |[],s,fs,K=>K s fs.reverse
 |o::r,s,fs,K=>Yr s.e o.guard λrun e=>match run with
  |true=>dS con b9 o.op e s.h s.nx λv rd wr h nx=>if KH h v then KC con b9 r ⟨Dn e o.dst v,h,nx⟩ (⟨rd,wr⟩::fs) K else U
  |false=>KC con b9 r ⟨Dn e o.dst .undef,s.h,s.nx⟩ (⟨0,0⟩::fs) K
inductive Adj where
 |nil (k:Nat) (ty:TypeId) (T:Ty)
 |cel (k:Nat) (off:Nat) (ty:TypeId) (T:Ty)
 |mpt (k:Nat) (K V:Ty)
 |mz (k n:Nat)
 |pk (k:Nat) (off:Nat) (T:Ty)
 |ren (k:Nat) (off:Nat)
mutual
def Ku (id sz n:Nat):TV->TV
 |.csl i s m=>if aw i id&&aw s sz&&aw m n then .row id else .csl i s m
 |.agg l=>.agg (BB id sz n l)
 |.tup l=>.tup (BB id sz n l)
 |.clo g l=>.clo g (BB id sz n l)
 |.f T v=>.f T v
 |.fel T xs j h off=>.fel T xs j h off
 |.pel a b c d=>.pel a b c d
 |.ptr a b=>.ptr a b
 |.row a=>.row a
 |.rtl a j=>.rtl a j
 |.ful T xs=>.ful T xs
 |.emp=>.emp
 |.nil=>.nil
 |.mp a=>.mp a
 |.undef=>.undef
 |.np=>.np
 |.anyb=>.anyb
def BB (id sz n:Nat):Y TV->Y TV
 |[]=>[]
 |x::r=>Ku id sz n x::BB id sz n r
end
def Wf (id sz n:Nat):ia->ia
 |.cells ty l=>.cells ty (BB id sz n l)
 |.rows ty p T xs=>.rows ty p T xs
 |.dead p s m=>.dead p s m
 |.mp K V es=>.mp K V es
def aiz (s:TS) (k off:Nat):J (Nat×Nat×Nat):=match s.e.get k with
 |some (.csl id sz n)=>Z (id,sz,n)
 |some (.agg l)=>(match l[off]? with|some (.csl id sz n)=>Z (id,sz,n)|_=>U)
 |some (.ptr a o)=>(match s.h.get a with
  |some (.cells (Z _) l)=>(match l[o+off]? with|some (.csl id sz n)=>Z (id,sz,n)|_=>U)
  |_=>U)
 |_=>U
def pkS (s:TS) (T:Ty) (id sz n:Nat):J TS:=match s.h.get id with
 |some (.cells (Z ty) l)=>if aw sz T.size then (match ya s.h T n l with
  |some (xs,m)=>if aO m id then U else Z ⟨PT.updI (λ_ v=>Ku id sz n v) 1 0 s.e,(PT.updI (λ_ b=>Wf id sz n b) 1 0 (d9 m s.h)).set id (Z (.rows ty aa T xs)),s.nx⟩
  |none=>U) else U
 |_=>U
def ac6:TV->Bool
 |.nil=>M
 |.emp=>M
 |_=>aa
def aig:J TV->J (Nat×Nat)
 |some (.ptr id o)=>Z (id,o)
 |some (.csl id _ _)=>Z (id,0)
 |some (.mp id)=>Z (id,0)
 |_=>U
def Ly (s:TS):Adj->J TS
 |.nil k ty T=>match s.e.get k with
  |some v=>if ac6 v then Z ⟨s.e.set k (Z (.row s.nx)),s.h.set s.nx (Z (.rows ty M T [])),s.nx+1⟩ else Z s
  |none=>U
 |.cel k off ty T=>match aig (s.e.get k) with
  |some (id,o)=>(match s.h.get id with
   |some (.cells cty l)=>(match l[o+off]? with
    |some v=>if ac6 v then Z ⟨s.e,(s.h.set s.nx (Z (.rows ty M T []))).set id (Z (.cells cty (splice l (o+off) [.row s.nx]))),s.nx+1⟩ else Z s
    |none=>U)
   |_=>U)
  |_=>U
 |.mpt k K V=>match s.e.get k with
  |some (.mp id)=>(match s.h.get id with
   |some (.mp K' V' es)=>(match mpE K' V' es&&S5 K with
    |true=>Z ⟨s.e,s.h.set id (Z (.mp K V [])),s.nx⟩
    |false=>Z s)
   |_=>U)
  |_=>U
 |.mz k n=>match s.e.get k with
  |some (.mp id)=>(match s.h.get id with
   |some (.mp K' V' es)=>(match mpE K' V' es with
    |true=>Z ⟨s.e,s.h.set id (Z (.cells U (aA n .nil))),s.nx⟩
    |false=>U)
   |_=>Z s)
  |_=>U
 |.pk k off T=>match aiz s k off with
  |some (id,sz,n)=>pkS s T id sz n
  |none=>U
 |.ren k off=>match s.e.get k with
  |some (.ptr b o)=>(match s.h.get b with
   |some (.cells (Z cty) l)=>(match l[o+off]? with
    |some (.row id)=>(match s.h.get id with
     |some (.rows ty p T xs)=>Z ⟨s.e,((s.h.set id (Z (.dead p T.size xs.length))).set s.nx (Z (.rows ty p T xs))).set b (Z (.cells (Z cty) (splice l (o+off) [.row s.nx]))),s.nx+1⟩
     |_=>U)
    |_=>U)
   |_=>U)
  |some (.row id)=>(match s.h.get id with
   |some (.rows ty p T xs)=>Z ⟨s.e.set k (Z (.row s.nx)),(s.h.set id (Z (.dead p T.size xs.length))).set s.nx (Z (.rows ty p T xs)),s.nx+1⟩
   |_=>U)
  |_=>U
def Xu (s:TS):Y Adj->J TS
 |[]=>Z s
 |a::r=>match Ly s a with|some s'=>Xu s' r|none=>U
structure Yh where
 keep:ι
 ks:ι
 t:Tm
 pre:List Adj
abbrev Yh.D (A:Yh):Type:=A.t.ty.den
mutual
def tK:TV->Bool
 |.f _ _=>M
 |.fel _ _ _ _ _=>M
 |.emp=>M
 |.nil=>M
 |.undef=>M
 |.np=>M
 |.anyb=>M
 |.agg l=>qm l
 |.tup l=>qm l
 |.pel _ _ _ _=>aa
 |.ptr _ _=>aa
 |.csl _ _ _=>aa
 |.row _=>aa
 |.rtl _ _=>aa
 |.ful _ _=>aa
 |.mp _=>aa
 |.clo _ _=>aa
def qm:Y TV->Bool
 |[]=>M
 |x::r=>tK x&&qm r
end
def B5 (am:Nat) (e:iL):ι->iL
 |[]=>PT.leaf
 |k::r=>match e.get k with|some v=>if tK v&& !(aO am k) then (B5 am e r).set k (Z v) else B5 am e r|none=>B5 am e r
def nT (e:iL):ι->J (Y TV)
 |[]=>Z []
 |k::r=>match e.get k with|some v=>(match nT e r with|some l=>Z (v::l)|none=>U)|none=>U
def Wi (e:iL):ι->Y TV->iL
 |k::r,v::l=>(Wi e r l).set k (Z v)
 |_,_=>e
def G_ (am:Nat) (e0 e:iL):ι->Bool
 |[]=>M
 |k::r=>(match e0.get k with
  |some v=> !(tK v)||aO am k||(match e.get k with|some _=>M|none=>aa)
  |none=>M)&&G_ am e0 e r
def Lb (np:Nat) (A:Yh) (am:Nat) (d s:TS):J A.D:=if dN np A.t.bs.length&&G_ am d.e s.e A.keep then (match Xu s A.pre with
 |some s=>(match nT s.e A.ks with
  |some vs=>(match Dv np A.t vs s.h with
   |some ⟨x,_,_,_⟩=>Z x
   |none=>U)
  |none=>U)
 |none=>U) else U
def FX (A:Yh) (am:Nat) (s:TS) (x:A.D):J TS:=match B6 A.t x with
 |some (vs,h)=>if aw vs.length A.ks.length then Z ⟨Wi (B5 am s.e A.keep) A.ks vs,h,A.t.bs.length⟩ else U
 |none=>U
inductive TC where
 |skip
 |reg (ops:List sj) (prs:List (Nat×Nat))
 |seq (a b:TC)
 |jseq (A:Yh) (a b:TC)
 |cond (c:Nat) (a b:TC)
 |block (id:Nat) (b:TC)
 |jblock (A:Yh) (id:Nat) (b:TC)
 |loop (A:Yh) (b:TC)
 |exit (id:Nat)
 |ret
 |defer (f:FuncId) (caps:List Operand) (t:Nat)
 |adj (l:List Adj) (c:TC)
 |split (k off lo n:Nat) (c:TC)
 |bsp (t:Nat) (a b:TC)
 |unl (n:Nat) (b:TC)
 |bad
def OA:Y sj->Nat->Nat
 |[],acc=>acc
 |o::r,acc=>OA r (match o.dst with|some d=>acc|||ku d|none=>acc)
def KK:ι->Nat->Nat
 |[],acc=>acc
 |k::r,acc=>KK r (acc|||ku k)
def mq:Y Adj->Nat->Nat
 |[],acc=>acc
 |.nil k _ _::r,acc=>mq r (acc|||ku k)
 |.cel _ _ _ _::r,acc=>mq r acc
 |.mpt _ _ _::r,acc=>mq r acc
 |.mz _ _::r,acc=>mq r acc
 |.pk _ _ _::r,acc=>mq r acc
 |.ren k _::r,acc=>mq r (acc|||ku k)
def TC.asg:TC->Nat->Nat
 |.reg ops _,acc=>OA ops acc
 |.seq a b,acc=>b.asg (a.asg acc)
 |.jseq A a b,acc=>b.asg (a.asg (KK A.ks acc))
 |.cond _ a b,acc=>b.asg (a.asg acc)
 |.block _ b,acc=>b.asg acc
 |.jblock A _ b,acc=>b.asg (KK A.ks acc)
 |.loop A b,acc=>b.asg (KK A.ks acc)
 |.defer _ _ t,acc=>acc|||ku t
 |.adj l c,acc=>c.asg (mq l acc)
 |.split _ _ _ _ c,acc=>c.asg acc
 |.bsp _ a b,acc=>b.asg (a.asg acc)
 |.unl _ b,acc=>b.asg acc
 |.skip,acc=>acc
 |.exit _,acc=>acc
 |.ret,acc=>acc
 |.bad,acc=>acc
inductive aap where
 |j (A:Yh)
 |a (l:List Adj)
 |s (k off lo n:Nat)
 |b (t k off lo n:Nat)
 |u (n:Nat)
def Hs (H:PT aap) (n:Nat) (c:TC):TC:=match H.get n with|some (.a l)=>.adj l c|some (.s k off lo m)=>.split k off lo m c|some (.b t k off lo m)=>.bsp t (.split k off lo m c) c|_=>c
def CR (H:PT aap):SC->Nat->TC×Nat
 |.skip,n=>(Hs H n .skip,n+1)
 |.reg o p,n=>(Hs H n (.reg o p),n+1)
 |.seq a b,n=>match CR H a (n+1) with
  |(a',k)=>(match CR H b k with|(b',k')=>((match H.get n with|some (.j A)=>.jseq A a' b'|_=>.seq a' b'),k'))
 |.cond c a b,n=>match CR H a (n+1) with
  |(a',k)=>(match CR H b k with|(b',k')=>(Hs H n (.cond c a' b'),k'))
 |.block id b,n=>match CR H b (n+1) with|(b',k)=>((match H.get n with|some (.j A)=>.jblock A id b'|_=>.block id b'),k)
 |.loop b,n=>match CR H b (n+1) with|(b',k)=>((match H.get n with|some (.j A)=>.loop A b'|some (.u m)=>.unl m b'|_=>.bad),k)
 |.exit id,n=>(Hs H n (.exit id),n+1)
 |.ret,n=>(Hs H n .ret,n+1)
 |.defer f c t,n=>(.defer f c t,n+1)
 |.bad,n=>(.bad,n+1)
def Zc (s:TS) (k off:Nat):J (IntKind×Int):=match s.e.get k with
 |some (.f (.int kd) v)=>Z (kd,v)
 |some (.ptr a o)=>(match s.h.get a with
  |some (.cells (Z _) l)=>(match l[o+off]? with|some (.f (.int kd) v)=>Z (kd,v)|_=>U)
  |_=>U)
 |_=>U
def SJ (s:TS) (k off:Nat) (kd:IntKind) (v:Int):J TS:=match s.e.get k with
 |some (.f (.int _) _)=>Z ⟨s.e.set k (Z (.f (.int kd) v)),s.h,s.nx⟩
 |some (.ptr a o)=>(match s.h.get a with
  |some (.cells (Z ty) l)=>Z ⟨s.e,s.h.set a (Z (.cells (Z ty) (splice l (o+off) [.f (.int kd) v]))),s.nx⟩
  |_=>U)
 |_=>U
def spl {R:Type} (v:Int) (f:Nat->J R):Nat->Nat->J R
 |_,0=>U
 |i,m+1=>aF (decide ((v:Int)=aU i)) (f i) (spl v f (i+1) m)
def abb {R:Type} (f:TS->(Ex->TS->J R)->J R):Nat->TS->(Ex->TS->J R)->J R
 |0,_,_=>U
 |m+1,s,K=>f s λex s'=>match ex with
  |.normal=>abb f m s' K
  |ex=>K ex s'
def nC {R:Type} (np:Nat) (con:FuncId->J cr) (b9:TypeId->J Ty) (inert:FuncId->Bool):TC->TS->(Ex->TS->J R)->J R
 |.skip,s,K=>K .normal s
 |.reg ops prs,s,K=>KC con b9 ops s [] λs' fs=>if EQ fs prs then K .normal s' else U
 |.seq a b,s,K=>nC np con b9 inert a s λex s'=>match ex with|.normal=>nC np con b9 inert b s' K|ex=>K ex s'
 |.jseq A a b,s,K=>jn (nC np con b9 inert a s λex s'=>match ex with
   |.normal=>av (Lb np A (a.asg 0) s s') λx=>Z (.inr x)
   |ex=>av (K ex s') λr=>Z (.inl r)) λx=>(match FX A (a.asg 0) s x with|some s'=>nC np con b9 inert b s' K|none=>U)
 |.cond c a b,s,K=>match s.e.get c with
  |some (.f .bool t)=>aF t (nC np con b9 inert a s K) (nC np con b9 inert b s K)
  |some .anyb=>El (nC np con b9 inert a s K) (nC np con b9 inert b s K)
  |_=>U
 |.block id b,s,K=>nC np con b9 inert b s λex s'=>match ex with
  |.exit i=>if aw i id then K .normal s' else K (.exit i) s'
  |ex=>K ex s'
 |.jblock A id b,s,K=>jn (nC np con b9 inert b s λex s'=>match ex with
   |.normal=>av (Lb np A (b.asg 0) s s') λx=>Z (.inr x)
   |.exit i=>if aw i id then av (Lb np A (b.asg 0) s s') λx=>Z (.inr x) else av (K (.exit i) s') λr=>Z (.inl r)
   |.ret=>av (K .ret s') λr=>Z (.inl r)) λx=>(match FX A (b.asg 0) s x with|some s'=>K .normal s'|none=>U)
 |.loop A b,s,K=>av (Lb np A (b.asg 0) s s) λx=>iter (λx=>match FX A (b.asg 0) s x with
   |some s'=>nC np con b9 inert b s' λex s'=>(match ex with
    |.normal=>av (Lb np A (b.asg 0) s s') λy=>Z (.inl y)
    |ex=>av (K ex s') λr=>Z (.inr r))
   |none=>U) x
 |.exit id,s,K=>K (.exit id) s
 |.ret,s,K=>K .ret s
 |.defer f caps t,s,K=>match ER s.e caps with
  |some l=>if inert f then K .normal ⟨s.e.set t (Z (.clo f l)),s.h,s.nx⟩ else U
  |none=>U
 |.adj l c,s,K=>match Xu s l with|some s'=>nC np con b9 inert c s' K|none=>U
 |.split k off lo n c,s,K=>match Zc s k off with
  |some (kd,v)=>spl v (λi=>match SJ s k off kd (aU i) with|some s'=>nC np con b9 inert c s' K|none=>U) lo n
  |none=>U
 |.bsp t a b,s,K=>match s.e.get t with
  |some (.f .bool v)=>aF v (nC np con b9 inert a ⟨s.e.set t (Z (.f .bool M)),s.h,s.nx⟩ K) (nC np con b9 inert b ⟨s.e.set t (Z (.f .bool aa)),s.h,s.nx⟩ K)
  |_=>U
 |.unl n b,s,K=>abb (λs K=>nC np con b9 inert b s K) n s K
 |.bad,_,_=>U
def JW:Nat->Y TV->iL
 |_,[]=>PT.leaf
 |k,x::r=>(JW (k+1) r).set k (Z x)
def rvT (s:TS):RV->J TV
 |.tmp t=>s.e.get t
 |.cell a sz ag=>match s.e.get a with
  |some (.ptr id off)=>(match s.h.get id with|some (.cells (Z _) l)=>Sy l off sz ag|_=>U)
  |_=>U
def SL (s:TS):Y RV->J (Y TV)
 |[]=>Z []
 |x::r=>match rvT s x with|some v=>(match SL s r with|some l=>Z (v::l)|none=>U)|none=>U
structure FT where
 pre:Tm
 post:Tm
 hints:PT aap
def YA (con:FuncId->J cr) (b9:TypeId->J Ty) (inert:FuncId->Bool) (F:J SF) (D:FT) (x:D.pre.ty.den):J D.post.ty.den:=
 match F with
 |some d=>(match B6 D.pre x with
  |some (args,h)=>if dN args.length d.nt&&dN D.pre.bs.length D.post.bs.length then
    nC D.pre.bs.length con b9 inert (CR D.hints d.code 0).1 ⟨JW 0 args,h,D.pre.bs.length⟩ λex s=>(match ex with
    |.exit _=>U
    |_=>(match SL s d.res with
     |some l=>(match Dv D.pre.bs.length D.post l s.h with
      |some ⟨y,_,_,_⟩=>(match B6 D.post y with|some _=>Z y|none=>U)
      |none=>U)
     |none=>U)) else U
  |none=>U)
 |none=>U
abbrev aM:Ty:=(.int .i64)
abbrev kG:Ty:=(.st (.pr .str (.pr aM (.pr aM (.pr .bool aM)))))
abbrev qK:Ty:=(.st (.pr .str .bool))
abbrev lZ:Ty:=(.st (.pr .str aM))
abbrev og:Ty:=(.st (.pr aM (.pr aM aM)))
abbrev mO:Ty:=(.st (.pr (.sl kG) (.pr (.sl qK) (.pr (.sl lZ) (.pr (.sl .str) (.pr (.sl .str) (.sl og)))))))
abbrev kM:Ty:=(.sl (.sl aM))
abbrev eI:Ty:=(.st (.pr aM (.pr (.sl aM) (.pr kM aM))))
abbrev qH:Ty:=(.st (.pr aM (.pr aM (.pr aM (.pr aM (.pr aM aM))))))
abbrev dt:Ty:=(.st (.pr aM (.sl aM)))
abbrev mg:Ty:=(.sl .bool)
abbrev gF:Ty:=(.st (.pr aM (.pr aM .bool)))
abbrev C_:Ty:=(.st (.pr (.sl dt) (.pr aM (.pr mg (.sl gF)))))
abbrev gG:Ty:=(.st (.pr aM (.pr aM (.pr aM (.pr aM (.pr aM (.pr (.sl aM) (.sl aM))))))))
abbrev FP:Ty:=(.st (.pr aM (.pr aM (.pr .str (.pr aM (.pr aM .str))))))
abbrev sB:Ty:=(.st (.pr .str (.pr aM (.pr (.sl .str) (.sl .sm)))))
abbrev MV:Ty:=(.st (.pr (.sl FP) (.sl sB)))
abbrev v7:Ty:=(.st (.pr aM (.sl qH)))
abbrev ua:Ty:=(.st (.pr mO (.sl v7)))
abbrev u0:Ty:=(.st (.pr C_ (.pr (.sl aM) (.pr (.sl aM) (.sl eI)))))
abbrev iM:Ty:=(.st (.pr C_ (.pr (.sl aM) (.pr (.sl aM) (.sl aM)))))
abbrev C':Ty:=(.sl (.int .u8))
abbrev xQ:Ty:=(.st (.pr C' aM))
abbrev im:Ty:=(.st (.pr aM aM))
abbrev Ka24:Ty:=(.st (.pr mO (.sl gG)))
abbrev RJ:=(ζ×Int×Int×Bool×Int)
abbrev nz:=(Y RJ)
abbrev mr:=(Y (ζ×Bool))
abbrev jC:=(ζ×Int)
abbrev dj:=(Y ζ)
abbrev eP:=(nz×mr×(Y jC)×dj×dj×Y ν)
abbrev rS:=(nz×mr×(Y jC)×dj×dj×(Y ν)×dj×Int×Int)
abbrev iI:=(Y (Int×η))
abbrev dI:=(Int×Int×Bool)
abbrev pR:=(iI×Int×(θ)×Y dI)
abbrev uX:=(Int×(η)×(Y η)×Int)
abbrev lj:=(ω)
abbrev jD:=(Int×Int×Int×Int×Int×(η)×η)
abbrev ag2:=(Int×Int×(ζ)×Int×Int×ζ)
abbrev vY:=(Y ag2)
abbrev vX:=(ζ×Int×dj×Y Sx)
abbrev Bu:=(Int×Int×Bool×Bool×Bool×Bool)
abbrev Bt:=(eP×Y (Int×Y lj))
abbrev C7:=(υ)
abbrev fV:=(pR×(η)×(η)×η)
abbrev gS:=(η×Int)
abbrev w7:=(pR×(η)×(η)×Y uX)
abbrev UH:=(Int×Int×(ζ)×(ζ)×Int×Int×ζ)
abbrev wZ:=(vY×(Y vX)×Int)
abbrev RK:=(Bool×Y ζ)
abbrev Ya23:=(Int×Int×uX×uX×Int×(η)×(Y η)×Int)
abbrev Ya24:=(uX×Int×Int×uX×Int×(η)×(Y η)×Int)
abbrev Ya25:=(uX×uX×Int×Int×Int×(η)×(Y η)×Int)
abbrev aa1:=((Y Sx)×Bu×gS×Bool×Y ζ)
abbrev Ya27:=(Int×Int×uX×Int×(η)×(Y η)×Int)
abbrev Ya28:=(uX×Int×Int×Int×(η)×(Y η)×Int)
abbrev Ya29:=(Int×Int×Int×(η)×(Y η)×Int)
abbrev Xx:=(Int×Bu×gS×Bool×Y ζ)
abbrev aa0:=(Sx×Bu×gS×Bool×Y ζ)
abbrev adc:=(Γ×wZ×(Bool×Y Sx)×dj×Y ζ)
abbrev Lz:=(Sx×rS×Y lj)
abbrev C6:=(w7×jD×Bool)
abbrev Z':=((Sx×Int×Int×Int)×rS×Y lj)
abbrev adb:=(Γ×Bu×gS×Bool×Y ζ)
abbrev ada:=(jC×Bu×gS×Bool×Y ζ)
abbrev Xw:=(Bu×gS×RK×Y Sx)
abbrev ad9:=(Xp×Bu×gS×Bool×Y ζ)
abbrev Ya42:=(uX×uX×uX×Int×Int)
abbrev Z_:=((Y Sx)×rS×Y lj)
abbrev aY {α:Type} (l:Y α):Int:=aU (ah l)
abbrev cu (n:Int):Int:=a9 .i64 (n+1)
abbrev aB {R α:Type} (x:α):J (R⊕α):=Z (bZ x)
abbrev cI {R α:Type} (x:R):J (R⊕α):=Z (oL x)
abbrev bG {R:Type} (T:Ty) (l:Y T.den) (j:Int) (k:T.den->J R):J R:=chk (e9 j (ah l)) λ_=>lt (aG (T:=T) l j) k
abbrev j7 {R:Type} (T:Ty) (l:Y T.den) (j:Int) (k:T.den->J R):J R:=chk (e9 j (ah l)) λ_=>chk (e9 j (ah l)) λ_=>lt (aG (T:=T) l j) k
abbrev l8 {R α:Type} (j:Int) (l:Y α) (k:J R):J R:=chk (e9 j (ah l)) λ_=>k
abbrev bo {R:Type} (b:Bool) (k:J R):J R:=chk b λ_=>k
abbrev bf {R:Type} (a b:Int) (t f:J R):J R:=aF (decide (a=b)) t f
abbrev ir {R:Type} (a b:Int) (t f:J R):J R:=aF (!decide (a=b)) t f
abbrev bx {R:Type} (a b:Int) (t f:J R):J R:=aF (fK a b) t f
abbrev jk {R:Type} (a b:Int) (t f:J R):J R:=aF (cP a b) t f
def ck {R:Type} (b:Bool) (k:J R):J R:=chk b λ_=>chk b λ_=>k
def dW (s:Sx):Sx:=oD (Sx.op s,Sx.line s,Sx.name s,Sx.arg s,Sx.index s,d8 (Xp.op (Sx.expr s),Xp.n (Sx.expr s),Xp.name (Sx.expr s),Xp.l (Sx.expr s)),Sx.body s,Sx.els s)
def oA (x:Unit):J dj:=
 (Z ([[118,97,114],[118,111,108,97,116,105,108,101],[109,117,116,101,120],[114,119,108,111,99,107],[99,111,110,100],[102,117,116,117,114,101],[116,104,114,101,97,100],[105,102],[101,108,115,101],[119,104,105,108,101],[108,111,99,107],[114,101,97,100],[119,114,105,116,101],[116,114,97,110,115,97,99,116,105,111,110],[97,116,111,109,105,99],[119,97,105,116],[110,111,116,105,102,121],[110,111,116,105,102,121,97,108,108],[115,112,97,119,110],[106,111,105,110],[115,101,116],[103,101,116]]))
def jH (x:ζ):J (Bool):=
 (av (oA ()) λd=>(iter (σ:=Int) (λx2=>(bx x2 (aY d) (bG (.str) d x2 λq=>(aF (decide ((q:ζ)=x)) (aB M) (cI (cu x2)))) (aB aa))) 0))
def lA (x:Int):J (Bool):=
 (jn (jk 97 x (jk x 122 (aB M) (jk 65 x (aB (cP x 90)) (aB aa))) (jk 65 x (aB (cP x 90)) (aB aa))) λx1=>(Z x1))
def tI (x:Int):J (Bool):=
 (jn (jk 48 x (aB (cP x 57)) (aB aa)) λx1=>(Z x1))
def pu (x:Int):J (Bool):=
 (jn (av (lA x) λq=>(aF q (aB M) (av (tI x) λd=>(aF d (aB M) (aB (decide ((x:Int)=95))))))) λx1=>(Z x1))
def fh (x:ζ):J (Bool):=
 (jn (bx (aY x) 1 (aB M) (bx 12 (aY x) (aB M) (l8 0 x (av (lA (qJ x 0)) λz=>(aF (!z) (aB M) (av (jH x) λs=>(aB s))))))) λx1=>(aF x1 (Z aa) (iter (σ:=Int) (λd=>(bx d (aY x) (l8 d x (av (pu (qJ x d)) λq=>(aF (!q) (aB aa) (cI (cu d))))) (aB M))) 0)))
def fG (x:Bool):J (Int):=
 (aF x (Z 1) (Z 0))
def tG (x:Γ):J (Int×Bool):=
 (bf x.1 4 (Z ((a9 .i64 (0-x.2)),M)) (bf x.1 5 (av (fG (decide ((x.2:Int)=0))) λd=>(Z (d,M))) (Z (0,aa))))
def rX (x:ν):J (Int×Bool):=
 (bf x.1 6 (Z ((a9 .i64 (x.2.1+x.2.2)),M)) (bf x.1 7 (Z ((a9 .i64 (x.2.1-x.2.2)),M)) (bf x.1 8 (Z ((a9 .i64 (x.2.1*x.2.2)),M)) (bf x.1 9 (bf x.2.2 0 (Z (0,M)) (bo (!decide ((x.2.2:Int)=0)) (Z ((a9 .i64 (Int.tdiv x.2.1 x.2.2)),M)))) (bf x.1 10 (bf x.2.2 0 (Z (0,M)) (bo (!decide ((x.2.2:Int)=0)) (Z ((bp x.2.1 x.2.2),M)))) (bf x.1 11 (av (fG (decide ((x.2.1:Int)=x.2.2))) λy1=>(Z (y1,M))) (bf x.1 12 (av (fG (!decide ((x.2.1:Int)=x.2.2))) λy2=>(Z (y2,M))) (bf x.1 13 (av (fG (fK x.2.1 x.2.2)) λL=>(Z (L,M))) (bf x.1 14 (av (fG (cP x.2.1 x.2.2)) λI=>(Z (I,M))) (bf x.1 15 (av (fG (fK x.2.2 x.2.1)) λF=>(Z (F,M))) (bf x.1 16 (av (fG (cP x.2.2 x.2.1)) λD=>(Z (D,M))) (bf x.1 17 (jn (ir x.2.1 0 (av (fG (!decide ((x.2.2:Int)=0))) λA=>(aB (A,M))) (av (fG aa) λz=>(aB (z,M)))) λx7=>(Z x7)) (bf x.1 18 (jn (ir x.2.1 0 (av (fG M) λq=>(aB (q,M))) (av (fG (!decide ((x.2.2:Int)=0))) λd=>(aB (d,M)))) λs=>(Z s)) (Z (0,aa)))))))))))))))
def qV (x:Γ):J (Int):=
 (bx x.2 1 (Z 0) (bo (!decide ((x.2:Int)=0)) (jn (bx (bp x.1 x.2) 0 (aB (a9 .i64 ((bp x.1 x.2)+x.2))) (aB (bp x.1 x.2))) λx1=>(Z x1))))
def oz (x:Int):J (Int):=
 (jn (bf x 1 (aB M) (aB (decide ((x:Int)=2)))) λx1=>(aF x1 (Z 0) (jn (jk 3 x (aB (cP x 5)) (aB aa)) λx2=>(aF x2 (Z 1) (jn (jk 6 x (aB (cP x 18)) (aB aa)) λd=>(aF d (Z 2) (Z (-1))))))))
def o6 (rr02_ShapedExpr:Xp->J (Bool)) (x:Xp):J (Bool):=
 (jn (bf (Xp.op x) 2 (aB (M,d8 ((Xp.op x),(Xp.n x),(Xp.name x),(Xp.l x)))) (aB ((decide (((Xp.op x):Int)=3)),d8 ((Xp.op x),(Xp.n x),(Xp.name x),(Xp.l x))))) λx1=>(jn (α:=Bool×Xp) (av (oz (Xp.op x1.2)) λA=>(ir A (aU (ah (Xp.l x1.2))) (aB (M,d8 ((Xp.op x1.2),(Xp.n x1.2),(Xp.name x1.2),(Xp.l x1.2)))) (aF ((x1.1==(!decide (((Xp.name x1.2):ζ)=([])))) !=M) (aB (M,d8 ((Xp.op x1.2),(Xp.n x1.2),(Xp.name x1.2),(Xp.l x1.2)))) (aF x1.1 (av (fh (Xp.name x1.2)) λz=>(aF (!z) (aB (M,d8 ((Xp.op x1.2),(Xp.n x1.2),(Xp.name x1.2),(Xp.l x1.2)))) (bx (Xp.n x1.2) 0 (aB (M,d8 ((Xp.op x1.2),(Xp.n x1.2),(Xp.name x1.2),(Xp.l x1.2)))) (ir (Xp.op x1.2) 1 (aB ((!decide (((Xp.n x1.2):Int)=0)),d8 ((Xp.op x1.2),(Xp.n x1.2),(Xp.name x1.2),(Xp.l x1.2)))) (aB (aa,d8 ((Xp.op x1.2),(Xp.n x1.2),(Xp.name x1.2),(Xp.l x1.2)))))))) (bx (Xp.n x1.2) 0 (aB (M,d8 ((Xp.op x1.2),(Xp.n x1.2),(Xp.name x1.2),(Xp.l x1.2)))) (ir (Xp.op x1.2) 1 (aB ((!decide (((Xp.n x1.2):Int)=0)),d8 ((Xp.op x1.2),(Xp.n x1.2),(Xp.name x1.2),(Xp.l x1.2)))) (aB (aa,d8 ((Xp.op x1.2),(Xp.n x1.2),(Xp.name x1.2),(Xp.l x1.2)))))))))) λx2=>(aF x2.1 (Z aa) (iter (σ:=Int×Xp) (λd=>(bx d.1 (aU (ah (Xp.l d.2))) (bG (.ex) (Xp.l d.2) d.1 λq=>(av (rr02_ShapedExpr q) λs=>(aF (!s) (aB aa) (cI ((cu d.1),d8 ((Xp.op d.2),(Xp.n d.2),(Xp.name d.2),(Xp.l d.2))))))) (aB M))) (0,d8 ((Xp.op x2.2),(Xp.n x2.2),(Xp.name x2.2),(Xp.l x2.2)))))))
def je:Nat->Xp->J (Bool)
 |0,_=>U
 |n+1,x=>o6 (je n) x
theorem yD (n:Nat) (x:Xp):je (n+1) x=o6 (je n) x:=rfl
def j8 (x:Xp):J (Bool):=je fuel x
def qW (x:Xp):J (Bool):=
 (jn (α:=Bool) (bf (Xp.op x) 0 (bf (Xp.n x) 0 (aF (decide (((Xp.name x):ζ)=([]))) (aB (decide (((aU (ah (Xp.l x))):Int)=0))) (aB aa)) (aB aa)) (aB aa)) λx1=>(Z x1))
def oZ (rr02_ShapedStmt:Sx->J (Bool)) (rr02_ShapedStmts:(Y Sx)->J (Bool)) (x:Sx):J (Bool):=
 (jn (bx (Sx.op x) 1 (aB (M,dW x)) (aB ((fK 15 (Sx.op x)),dW x))) λx1=>(aF x1.1 (Z aa) (jn (bf (Sx.op x1.2) 2 (aB (M,dW x1.2)) (bf (Sx.op x1.2) 3 (aB (M,dW x1.2)) (bf (Sx.op x1.2) 7 (aB (M,dW x1.2)) (aB ((decide (((Sx.op x1.2):Int)=8)),dW x1.2))))) λx2=>(jn (α:=Bool×Sx) (aF x2.1 (aF (!decide (((Sx.name x2.2):ζ)=([]))) (aB (M,dW x2.2)) (aF (!x2.1) (av (fh (Sx.name x2.2)) λy4=>(aB ((!y4),dW x2.2))) (aB (aa,dW x2.2)))) (aF (!x2.1) (av (fh (Sx.name x2.2)) λy5=>(aB ((!y5),dW x2.2))) (aB (aa,dW x2.2)))) λz=>(aF z.1 (Z aa) (jn (α:=Bool×Sx) (bf (Sx.op z.2) 15 (av (fh (Sx.arg z.2)) λy7=>(aF (!y7) (aB (M,dW z.2)) (ir (Sx.op z.2) 15 (aB ((!decide (((Sx.arg z.2):ζ)=([]))),dW z.2)) (aB (aa,dW z.2))))) (ir (Sx.op z.2) 15 (aB ((!decide (((Sx.arg z.2):ζ)=([]))),dW z.2)) (aB (aa,dW z.2)))) λs=>(aF s.1 (Z aa) (jn (bx 1 (aU (ah (Sx.index s.2))) (aB (M,dW s.2)) (ir (Sx.op s.2) 1 (bx 0 (aU (ah (Sx.index s.2))) (aB (M,dW s.2)) (bf (aU (ah (Sx.index s.2))) 1 (bG (.ex) (Sx.index s.2) 0 λz9=>(av (j8 z9) λy10=>(aB ((!y10),dW s.2)))) (aB (aa,dW s.2)))) (bf (aU (ah (Sx.index s.2))) 1 (bG (.ex) (Sx.index s.2) 0 λI=>(av (j8 I) λy12=>(aB ((!y12),dW s.2)))) (aB (aa,dW s.2))))) λD=>(aF D.1 (Z aa) (jn (bf (Sx.op D.2) 1 (aB (M,dW D.2)) (bf (Sx.op D.2) 2 (aB (M,dW D.2)) (bf (Sx.op D.2) 3 (aB (M,dW D.2)) (aB ((decide (((Sx.op D.2):Int)=14)),dW D.2))))) λd=>(jn (aF d.1 (av (j8 (d8 ((Xp.op (Sx.expr d.2)),(Xp.n (Sx.expr d.2)),(Xp.name (Sx.expr d.2)),(Xp.l (Sx.expr d.2))))) λy15=>(aF (!y15) (aB (M,dW d.2)) (aF (!d.1) (av (qW (d8 ((Xp.op (Sx.expr d.2)),(Xp.n (Sx.expr d.2)),(Xp.name (Sx.expr d.2)),(Xp.l (Sx.expr d.2))))) λy16=>(aB ((!y16),dW d.2))) (aB (aa,dW d.2))))) (aF (!d.1) (av (qW (d8 ((Xp.op (Sx.expr d.2)),(Xp.n (Sx.expr d.2)),(Xp.name (Sx.expr d.2)),(Xp.l (Sx.expr d.2))))) λy17=>(aB ((!y17),dW d.2))) (aB (aa,dW d.2)))) λA=>(aF A.1 (Z aa) (jn (jk 2 (Sx.op A.2) (aB ((cP (Sx.op A.2) 8),dW A.2)) (aB (aa,dW A.2))) λq=>(jn (aF (!q.1) (bx 0 (aU (ah (Sx.body q.2))) (aB (M,dW q.2)) (ir (Sx.op q.2) 2 (aB ((fK 0 (aU (ah (Sx.els q.2)))),dW q.2)) (aB (aa,dW q.2)))) (ir (Sx.op q.2) 2 (aB ((fK 0 (aU (ah (Sx.els q.2)))),dW q.2)) (aB (aa,dW q.2)))) λF=>(aF F.1 (Z aa) (jn (av (rr02_ShapedStmts (Sx.body F.2)) λy21=>(aF y21 (av (rr02_ShapedStmts (Sx.els F.2)) λL=>(aB L)) (aB aa))) λx20=>(Z x20)))))))))))))))))
def nQ (rr02_ShapedStmt:Sx->J (Bool)) (rr02_ShapedStmts:(Y Sx)->J (Bool)) (x:Y Sx):J (Bool):=
 (iter (σ:=Int) (λx1=>(bx x1 (aY x) (l8 x1 x (av (rr02_ShapedStmt (aG (T:=.sm) x x1)) λd=>(aF (!d) (aB aa) (cI (cu x1))))) (aB M))) 0)
mutual
def gW:Nat->Sx->J (Bool)
 |0,_=>U
 |n+1,x=>oZ (gW n) (fA n) x
def fA:Nat->(Y Sx)->J (Bool)
 |0,_=>U
 |n+1,x=>nQ (gW n) (fA n) x
end
def qX (x:Y Sx):J (Bool):=fA fuel x
def mb (x:Int×Int×(ζ)×Int×Int×ζ):J (Bool):=
 (jn (bx x.1 1 (aB (M,x)) (bx 6 x.1 (aB (M,x)) (av (fh x.p2) λs=>(aF (!s) (aB (M,x)) (bx x.p3 0 (aB (M,x)) (ir x.1 1 (aB ((!decide ((x.p3:Int)=0)),x)) (aB (aa,x)))))))) λx1=>(aF x1.1 (Z aa) (jn (α:=Bool×Int×Int×(ζ)×Int×Int×ζ) (bf x1.2.1 5 (av (fh x1.q6) λq=>(aF (!q) (aB (M,x1.2)) (ir x1.2.1 5 (aB ((!decide ((x1.q6:ζ)=([]))),x1.2)) (aB (aa,x1.2))))) (ir x1.2.1 5 (aB ((!decide ((x1.q6:ζ)=([]))),x1.2)) (aB (aa,x1.2)))) λd=>(aF d.1 (Z aa) (jn (α:=Bool) (bx (-9223372036854775808) d.p5 (bf d.p5 0 (aB M) (bf d.2.1 1 (aB M) (aB (decide ((d.2.1:Int)=2))))) (aB aa)) λz=>(Z z))))))
def rZ (x:vY×Y vX):J (Bool):=
 (iter (σ:=Int×vY×Y vX) (λx1=>(bx x1.1 (aY x1.2.1) (bG FP x1.2.1 x1.1 λI=>(av (mb I) λy3=>(aF (!y3) (aB aa) (cI ((cu x1.1),x1.2))))) (av (iter (σ:=Int×vY×Y vX) (λq=>(bx q.1 (aY q.2.2) (bG sB q.2.2 q.1 λF=>(iter (σ:=Int×(vY×Y vX)×(ζ)×Int×dj×Y Sx) (λd=>(bx d.1 (aY d.p4) (bG (.str) d.p4 d.1 λD=>(av (fh D) λL=>(aF (!L) (aB (bZ aa)) (cI ((cu d.1),d.2))))) (av (jn (av (fh d.p2) λz=>(aF (!z) (aB (M,d.2.1)) (av (qX d.q5) λs=>(aB ((!s),d.2.1))))) λA=>(aF A.1 (aB aa) (cI ((cu q.1),A.2)))) λr=>Z (bZ r)))) (0,q.2,F))) (aB (fK 0 (aY q.2.2))))) (0,x1.2)) λr=>Z (bZ r)))) (0,x))
def jU (x:dj×ζ):J (Int):=
 (iter (σ:=Int) (λx1=>(bx x1 (aY x.1) (bG (.str) x.1 x1 λd=>(aF (decide ((d:ζ)=x.2)) (aB x1) (cI (cu x1)))) (aB (-1)))) 0)
def iF (x:vY×ζ):J (Int):=
 (iter (σ:=Int) (λx1=>(bx x1 (aY x.1) (bG FP x.1 x1 λd=>(aF (decide ((d.2.2.1:ζ)=x.2)) (aB x1) (cI (cu x1)))) (aB (-1)))) 0)
def iy (x:(Y vX)×ζ):J (Int):=
 (iter (σ:=Int) (λx1=>(bx x1 (aY x.1) (bG sB x.1 x1 λd=>(aF (decide ((d.1:ζ)=x.2)) (aB x1) (cI (cu x1)))) (aB (-1)))) 0)
def rY (x:(vY×Y vX)×Int×ζ):J (Int):=
 (jn (jk 0 x.2.1 (bx x.2.1 (aY x.1.2) (bG sB x.1.2 x.2.1 λD=>(av (jU (D.2.2.1,x.2.2)) λI=>(aB ((cP 0 I),x.1)))) (aB (aa,x.1))) (aB (aa,x.1))) λx1=>(aF x1.1 (Z 8) (av (iF (x1.2.1,x.2.2)) λq=>(bx q 0 (av (iy (x1.2.2,x.2.2)) λF=>(jk 0 F (Z 7) (Z 0))) (l8 q x1.2.1 (lt ((aG (T:=FP) x1.2.1 q).1) λd=>(bf d 1 (bG FP x1.2.1 q λA=>(ir A.2.2.2.1 0 (Z 2) (Z 1))) (bf d 2 (Z 1) (jn (bf d 3 (aB ((decide ((d:Int)=3)),x1.2)) (bf d 4 (aB ((decide ((d:Int)=4)),x1.2)) (bf d 5 (aB ((decide ((d:Int)=5)),x1.2)) (aB ((decide ((d:Int)=6)),x1.2))))) λs=>(aF s.1 (bG FP s.2.1 q λz=>(Z z.1)) (Z 9)))))))))))
def gQ (x:(vY×Y vX)×Int×(ζ)×Int×Int):J (Int):=
 (av (rY (x.1,x.2.1,x.p2)) λd=>(bf d 0 (Z 5) (jn (ir d x.p3 (aB (!decide ((d:Int)=x.q4))) (aB aa)) λx2=>(aF x2 (Z 6) (Z 0)))))
def wD (rr04_Nodes:Xp->J Γ) (x:Xp):J Γ:=
 (iter (σ:=(ν)×Xp) (λx1=>(bx x1.1.2.2 (aU (ah (Xp.l x1.2))) (bG (.ex) (Xp.l x1.2) x1.1.2.2 λq=>(av (rr04_Nodes q) λd=>(cI (((a9 .i64 (x1.1.1+d.1)),(lq x1.1.2.1 d.2),(cu x1.1.2.2)),d8 ((Xp.op x1.2),(Xp.n x1.2),(Xp.name x1.2),(Xp.l x1.2)))))) (aB (x1.1.1,(cu x1.1.2.1))))) ((1,0,0),d8 ((Xp.op x),(Xp.n x),(Xp.name x),(Xp.l x))))
def pA:Nat->Xp->J Γ
 |0,_=>U
 |n+1,x=>wD (pA n) x
theorem Gm (n:Nat) (x:Xp):pA (n+1) x=wD (pA n) x:=rfl
def H0 (x:Xp):J Γ:=pA fuel x
def wC (rr04_names:((vY×Y vX)×Int×Xp)->J (Int)) (x:(vY×Y vX)×Int×Xp):J (Int):=
 (jn (α:=Int×(vY×Y vX)×Xp) (bf (Xp.op x.2.2) 2 (av (gQ (x.1,x.2.1,(Xp.name x.2.2),8,1)) λD=>(aB (D,x.1,d8 ((Xp.op x.2.2),(Xp.n x.2.2),(Xp.name x.2.2),(Xp.l x.2.2))))) (bf (Xp.op x.2.2) 3 (av (gQ (x.1,x.2.1,(Xp.name x.2.2),2,2)) λA=>(aB (A,x.1,d8 ((Xp.op x.2.2),(Xp.n x.2.2),(Xp.name x.2.2),(Xp.l x.2.2))))) (aB (0,x.1,d8 ((Xp.op x.2.2),(Xp.n x.2.2),(Xp.name x.2.2),(Xp.l x.2.2)))))) λx1=>(iter (σ:=(Γ)×(vY×Y vX)×Xp) (λd=>(jn (bx d.1.2 (aU (ah (Xp.l d.2.2))) (aB ((decide ((d.1.1:Int)=0)),d.2.1,d8 ((Xp.op d.2.2),(Xp.n d.2.2),(Xp.name d.2.2),(Xp.l d.2.2)))) (aB (aa,d.2.1,d8 ((Xp.op d.2.2),(Xp.n d.2.2),(Xp.name d.2.2),(Xp.l d.2.2))))) λq=>(aF q.1 (bG (.ex) (Xp.l q.2.2) d.1.2 λs=>(av (rr04_names (q.2.1,x.2.1,s)) λz=>(cI ((z,(cu d.1.2)),q.2.1,d8 ((Xp.op q.2.2),(Xp.n q.2.2),(Xp.name q.2.2),(Xp.l q.2.2)))))) (aB d.1.1)))) ((x1.1,0),x1.2.1,d8 ((Xp.op x1.2.2),(Xp.n x1.2.2),(Xp.name x1.2.2),(Xp.l x1.2.2)))))
def pz:Nat->((vY×Y vX)×Int×Xp)->J (Int)
 |0,_=>U
 |n+1,x=>wC (pz n) x
theorem Gl (n:Nat) (x:(vY×Y vX)×Int×Xp):pz (n+1) x=wC (pz n) x:=rfl
def HZ (x:(vY×Y vX)×Int×Xp):J (Int):=pz fuel x
def nI (x:(vY×Y vX)×Int×Xp):J (Int):=
 (av (j8 (d8 ((Xp.op x.2.2),(Xp.n x.2.2),(Xp.name x.2.2),(Xp.l x.2.2)))) λz=>(aF (!z) (Z 3) (av (H0 (d8 ((Xp.op x.2.2),(Xp.n x.2.2),(Xp.name x.2.2),(Xp.l x.2.2)))) λq=>(jn (bx 24 q.1 (aB (M,x.1,d8 ((Xp.op x.2.2),(Xp.n x.2.2),(Xp.name x.2.2),(Xp.l x.2.2)))) (aB ((fK 6 q.2),x.1,d8 ((Xp.op x.2.2),(Xp.n x.2.2),(Xp.name x.2.2),(Xp.l x.2.2))))) λd=>(aF d.1 (Z 2) (av (HZ (d.2.1,x.2.1,d8 ((Xp.op d.2.2),(Xp.n d.2.2),(Xp.name d.2.2),(Xp.l d.2.2)))) λs=>(Z s)))))))
def dg (x:Bool):J (Int):=
 (aF x (Z 7) (Z 0))
def jp (x:Γ):J (Int):=
 (ir x.1 0 (Z x.1) (Z x.2))
def ej (x:(Int×Int×ζ)×wZ×(Bool×Y Sx)×dj×Y ζ):J (Bool×wZ×(Bool×Y Sx)×dj×Y ζ):=
 (iter (σ:=Int×wZ×(Bool×Y Sx)×dj×Y ζ) (λx1=>(bx x1.1 (aY x1.p2.2) (j7 (.sm) x1.p2.2 x1.1 λd=>(jn (α:=Bool×wZ×(Bool×Y Sx)×dj×Y ζ) (bf (Sx.op d) x.1.1 (aF (decide ((x.1.2.2:ζ)=([]))) (aB (M,x1.2)) (aB ((decide (((Sx.name d):ζ)=x.1.2.2)),x1.2))) (bf (Sx.op d) x.1.2.1 (aF (decide ((x.1.2.2:ζ)=([]))) (aB (M,x1.2)) (aB ((decide (((Sx.name d):ζ)=x.1.2.2)),x1.2))) (aB (aa,x1.2)))) λq=>(aF q.1 (aB (M,q.2)) (cI ((cu x1.1),q.2))))) (aB (aa,x1.2)))) (0,x.2))
def oy (x:Sx×wZ×(Bool×Y Sx)×dj×Y ζ):J (Int×wZ×(Bool×Y Sx)×dj×Y ζ):=
 (av (ej ((7,7,[]),x.2)) λL=>(bo (aw (ah x.q4) (ah L.q4)&&(aw (ah x.p3) (ah L.p3)&&(((x.p2.1==L.p2.1)&&M)&&aw (ah x.p2.2) (ah L.p2.2)&&M))) (av (ej ((8,8,[]),L.2)) λy2=>(bo (aw (ah L.q4) (ah y2.q4)&&(aw (ah L.p3) (ah y2.p3)&&(((L.p2.1==y2.p2.1)&&M)&&aw (ah L.p2.2) (ah y2.p2.2)&&M))) (av (ej ((3,3,[]),y2.2)) λy3=>(bo (aw (ah y2.q4) (ah y3.q4)&&(aw (ah y2.p3) (ah y3.p3)&&(((y2.p2.1==y3.p2.1)&&M)&&aw (ah y2.p2.2) (ah y3.p2.2)&&M))) (bf (Sx.op x.1) 1 (bf (aU (ah (Sx.index x.1))) 0 (av (gQ ((x.2.1.1,x.2.1.2.1),x.2.1.2.2,(Sx.name x.1),8,1)) λy4=>(av (nI ((x.2.1.1,x.2.1.2.1),x.2.1.2.2,d8 ((Xp.op (Sx.expr x.1)),(Xp.n (Sx.expr x.1)),(Xp.name (Sx.expr x.1)),(Xp.l (Sx.expr x.1))))) λy5=>(av (jp (y4,y5)) λy6=>(Z (y6,y3.2))))) (av (gQ ((x.2.1.1,x.2.1.2.1),x.2.1.2.2,(Sx.name x.1),2,2)) λy7=>(bG (.ex) (Sx.index x.1) 0 λz8=>(av (nI ((x.2.1.1,x.2.1.2.1),x.2.1.2.2,z8)) λy9=>(av (nI ((x.2.1.1,x.2.1.2.1),x.2.1.2.2,d8 ((Xp.op (Sx.expr x.1)),(Xp.n (Sx.expr x.1)),(Xp.name (Sx.expr x.1)),(Xp.l (Sx.expr x.1))))) λy10=>(av (jp (y9,y10)) λy11=>(av (jp (y7,y11)) λy12=>(Z (y12,y3.2))))))))) (jn (bf (Sx.op x.1) 2 (aB ((decide (((Sx.op x.1):Int)=2)),y3.2.1,y3.p2,dW x.1,(x.2.1.1,x.2.1.2.1),y3.q3)) (aB ((decide (((Sx.op x.1):Int)=3)),y3.2.1,y3.p2,dW x.1,(x.2.1.1,x.2.1.2.1),y3.q3))) λs=>(aF s.1 (av (nI (s.p4,x.2.1.2.2,d8 ((Xp.op (Sx.expr s.p3)),(Xp.n (Sx.expr s.p3)),(Xp.name (Sx.expr s.p3)),(Xp.l (Sx.expr s.p3))))) λy14=>(Z (y14,s.2.1,s.p2,s.q5))) (bf (Sx.op x.1) 4 (jn (α:=Int×wZ×(Bool×Y Sx)×dj×Y ζ) (av (gQ (s.p4,x.2.1.2.2,(Sx.name s.p3),3,3)) λy16=>(aF L.1 (av (dg M) λy17=>(av (jp (y16,y17)) λy18=>(aB (y18,s.2.1,s.p2,s.q5)))) (av (ej ((4,4,(Sx.name s.p3)),s.2.1,s.p2,s.q5)) λy19=>(bo (aw (ah s.q6) (ah y19.q4)&&(aw (ah s.p5) (ah y19.p3)&&(((s.p2.1==y19.p2.1)&&M)&&aw (ah s.p2.2) (ah y19.p2.2)&&M))) (av (dg y19.1) λy20=>(av (jp (y16,y20)) λy21=>(aB (y21,y19.2)))))))) λx15=>(Z x15)) (jn (bf (Sx.op x.1) 5 (aB ((decide (((Sx.op x.1):Int)=5)),s.2.1,s.p2,dW s.p3,s.q4)) (aB ((decide (((Sx.op x.1):Int)=6)),s.2.1,s.p2,dW s.p3,s.q4))) λq=>(aF q.1 (jn (α:=Int×wZ×(Bool×Y Sx)×dj×Y ζ) (av (gQ (q.p4,x.2.1.2.2,(Sx.name q.p3),4,4)) λy24=>(aF L.1 (av (dg M) λy25=>(av (jp (y24,y25)) λy26=>(aB (y26,q.2.1,q.p2,q.q5)))) (av (ej ((5,6,(Sx.name q.p3)),q.2.1,q.p2,q.q5)) λy27=>(bo (aw (ah q.q6) (ah y27.q4)&&(aw (ah q.p5) (ah y27.p3)&&(((q.p2.1==y27.p2.1)&&M)&&aw (ah q.p2.2) (ah y27.p2.2)&&M))) (av (dg y27.1) λy28=>(av (jp (y24,y28)) λy29=>(aB (y29,y27.2)))))))) λx23=>(Z x23)) (bf (Sx.op x.1) 7 (av (dg L.1) λy30=>(Z (y30,q.2.1,q.p2,q.q5))) (bf (Sx.op x.1) 8 (jn (aF L.1 (av (dg M) λy32=>(aB (y32,q.2.1,q.p2,q.q5))) (av (dg y2.1) λy33=>(aB (y33,q.2.1,q.p2,q.q5)))) λx31=>(Z x31)) (jn (bf (Sx.op x.1) 9 (aB ((decide (((Sx.op x.1):Int)=9)),q.2.1,q.p2,dW q.p3,q.q4)) (bf (Sx.op x.1) 10 (aB ((decide (((Sx.op x.1):Int)=10)),q.2.1,q.p2,dW q.p3,q.q4)) (aB ((decide (((Sx.op x.1):Int)=11)),q.2.1,q.p2,dW q.p3,q.q4)))) λd=>(aF d.1 (av (gQ (d.p4,x.2.1.2.2,(Sx.name d.p3),5,5)) λy35=>(ir y35 0 (Z (y35,d.2.1,d.p2,d.q5)) (av (iF (d.p4.1,(Sx.name d.p3))) λy36=>(bG FP d.p4.1 y36 λz37=>(av (ej ((4,4,z37.2.2.2.2.2),d.2.1,d.p2,d.q5)) λF=>(bo (aw (ah d.q6) (ah F.q4)&&(aw (ah d.p5) (ah F.p3)&&(((d.p2.1==F.p2.1)&&M)&&aw (ah d.p2.2) (ah F.p2.2)&&M))) (jn (aF L.1 (av (dg M) λy40=>(aB (y40,F.2))) (aF (!F.1) (av (dg M) λy41=>(aB (y41,F.2))) (bf (Sx.op d.p3) 9 (av (dg y2.1) λy42=>(aB (y42,F.2))) (av (dg aa) λy43=>(aB (y43,F.2)))))) λx39=>(Z x39)))))))) (bf (Sx.op x.1) 12 (av (gQ (d.p4,x.2.1.2.2,(Sx.name d.p3),7,7)) λy44=>(ir y44 0 (Z (y44,d.2.1,d.p2,d.q5)) (av (iy (d.p4.2,(Sx.name d.p3))) λy45=>(jn (aF L.1 (aB (M,d.2.1,d.p2,dW d.p3,d.q5)) (aF y2.1 (aB (M,d.2.1,d.p2,dW d.p3,d.q5)) (aF y3.1 (aB (M,d.2.1,d.p2,dW d.p3,d.q5)) (bf y45 x.2.1.2.2 (aB (M,d.2.1,d.p2,dW d.p3,d.q5)) (aB ((decide ((y45:Int)=0)),d.2.1,d.p2,dW d.p3,d.q5)))))) λz=>(aF z.1 (Z (7,z.2.1,z.p2,z.q4)) (av (jU (z.p4,(Sx.name z.p3))) λy47=>(jk 0 y47 (Z (8,z.2.1,z.p2,z.q4)) (bo (bc (ah z.p4+ah ([(Sx.name z.p3)])) 16) (Z (0,z.2.1,z.p2,(z.p4++([(Sx.name z.p3)])),z.q5)))))))))) (bf (Sx.op x.1) 13 (jn (α:=Int×wZ×(Bool×Y Sx)×dj×Y ζ) (av (gQ (d.p4,x.2.1.2.2,(Sx.name d.p3),7,7)) λy49=>(aF L.1 (av (dg M) λy50=>(av (jp (y49,y50)) λy51=>(aB (y51,d.2.1,d.p2,d.q5)))) (aF y2.1 (av (dg M) λy52=>(av (jp (y49,y52)) λy53=>(aB (y53,d.2.1,d.p2,d.q5)))) (av (iy (d.p4.2,(Sx.name d.p3))) λy54=>(av (dg (decide ((y54:Int)=x.2.1.2.2))) λy55=>(av (jp (y49,y55)) λy56=>(aB (y56,d.2.1,d.p2,d.q5)))))))) λx48=>(Z x48)) (bf (Sx.op x.1) 14 (jn (α:=Int×wZ×(Bool×Y Sx)×Sx×(vY×Y vX)×dj×Y ζ) (av (gQ (d.p4,x.2.1.2.2,(Sx.name d.p3),6,6)) λy58=>(aF L.1 (av (dg M) λy59=>(av (jp (y58,y59)) λy60=>(aB (y60,d.2.1,d.p2,dW d.p3,d.q4)))) (av (dg y3.1) λy61=>(av (jp (y58,y61)) λy62=>(aB (y62,d.2.1,d.p2,dW d.p3,d.q4)))))) λD=>(jn (α:=Int×wZ×(Bool×Y Sx)×Sx×(vY×Y vX)×dj×Y ζ) (jn (bf D.1 0 (av (jU (D.q6,(Sx.name D.p3))) λy65=>(aB ((cP 0 y65),D.2.1,D.p2,dW D.p3,D.q4))) (aB (aa,D.2.1,D.p2,dW D.p3,D.q4))) λI=>(aF I.1 (aB (8,I.2.1,I.p2,dW I.p3,I.q4)) (aB (D.1,I.2.1,I.p2,dW I.p3,I.q4)))) λA=>(bo (bc (ah A.q6+ah ([(Sx.name A.p3)])) 16) (av (nI (A.p4,x.2.1.2.2,d8 ((Xp.op (Sx.expr A.p3)),(Xp.n (Sx.expr A.p3)),(Xp.name (Sx.expr A.p3)),(Xp.l (Sx.expr A.p3))))) λy66=>(av (jp (A.1,y66)) λy67=>(Z (y67,A.2.1,A.p2,A.p5,(A.q6++([(Sx.name A.p3)]))))))))) (av (gQ (d.p4,x.2.1.2.2,(Sx.name d.p3),8,8)) λy68=>(av (gQ (d.p4,x.2.1.2.2,(Sx.arg d.p3),6,6)) λy69=>(av (dg L.1) λy70=>(av (jp (y69,y70)) λy71=>(av (jp (y68,y71)) λy72=>(Z (y72,d.2.1,d.p2,d.q5))))))))))))))))))))))))))
def rK (rr04_walk_all:((Y Sx)×wZ×(Bool×Y Sx)×dj×Y ζ)->J adc) (x:(Y Sx)×wZ×(Bool×Y Sx)×dj×Y ζ):J adc:=
 (iter (σ:=Int×wZ×(Bool×Y Sx)×dj×Y ζ) (λx1=>(bx x1.1 (aY x.1) (bG (.sm) x.1 x1.1 λA=>(av (oy (dW A,x1.2)) λz=>(bo (aw (ah x1.q4) (ah x1.q4)&&(aw (ah x1.p3) (ah x1.p3)&&(((x1.p2.1==z.p2.1)&&M)&&aw (ah x1.p2.2) (ah z.p2.2)&&M))) (jn (α:=Int×wZ×Sx×(Bool×Y Sx)×dj×Y ζ) (bx 6 (a9 .i64 ((aY z.p2.2)+1)) (aB (2,z.2.1,dW A,z.2.2)) (aB (z.1,z.2.1,dW A,z.2.2))) λd=>(ir d.1 0 (aB ((d.1,(Sx.line d.p2)),d.2.1,d.q3)) (bo (bc (ah d.p3.2+ah ([oD (0,0,[],[],([]:Y Xp),d8 (0,0,[],([]:Y Xp)),([]:Y Sx),([]:Y Sx))])) 176) (ck (e9 (aY d.p3.2) (ah (d.p3.2++([oD (0,0,[],[],([]:Y Xp),d8 (0,0,[],([]:Y Xp)),([]:Y Sx),([]:Y Sx))])))) (av (rr04_walk_all ((Sx.body d.p2),d.2.1,(d.p3.1,(cj (d.p3.2++([oD (0,0,[],[],([]:Y Xp),d8 (0,0,[],([]:Y Xp)),([]:Y Sx),([]:Y Sx))])) (aY d.p3.2) (dW d.p2))),d.q4)) λs=>(bo (aw (ah d.q5) (ah d.q5)&&(aw (ah d.p4) (ah d.p4)&&(((d.p3.1==d.p3.1)&&M)&&aw (ah (cj (d.p3.2++([oD (0,0,[],[],([]:Y Xp),d8 (0,0,[],([]:Y Xp)),([]:Y Sx),([]:Y Sx))])) (aY d.p3.2) (dW d.p2))) (ah (cj (d.p3.2++([oD (0,0,[],[],([]:Y Xp),d8 (0,0,[],([]:Y Xp)),([]:Y Sx),([]:Y Sx))])) (aY d.p3.2) (dW d.p2)))&&M))) (jn (bf s.1.1 0 (av (rr04_walk_all ((Sx.els d.p2),s.2)) λD=>(bo (aw (ah s.q4) (ah s.q4)&&(aw (ah s.p3) (ah s.p3)&&(((s.p2.1==s.p2.1)&&M)&&aw (ah s.p2.2) (ah s.p2.2)&&M))) (aB D))) (aB s)) λq=>(bo (cP 0 (a9 .i64 ((aY q.p2.2)-1))&&fK (a9 .i64 ((aY q.p2.2)-1)) (ah q.p2.2)) (ir q.1.1 0 (aB (q.1,q.2.1,(aa,(cM (aP (a9 .i64 ((aY q.p2.2)-1))) q.p2.2)),q.q3)) (cI ((cu x1.1),q.2.1,(aa,(cM (aP (a9 .i64 ((aY q.p2.2)-1))) q.p2.2)),q.q3)))))))))))))) (aB ((0,0),x1.2)))) (0,x.2))
def mm:Nat->((Y Sx)×wZ×(Bool×Y Sx)×dj×Y ζ)->J adc
 |0,_=>U
 |n+1,x=>rK (mm n) x
def Ab (x:(Y Sx)×wZ×(Bool×Y Sx)×dj×Y ζ):J adc:=mm fuel x
def wE (rr04_Count:(Y Sx)->J (Int)) (x:Y Sx):J (Int):=
 (iter (σ:=Γ) (λx1=>(bx x1.2 (aY x) (l8 x1.2 x (lt (Sx.body (aG (T:=.sm) x x1.2)) λq=>(av (rr04_Count q) λz=>(l8 x1.2 x (lt (Sx.els (aG (T:=.sm) x x1.2)) λd=>(av (rr04_Count d) λs=>(cI ((a9 .i64 ((a9 .i64 (x1.1+z))+s)),(cu x1.2))))))))) (aB x1.1))) ((aY x),0))
def pB:Nat->(Y Sx)->J (Int)
 |0,_=>U
 |n+1,x=>wE (pB n) x
theorem Gn (n:Nat) (x:Y Sx):pB (n+1) x=wE (pB n) x:=rfl
def H3 (x:Y Sx):J (Int):=pB fuel x
def tH (x:Y ag2):J Γ:=
 (iter (σ:=υ) (λx1=>(bx x1.q4 (aY x) (jn (α:=π) (bG FP x x1.q4 λd=>(bo (cP 0 x1.q4&&cP x1.q4 (ah x)) (av (iF ((cM (aP x1.q4) x),d.p2)) λI=>(jk 0 I (cI (bZ (4,d.2.1))) (bx 4 d.p3 (cI (bZ (2,d.2.1))) (jn (jn (bf d.1 1 (aB ((decide ((d.1:Int)=1)),d)) (aB ((decide ((d.1:Int)=2)),d))) λz=>(aF z.1 (aB (((a9 .i64 (x1.1+(lq z.p4 1))),x1.2.1,x1.p2,x1.p3),z.2)) (jn (bf d.1 3 (aB ((decide ((d.1:Int)=3)),z.2)) (aB ((decide ((d.1:Int)=4)),z.2))) λA=>(aF A.1 (aB ((x1.1,(cu x1.2.1),x1.p2,x1.p3),A.2)) (bf d.1 5 (aB ((x1.1,x1.2.1,(cu x1.p2),x1.p3),A.2)) (aB ((x1.1,x1.2.1,x1.p2,(cu x1.p3)),A.2))))))) λq=>(jn (bx 12 q.1.1 (aB (M,q.2)) (bx 4 q.1.2.1 (aB (M,q.2)) (bx 2 q.1.p2 (aB (M,q.2)) (aB ((fK 2 q.1.q3),q.2))))) λs=>(aF s.1 (cI (bZ (2,s.p2))) (bf s.2.1 5 (bo (cP 0 x1.q4&&cP x1.q4 (ah x)) (av (iF ((cM (aP x1.q4) x),s.q6)) λF=>(bx F 0 (cI (bZ (5,s.p2))) (bG FP x F λD=>(ir D.1 3 (cI (bZ (6,s.p2))) (aB q.1)))))) (aB q.1)))))))))) λx2=>(cI (x2.1,x2.2.1,x2.p2,x2.q3,(cu x1.q4)))) (aB (0,0)))) (0,0,0,0,0))
def qi (x:vY×Y vX):J Γ:=
 (iter (σ:=Int×vY×Y vX) (λx1=>(bx x1.1 (aY x1.2.2) (bG sB x1.2.2 x1.1 λz=>(jn (av (iF (x1.2.1,z.1)) λy4=>(jk 0 y4 (aB (M,x1.2,z)) (bo (cP 0 x1.1&&cP x1.1 (ah x1.2.2)) (av (iy ((cM (aP x1.1) x1.2.2),z.1)) λy5=>(aB ((cP 0 y5),x1.2,z)))))) λx3=>(aF x3.1 (aB (4,x3.p3)) (cI ((cu x1.1),x3.2.1))))) (av (iter (σ:=Int×vY×Y vX) (λs=>(bx s.1 (aY s.2.2) (bG sB s.2.2 s.1 λD=>(bx 4 (aY D.p2) (aB (2,D.2.1)) (iter (σ:=Int×(vY×Y vX)×(ζ)×Int×dj×Y Sx) (λd=>(bx d.1 (aY d.p4) (bG (.str) d.p4 d.1 λA=>(jn (av (iF (d.2.1.1,A)) λL=>(jk 0 L (aB (M,d.2)) (av (iy (d.2.1.2,A)) λI=>(jk 0 I (aB (M,d.2)) (bo (cP 0 d.1&&cP d.1 (ah d.p4)) (av (jU ((cM (aP d.1) d.p4),A)) λF=>(aB ((cP 0 F),d.2)))))))) λq=>(aF q.1 (aB (bZ (4,q.p3))) (cI ((cu d.1),q.2))))) (aB (oL ((cu s.1),d.2.1))))) (0,s.2,D)))) (aB (0,0)))) (0,x1.2)) λr=>Z (bZ r)))) (0,x))
def kl (x:vY×Y vX):J Γ:=
 (av (rZ x) λL=>(aF (!L) (Z (3,0)) (av (tH x.1) λA=>(ir A.1 0 (Z A) (bx 4 (aY x.2) (Z (2,0)) (av (qi x) λz=>(ir z.1 0 (Z z) (iter (σ:=(Γ)×vY×Y vX) (λq=>(bx q.1.2 (aY q.2.2) (bG sB q.2.2 q.1.2 λF=>(av (H3 F.2.2.2) λI=>(cI (((a9 .i64 (q.1.1+I)),(cu q.1.2)),q.2)))) (av (bx 60 q.1.1 (Z (2,0)) (iter (σ:=Int×(vY×Y vX)×wZ×(Bool×Y Sx)×dj×Y ζ) (λd=>(bx d.1 (aY d.2.1.2) (bG sB d.2.1.2 d.1 λD=>(av (Ab (D.2.2.2,(d.p2.1,d.p2.2.1,d.1),d.q3)) λs=>(bo (aw (ah d.q5) (ah d.q5)&&(aw (ah d.p4) (ah d.p4)&&(((d.p3.1==d.p3.1)&&M)&&aw (ah d.p3.2) (ah d.p3.2)&&M))) (ir s.1.1 0 (aB s.1) (cI ((cu d.1),d.2.1,s.2)))))) (aB (0,0)))) (0,q.2,(q.2.1,q.2.2,0),(M,([]:Y Sx)),([]:Y ζ),([]:Y ζ)))) λr=>Z (bZ r)))) ((0,0),x)))))))))
def wB (rr06_sites:((Int×Int×Y Sx)×Y ν)->J (Int×Y ν)) (x:(Int×Int×Y Sx)×Y ν):J (Int×Y ν):=
 (iter (σ:=(Γ)×Y ν) (λx1=>(bx x1.1.2 (aY x.1.2.2) (l8 x1.1.2 x.1.2.2 (lt (Sx.line (aG (T:=.sm) x.1.2.2 x1.1.2)) λd=>(bo (bc (ah x1.2+ah ([(x.1.1,x1.1.1,d)])) 24) (l8 x1.1.2 x.1.2.2 (lt (Sx.body (aG (T:=.sm) x.1.2.2 x1.1.2)) λA=>(av (rr06_sites ((x.1.1,(cu x1.1.1),A),(x1.2++([(x.1.1,x1.1.1,d)])))) λq=>(bo (aw (ah (x1.2++([(x.1.1,x1.1.1,d)]))) (ah (x1.2++([(x.1.1,x1.1.1,d)])))&&M) (l8 x1.1.2 x.1.2.2 (lt (Sx.els (aG (T:=.sm) x.1.2.2 x1.1.2)) λz=>(av (rr06_sites ((x.1.1,q.1,z),q.2)) λs=>(bo (aw (ah q.2) (ah q.2)&&M) (cI ((s.1,(cu x1.1.2)),s.2))))))))))))) (aB (x1.1.1,x1.2)))) ((x.1.2.1,0),x.2))
def py:Nat->((Int×Int×Y Sx)×Y ν)->J (Int×Y ν)
 |0,_=>U
 |n+1,x=>wB (py n) x
theorem Gk (n:Nat) (x:(Int×Int×Y Sx)×Y ν):py (n+1) x=wB (py n) x:=rfl
def HY (x:(Int×Int×Y Sx)×Y ν):J (Int×Y ν):=py fuel x
def ly (x:mr×ζ):J (Int):=
 (iter (σ:=Int) (λx1=>(bx x1 (aY x.1) (bG qK x.1 x1 λd=>(aF (decide ((d.1:ζ)=x.2)) (aB x1) (cI (cu x1)))) (aB (-1)))) 0)
def lz (x:eP×ζ):J (Int):=
 (iter (σ:=Int×nz×mr×(Y jC)×dj×dj×Y ν) (λx1=>(bx x1.1 (aY x1.2.1) (bG kG x1.2.1 x1.1 λd=>(aF (decide ((d.1:ζ)=x.2)) (aB x1.1) (cI ((cu x1.1),x1.2)))) (aB (-1)))) (0,x.1))
def tF (x:vY×Y vX):J eP:=
 (av (kl x) λy1=>(ir y1.1 0 (Z (([]:Y RJ),([]:Y (ζ×Bool)),([]:Y jC),([]:Y ζ),([]:Y ζ),([]:Y ν))) (iter (σ:=Int×(vY×Y vX)×nz×mr×(Y jC)×Y ζ) (λx2=>(bx x2.1 (aY x2.2.1.1) (bG FP x2.2.1.1 x2.1 λz=>(jn (α:=(vY×Y vX)×nz×mr×(Y jC)×Y ζ) (jn (bf z.1 1 (aB ((decide ((z.1:Int)=1)),x2.2.1,z,x2.2.2)) (aB ((decide ((z.1:Int)=2)),x2.2.1,z,x2.2.2))) λD=>(aF D.1 (iter (σ:=Int×(vY×Y vX)×ag2×nz×mr×(Y jC)×Y ζ) (λq=>(bx q.1 (lq q.p2.p3 1) (bo (bc (ah q.p3+ah ([(q.p2.p2,q.1,q.p2.p3,(decide ((q.p2.1:Int)=2)),q.p2.p4)])) 48) (cI ((cu q.1),q.2.1,q.p2,(q.p3++([(q.p2.p2,q.1,q.p2.p3,(decide ((q.p2.1:Int)=2)),q.p2.p4)])),q.q4))) (aB (bZ (q.2.1,q.q3))))) (0,D.2)) (jn (bf z.1 3 (aB ((decide ((z.1:Int)=3)),D.2)) (aB ((decide ((z.1:Int)=4)),D.2))) λd=>(aF d.1 (bo (bc (ah d.p4+ah ([(d.p2.p2,(decide ((d.p2.1:Int)=4)))])) 24) (aB (d.2.1,d.p3,(d.p4++([(d.p2.p2,(decide ((d.p2.1:Int)=4)))])),d.q5))) (bf z.1 5 (av (ly (d.p4,d.p2.q5)) λL=>(bo (bc (ah d.p5+ah ([(d.p2.p2,L)])) 24) (aB (d.2.1,d.p3,d.p4,(d.p5++([(d.p2.p2,L)])),d.q6)))) (bo (bc (ah d.q6+ah ([d.p2.p2])) 16) (aB (d.2.1,d.p3,d.p4,d.p5,(d.q6++([d.p2.p2])))))))))) λx4=>(cI ((cu x2.1),x4)))) (av (iter (σ:=Int×(vY×Y vX)×nz×mr×(Y jC)×dj×dj×Y ν) (λs=>(bx s.1 (aY s.2.1.2) (bG sB s.2.1.2 s.1 λA=>(bo (bc (ah s.p6+ah ([A.1])) 16) (bG sB s.2.1.2 s.1 λF=>(av (HY ((s.1,0,F.2.2.2),s.q7)) λI=>(bo (aw (ah s.q7) (ah s.q7)&&M) (cI ((cu s.1),s.2.1,s.p2,s.p3,s.p4,s.p5,(s.p6++([A.1])),I.2))))))) (aB s.2.2))) (0,x2.2.1,x2.p2,x2.p3,x2.p4,x2.q5,([]:Y ζ),([]:Y ν))) λr=>Z (bZ r)))) (0,x,([]:Y RJ),([]:Y (ζ×Bool)),([]:Y jC),([]:Y ζ)))))
def pq (x:nz×mr×(Y jC)×dj×dj×Y ν):J (dj×Bool):=
 (iter (σ:=Int×eP×Y ζ) (λx1=>(bx x1.1 (aY x1.2.1.1) (jn (α:=Int×eP×Y ζ) (bG kG x1.2.1.1 x1.1 λs=>(bo (bc (ah x1.2.2+ah ([s.1])) 16) (bf s.p2 0 (ir s.2.1 0 (cI (bZ (([]:Y ζ),aa))) (aB ((cu x1.1),x1.2.1,(x1.2.2++([s.1]))))) (jn (α:=Bool×eP×dj×(ζ)×Int×Int×Bool×Int) (bx s.p2 1 (aB (M,x1.2.1,(x1.2.2++([s.1])),s)) (bx 4 s.p2 (aB (M,x1.2.1,(x1.2.2++([s.1])),s)) (aB ((fK (a9 .i64 ((aY x1.2.1.1)-x1.1)) s.p2),x1.2.1,(x1.2.2++([s.1])),s)))) λL=>(aF L.1 (cI (bZ (([]:Y ζ),aa))) (iter (σ:=Int×eP×dj×(ζ)×Int×Int×Bool×Int) (λq=>(bx q.1 q.p5 (bG kG q.2.1.1 (a9 .i64 (x1.1+q.1)) λA=>(jn (ir A.2.1 q.1 (aB (M,q.2)) (aF (!decide ((A.1:ζ)=q.p3)) (aB (M,q.2)) (ir A.p2 q.p5 (aB (M,q.2)) (ir A.q4 q.q7 (aB (M,q.2)) (aB (A.p3,q.2)))))) λI=>(aF I.1 (aB (oL (bZ (([]:Y ζ),aa)))) (cI ((cu q.1),I.2))))) (aB (bZ ((a9 .i64 (x1.1+q.p5)),q.2.1,q.p2))))) (0,L.2))))))) λx2=>(cI x2)) (av (iter (σ:=Int×eP×Y ζ) (λz=>(bx z.1 (aY z.2.1.2.1) (bG qK z.2.1.2.1 z.1 λF=>(bo (bc (ah z.2.2+ah ([F.1])) 16) (cI ((cu z.1),z.2.1,(z.2.2++([F.1])))))) (av (iter (σ:=Int×eP×Y ζ) (λd=>(bx d.1 (aY d.2.1.p2) (bG lZ d.2.1.p2 d.1 λD=>(bo (bc (ah d.2.2+ah ([D.1])) 16) (cI ((cu d.1),d.2.1,(d.2.2++([D.1])))))) (av (bo (bc (ah d.2.2+ah d.2.1.p3) 16) (bo (bc (ah (d.2.2++d.2.1.p3)+ah d.2.1.p4) 16) (Z (((d.2.2++d.2.1.p3)++d.2.1.p4),M)))) λr=>Z (bZ r)))) (0,z.2)) λr=>Z (bZ r)))) (0,x1.2)) λr=>Z (bZ r)))) (0,x,([]:Y ζ)))
def gV (x:nz×mr×(Y jC)×dj×dj×Y ν):J (Bool):=
 (jn (bx 12 (aY x.1) (aB (M,x)) (bx 4 (aY x.2.1) (aB (M,x)) (bx 2 (aY x.p2) (aB (M,x)) (bx 2 (aY x.p3) (aB (M,x)) (bx (aY x.p4) 1 (aB (M,x)) (bx 4 (aY x.p4) (aB (M,x)) (aB ((fK 60 (aY x.q5)),x)))))))) λx1=>(aF x1.1 (Z aa) (av (pq x1.2) λI=>(aF (!I.2) (Z aa) (iter (σ:=Int×nz×mr×(Y jC)×dj×dj×Y ν) (λA=>(bx A.1 (aY I.1) (jn (bG (.str) I.1 A.1 λz5=>(av (fh z5) λy6=>(aF (!y6) (aB (M,A.2)) (bo (cP 0 A.1&&cP A.1 (ah I.1)) (bG (.str) I.1 A.1 λz7=>(av (jU ((cM (aP A.1) I.1),z7)) λy8=>(aB ((cP 0 y8),A.2)))))))) λx4=>(aF x4.1 (aB aa) (cI ((cu A.1),x4.2)))) (av (iter (σ:=Int×nz×mr×(Y jC)×dj×dj×Y ν) (λs=>(bx s.1 (aY s.p3) (bG lZ s.p3 s.1 λF=>(jn (bx F.2 0 (aB (M,s.2)) (jk (aY s.p2) F.2 (aB (M,s.2)) (bG qK s.p2 F.2 λz12=>(aB (z12.2,s.2))))) λx11=>(aF x11.1 (aB aa) (cI ((cu s.1),x11.2))))) (av (iter (σ:=Int×nz×mr×(Y jC)×dj×dj×Y ν) (λd=>(bx d.1 (aY d.q6) (jn (bG og d.q6 d.1 λD=>(jn (bx D.1 0 (aB (M,d.2,D)) (aB ((cP (aY d.p5) D.1),d.2,D))) λz=>(aF z.1 (cI (bZ aa)) (jn (bf d.1 0 (aB (M,z.2)) (bG og z.2.1.q5 (a9 .i64 (d.1-1)) λz18=>(aB ((!decide ((z18.1:Int)=z.p2)),z.2)))) λq=>(aF q.1 (jn (ir q.p3 0 (aB (M,q.2.1)) (bx 0 d.1 (bG og q.2.1.q5 (a9 .i64 (d.1-1)) λz20=>(aB ((fK q.p2 z20.1),q.2.1))) (aB (aa,q.2.1)))) λL=>(aF L.1 (cI (bZ aa)) (aB L.2))) (bG og q.2.1.q5 (a9 .i64 (d.1-1)) λz21=>(ir q.p3 (cu z21.2.1) (cI (bZ aa)) (aB q.2.1)))))))) λx14=>(cI ((cu d.1),x14))) (aB M))) (0,s.2)) λr=>Z (bZ r)))) (0,A.2)) λr=>Z (bZ r)))) (0,x1.2))))))
def jG (x:ω):J η:=
 (jn (bf x.1 1 (aB ((decide ((x.1:Int)=1)),x)) (bf x.1 6 (aB ((decide ((x.1:Int)=6)),x)) (bf x.1 10 (aB ((decide ((x.1:Int)=10)),x)) (aB ((decide ((x.1:Int)=27)),x))))) λx1=>(aF x1.1 (Z ([x1.p2])) (jn (bf x.1 2 (aB ((decide ((x.1:Int)=2)),x1.2)) (aB ((decide ((x.1:Int)=3)),x1.2))) λx2=>(aF x2.1 (Z ([x2.p2,x2.p3])) (bf x.1 4 (Z ([x2.p2,x2.p3,x2.p4])) (bf x.1 7 (Z ([x2.p2,x2.p4])) (jn (bf x.1 8 (aB ((decide ((x.1:Int)=8)),x2.2)) (aB ((decide ((x.1:Int)=26)),x2.2))) λd=>(aF d.1 (Z ([d.p3])) (bf x.1 9 (Z ([d.p3,d.p4])) (Z ([]:η)))))))))))
def pG (x:Int):J (Bool):=
 (jn (jk 1 x (aB (cP x 5)) (aB aa)) λx1=>(Z x1))
def tC (x:(Y lj)×Int):J (Bool):=
 (iter (σ:=Γ) (λx1=>(jk x1.2 (aY x.1) (jn (jn (bx x1.1 0 (aB M) (aB (cP (aY x.1) x1.1))) λA=>(aF A (cI (bZ aa)) (bG qH x.1 x1.1 λs=>(av (pG s.1) λz=>(aF (!z) (cI (bZ M)) (bG qH x.1 x1.1 λq=>(bf q.1 5 (bG qH x.1 x1.1 λd=>(aB d.2.1)) (aB (cu x1.1))))))))) λx2=>(cI (x2,(cu x1.2)))) (aB aa))) (x.2,0))
def jm (x:Γ):J (Bool):=
 (jn (jk 0 x.1 (aB (fK x.1 x.2)) (aB aa)) λx1=>(Z x1))
def qU (x:eP×Int×Int):J (Bool):=
 (jn (av (jm (x.2.1,(aY x.1.1))) λz=>(aF z (bG kG x.1.1 x.2.1 λs=>(bf s.2.1 0 (bG kG x.1.1 x.2.1 λq=>(ir q.2.2.1 0 (bG kG x.1.1 x.2.1 λd=>(aB (decide ((d.2.2.1:Int)=x.2.2)))) (aB aa))) (aB aa))) (aB aa))) λx1=>(Z x1))
def qg (x:eP×Int×Int×Int×Int×Int×Int):J (Bool):=
 (bf x.2.1 6 (jn (av (jm (x.p3,(aY x.1.1))) λy2=>(aF y2 (bG kG x.1.1 x.p3 λz3=>(aB (decide ((z3.2.2.1:Int)=0)))) (aB aa))) λx1=>(Z x1)) (bf x.2.1 8 (jn (av (jm (x.p2,(aY x.1.1))) λy5=>(aF y5 (bG kG x.1.1 x.p2 λz6=>(aB (decide ((z6.2.2.1:Int)=0)))) (aB aa))) λx4=>(Z x4)) (bf x.2.1 7 (av (qU (x.1,x.p3,x.p5)) λy7=>(Z y7)) (bf x.2.1 9 (av (qU (x.1,x.p2,x.p5)) λy8=>(Z y8)) (jn (bf x.2.1 11 (aB ((decide ((x.2.1:Int)=11)),x)) (aB ((decide ((x.2.1:Int)=12)),x))) λz=>(aF z.1 (jn (av (jm (z.p3,(aY z.2.1.2.1))) λy11=>(aF y11 (bG qK z.2.1.2.1 z.p3 λD=>(aB (!D.2))) (aB aa))) λx10=>(Z x10)) (jn (bf x.2.1 13 (aB ((decide ((x.2.1:Int)=13)),z.2)) (bf x.2.1 14 (aB ((decide ((x.2.1:Int)=14)),z.2)) (bf x.2.1 15 (aB ((decide ((x.2.1:Int)=15)),z.2)) (aB ((decide ((x.2.1:Int)=16)),z.2))))) λq=>(aF q.1 (jn (av (jm (q.p3,(aY q.2.1.2.1))) λy15=>(aF y15 (bG qK q.2.1.2.1 q.p3 λA=>(aB A.2)) (aB aa))) λx14=>(Z x14)) (jn (bf x.2.1 21 (aB ((decide ((x.2.1:Int)=21)),q.2)) (bf x.2.1 22 (aB ((decide ((x.2.1:Int)=22)),q.2)) (aB ((decide ((x.2.1:Int)=23)),q.2)))) λs=>(aF s.1 (av (jm (s.p3,(aY s.2.1.p2))) λy18=>(Z y18)) (jn (bf x.2.1 24 (aB ((decide ((x.2.1:Int)=24)),s.2)) (aB ((decide ((x.2.1:Int)=25)),s.2))) λd=>(aF d.1 (av (jm (d.p3,(aY d.2.1.p4))) λL=>(Z L)) (bf x.2.1 26 (av (jm (d.p3,(aY d.2.1.p3))) λI=>(Z I)) (bf x.2.1 27 (av (jm (d.p4,(aY d.2.1.p3))) λF=>(Z F)) (bf x.2.1 3 (jn (bf d.p6 4 (aB M) (aB (decide ((d.p6:Int)=5)))) λx23=>(Z x23)) (bf x.2.1 4 (jn (jk 6 d.p6 (aB (cP d.p6 18)) (aB aa)) λx24=>(Z x24)) (Z M)))))))))))))))))
def kY (x:eP×Int×Int×Y lj):J (Bool):=
 (jn (bx x.p2 0 (aB (M,x.1,x.2.2)) (bx 32 x.p2 (aB (M,x.1,x.2.2)) (aB ((decide (((aY x.q3):Int)=0)),x.1,x.2.2)))) λx1=>(aF x1.1 (Z aa) (iter (σ:=Int×eP×Int×Y lj) (λx2=>(bx x2.1 (aY x.q3) (bG qH x2.q3 x2.1 λz=>(jn (bx z.1 1 (aB (M,x2.2.1,x2.2.2,z)) (bx 28 z.1 (aB (M,x2.2.1,x2.2.2,z)) (aF (((decide ((z.1:Int)=28))==(decide ((x2.1:Int)=(a9 .i64 ((aY x.q3)-1))))) !=M) (aB (M,x2.2.1,x2.2.2,z)) (av (qg (x2.2.1,z)) λy5=>(aF (!y5) (aB (M,x2.2.1,x2.2.2,z)) (av (tC (x2.q3,x2.1)) λy6=>(aB ((!y6),x2.2.1,x2.2.2,z)))))))) λd=>(aF d.1 (aB aa) (jn (α:=Bool×eP×(Int×Y lj)×Int×Int×Int×Int×Int×Int) (bf d.p3 28 (ir d.q8 (-1) (aB (M,d.2)) (ir d.p3 28 (av (jm (d.q8,(aY d.2.1.q5))) λy8=>(aF (!y8) (aB (M,d.2)) (bG og d.2.1.q5 d.q8 λz9=>(aB ((!decide ((z9.1:Int)=x.2.1)),d.2))))) (aB (aa,d.2)))) (ir d.p3 28 (av (jm (d.q8,(aY d.2.1.q5))) λy10=>(aF (!y10) (aB (M,d.2)) (bG og d.2.1.q5 d.q8 λI=>(aB ((!decide ((I.1:Int)=x.2.1)),d.2))))) (aB (aa,d.2)))) λs=>(aF s.1 (aB aa) (jn (bf s.p3 5 (av (jm (s.p4,(aY x.q3))) λy13=>(aF (!y13) (aB (M,s.2)) (bf s.p3 10 (av (jm (s.p5,(aY x.q3))) λy14=>(aB ((!y14),s.2))) (aB (aa,s.2))))) (bf s.p3 10 (av (jm (s.p5,(aY x.q3))) λy15=>(aB ((!y15),s.2))) (aB (aa,s.2)))) λA=>(aF A.1 (aB aa) (av (jG A.q3) λD=>(iter (σ:=Int×eP×Int×Y lj) (λq=>(bx q.1 (aY D) (bG aM D q.1 λF=>(av (jm (F,q.p2)) λL=>(aF (!L) (aB (bZ aa)) (cI ((cu q.1),q.2))))) (aB (oL ((cu x2.1),q.2))))) (0,A.2.1,A.p2)))))))))) (aB M))) (0,x1.2))))
def pt (x:eP×Y (Int×Y lj)):J (Bool):=
 (jn (av (gV x.1) λz=>(aF (!z) (aB (M,x)) (aB ((!decide (((aY x.2):Int)=(aY x.1.p4))),x)))) λx1=>(aF x1.1 (Z aa) (iter (σ:=Int×eP×Y (Int×Y lj)) (λd=>(bx d.1 (aY d.2.2) (bG v7 d.2.2 d.1 λq=>(av (kY (d.2.1,d.1,q)) λs=>(aF (!s) (aB aa) (cI ((cu d.1),d.2))))) (aB M))) (0,x1.2))))
def cB (x:lj×rS×Y lj):J (rS×Y lj):=
 (bo (bc (ah x.2.2+ah ([(x.1.1,x.1.2.1,x.1.p2,x.1.p3,x.1.p4,x.2.1.p7)])) 48) (Z (x.2.1,(x.2.2++([(x.1.1,x.1.2.1,x.1.p2,x.1.p3,x.1.p4,x.2.1.p7)])))))
def qn (rr06_gen_value:((Xp×Int)×rS×Y lj)->J (rS×Y lj)) (x:(Xp×Int)×rS×Y lj):J (rS×Y lj):=
 (jn (α:=rS×Y lj) (bf (Xp.op x.1.1) 1 (av (cB ((1,x.1.2,0,0,(Xp.n x.1.1),0),x.2)) λy2=>(bo (aw (ah x.2.2) (ah x.2.2)&&M) (aB y2))) (bf (Xp.op x.1.1) 2 (av (jU (x.2.1.p6,(Xp.name x.1.1))) λy3=>(jk 0 y3 (av (cB ((2,x.1.2,y3,0,0,0),x.2)) λy4=>(bo (aw (ah x.2.2) (ah x.2.2)&&M) (aB y4))) (av (lz ((x.2.1.1,x.2.1.2.1,x.2.1.p2,x.2.1.p3,x.2.1.p4,x.2.1.p5),(Xp.name x.1.1))) λy5=>(av (cB ((6,x.1.2,y5,0,0,0),x.2)) λy6=>(bo (aw (ah x.2.2) (ah x.2.2)&&M) (aB y6)))))) (bf (Xp.op x.1.1) 3 (bG (.ex) (Xp.l x.1.1) 0 λz7=>(av (rr06_gen_value ((z7,x.1.2),x.2)) λd=>(bo (aw (ah x.2.2) (ah x.2.2)&&M) (av (lz ((d.1.1,d.1.2.1,d.1.p2,d.1.p3,d.1.p4,d.1.p5),(Xp.name x.1.1))) λy9=>(bG kG d.1.1 y9 λI=>(av (cB ((7,x.1.2,y9,x.1.2,I.2.2.1,0),d)) λy11=>(bo (aw (ah d.2) (ah d.2)&&M) (aB y11)))))))) (bf (aU (ah (Xp.l x.1.1))) 1 (bG (.ex) (Xp.l x.1.1) 0 λF=>(av (rr06_gen_value ((F,x.1.2),x.2)) λz=>(bo (aw (ah x.2.2) (ah x.2.2)&&M) (av (cB ((3,x.1.2,x.1.2,0,(Xp.op x.1.1),0),z)) λy14=>(bo (aw (ah z.2) (ah z.2)&&M) (aB y14)))))) (bG (.ex) (Xp.l x.1.1) 0 λD=>(av (rr06_gen_value ((D,x.1.2),x.2)) λs=>(bo (aw (ah x.2.2) (ah x.2.2)&&M) (bG (.ex) (Xp.l x.1.1) 1 λA=>(av (rr06_gen_value ((A,(cu x.1.2)),s)) λq=>(bo (aw (ah s.2) (ah s.2)&&M) (av (cB ((4,x.1.2,x.1.2,(cu x.1.2),(Xp.op x.1.1),0),q)) λL=>(bo (aw (ah q.2) (ah q.2)&&M) (aB L))))))))))))) λx1=>(Z x1))
def iH:Nat->((Xp×Int)×rS×Y lj)->J (rS×Y lj)
 |0,_=>U
 |n+1,x=>qn (iH n) x
theorem zS (n:Nat) (x:(Xp×Int)×rS×Y lj):iH (n+1) x=qn (iH n) x:=rfl
def iE (x:(Xp×Int)×rS×Y lj):J (rS×Y lj):=iH fuel x
def ma (x:Sx×rS×Y lj):J (rS×Y lj):=
 (bx 0 (aU (ah (Sx.index x.1))) (bG (.ex) (Sx.index x.1) 0 λL=>(av (iE ((L,(aY x.2.1.p6)),x.2)) λs=>(bo (aw (ah x.2.2) (ah x.2.2)&&M) (av (iE ((d8 ((Xp.op (Sx.expr x.1)),(Xp.n (Sx.expr x.1)),(Xp.name (Sx.expr x.1)),(Xp.l (Sx.expr x.1))),(a9 .i64 ((aY x.2.1.p6)+1))),s)) λq=>(bo (aw (ah s.2) (ah s.2)&&M) (av (lz ((q.1.1,q.1.2.1,q.1.p2,q.1.p3,q.1.p4,q.1.p5),(Sx.name x.1))) λF=>(bG kG q.1.1 F λI=>(av (cB ((9,F,(a9 .i64 ((aY x.2.1.p6)+1)),(aY x.2.1.p6),I.2.2.1,0),q)) λy6=>(bo (aw (ah q.2) (ah q.2)&&M) (Z y6)))))))))) (av (iE ((d8 ((Xp.op (Sx.expr x.1)),(Xp.n (Sx.expr x.1)),(Xp.name (Sx.expr x.1)),(Xp.l (Sx.expr x.1))),(aY x.2.1.p6)),x.2)) λd=>(bo (aw (ah x.2.2) (ah x.2.2)&&M) (av (jU (d.1.p6,(Sx.name x.1))) λD=>(jk 0 D (av (cB ((2,D,(aY x.2.1.p6),0,0,0),d)) λy9=>(bo (aw (ah d.2) (ah d.2)&&M) (Z y9))) (av (lz ((d.1.1,d.1.2.1,d.1.p2,d.1.p3,d.1.p4,d.1.p5),(Sx.name x.1))) λA=>(av (cB ((8,A,(aY x.2.1.p6),0,0,0),d)) λz=>(bo (aw (ah d.2) (ah d.2)&&M) (Z z)))))))))
def ju (x:ζ×rS×Y lj):J (Int×rS×Y lj):=
 (iter (σ:=Int×rS×Y lj) (λx1=>(bx x1.1 (aY x1.2.1.p2) (bG lZ x1.2.1.p2 x1.1 λd=>(aF (decide ((d.1:ζ)=x.1)) (aB x1) (cI ((cu x1.1),x1.2)))) (aB ((-1),x1.2)))) (0,x.2))
def qo (rr06_gen_stmts:Z_->J (rS×Y lj)) (rr06_gen_stmt:Lz->J (rS×Y lj)) (rr06_gen_branches:Lz->J (rS×Y lj)) (rr06_gen_around:Z'->J (rS×Y lj)) (x:(Y Sx)×rS×Y lj):J (rS×Y lj):=
 (iter (σ:=Int×rS×Y lj) (λx1=>(bx x1.1 (aY x.1) (bG (.sm) x.1 x1.1 λd=>(av (rr06_gen_stmt (d,x1.2)) λq=>(bo (aw (ah x1.2.2) (ah x1.2.2)&&M) (cI ((cu x1.1),q))))) (aB x1.2))) (0,x.2))
def rJ (rr06_gen_stmts:Z_->J (rS×Y lj)) (rr06_gen_stmt:Lz->J (rS×Y lj)) (rr06_gen_branches:Lz->J (rS×Y lj)) (rr06_gen_around:Z'->J (rS×Y lj)) (x:Sx×rS×Y lj):J (rS×Y lj):=
 (jn (α:=rS×Y lj) (bf (Sx.op x.1) 1 (av (ma (dW x.1,(x.2.1.1,x.2.1.2.1,x.2.1.p2,x.2.1.p3,x.2.1.p4,x.2.1.p5,x.2.1.p6,x.2.1.q8,(cu x.2.1.q8)),x.2.2)) λy2=>(bo (aw (ah x.2.2) (ah x.2.2)&&M) (aB y2))) (jn (bf (Sx.op x.1) 2 (aB ((decide (((Sx.op x.1):Int)=2)),(x.2.1.1,x.2.1.2.1,x.2.1.p2,x.2.1.p3,x.2.1.p4,x.2.1.p5,x.2.1.p6,x.2.1.q8,(cu x.2.1.q8)),dW x.1,x.2.2)) (aB ((decide (((Sx.op x.1):Int)=3)),(x.2.1.1,x.2.1.2.1,x.2.1.p2,x.2.1.p3,x.2.1.p4,x.2.1.p5,x.2.1.p6,x.2.1.q8,(cu x.2.1.q8)),dW x.1,x.2.2))) λd=>(aF d.1 (av (rr06_gen_branches (dW d.p2,d.2.1,d.q3)) λy4=>(bo (aw (ah d.q3) (ah d.q3)&&M) (aB y4))) (bf (Sx.op x.1) 4 (av (ly (d.2.1.2.1,(Sx.name d.p2))) λy5=>(av (rr06_gen_around ((dW d.p2,11,12,y5),d.2.1,d.q3)) λy6=>(bo (aw (ah d.q3) (ah d.q3)&&M) (aB y6)))) (bf (Sx.op x.1) 5 (av (ly (d.2.1.2.1,(Sx.name d.p2))) λy7=>(av (rr06_gen_around ((dW d.p2,13,14,y7),d.2.1,d.q3)) λy8=>(bo (aw (ah d.q3) (ah d.q3)&&M) (aB y8)))) (bf (Sx.op x.1) 6 (av (ly (d.2.1.2.1,(Sx.name d.p2))) λy9=>(av (rr06_gen_around ((dW d.p2,15,16,y9),d.2.1,d.q3)) λy10=>(bo (aw (ah d.q3) (ah d.q3)&&M) (aB y10)))) (bf (Sx.op x.1) 7 (av (rr06_gen_around ((dW d.p2,17,18,0),d.2.1,d.q3)) λy11=>(bo (aw (ah d.q3) (ah d.q3)&&M) (aB y11))) (bf (Sx.op x.1) 8 (av (rr06_gen_around ((dW d.p2,19,20,0),d.2.1,d.q3)) λy12=>(bo (aw (ah d.q3) (ah d.q3)&&M) (aB y12))) (bf (Sx.op x.1) 9 (av (ju ((Sx.name d.p2),d.2.1,d.q3)) λz=>(bo (aw (ah d.q3) (ah z.2.2)&&M) (av (cB ((21,z.1,0,0,0,0),z.2)) λy14=>(bo (aw (ah z.2.2) (ah z.2.2)&&M) (aB y14))))) (bf (Sx.op x.1) 10 (av (ju ((Sx.name d.p2),d.2.1,d.q3)) λs=>(bo (aw (ah d.q3) (ah s.2.2)&&M) (av (cB ((22,s.1,0,0,0,0),s.2)) λy16=>(bo (aw (ah s.2.2) (ah s.2.2)&&M) (aB y16))))) (bf (Sx.op x.1) 11 (av (ju ((Sx.name d.p2),d.2.1,d.q3)) λq=>(bo (aw (ah d.q3) (ah q.2.2)&&M) (av (cB ((23,q.1,0,0,0,0),q.2)) λy18=>(bo (aw (ah q.2.2) (ah q.2.2)&&M) (aB y18))))) (bf (Sx.op x.1) 12 (av (jU (d.2.1.p4,(Sx.name d.p2))) λy19=>(av (cB ((24,y19,0,0,0,0),d.2.1,d.q3)) λy20=>(bo (aw (ah d.q3) (ah d.q3)&&M) (aB y20)))) (bf (Sx.op x.1) 13 (av (jU (d.2.1.p4,(Sx.name d.p2))) λy21=>(av (cB ((25,y21,0,0,0,0),d.2.1,d.q3)) λy22=>(bo (aw (ah d.q3) (ah d.q3)&&M) (aB y22)))) (bf (Sx.op x.1) 14 (av (iE ((d8 ((Xp.op (Sx.expr d.p2)),(Xp.n (Sx.expr d.p2)),(Xp.name (Sx.expr d.p2)),(Xp.l (Sx.expr d.p2))),(aY x.2.1.p6)),d.2.1,d.q3)) λA=>(bo (aw (ah d.q3) (ah d.q3)&&M) (av (jU (A.1.p3,(Sx.name d.p2))) λy24=>(av (cB ((26,y24,(aY x.2.1.p6),0,0,0),A)) λL=>(bo (aw (ah A.2) (ah A.2)&&M) (aB L)))))) (bf (Sx.op x.1) 15 (av (jU (d.2.1.p6,(Sx.name d.p2))) λI=>(av (jU (d.2.1.p3,(Sx.arg d.p2))) λF=>(av (cB ((27,I,F,0,0,0),d.2.1,d.q3)) λD=>(bo (aw (ah d.q3) (ah d.q3)&&M) (aB D))))) (aB (d.2.1,d.q3))))))))))))))))) λx1=>(Z x1))
def mE (rr06_gen_stmts:Z_->J (rS×Y lj)) (rr06_gen_stmt:Lz->J (rS×Y lj)) (rr06_gen_branches:Lz->J (rS×Y lj)) (rr06_gen_around:Z'->J (rS×Y lj)) (x:Sx×rS×Y lj):J (rS×Y lj):=
 (av (iE ((d8 ((Xp.op (Sx.expr x.1)),(Xp.n (Sx.expr x.1)),(Xp.name (Sx.expr x.1)),(Xp.l (Sx.expr x.1))),(aY x.2.1.p6)),x.2)) λq=>(bo (aw (ah x.2.2) (ah x.2.2)&&M) (av (cB ((10,(aY q.1.p6),0,0,0,0),q)) λD=>(bo (aw (ah q.2) (ah q.2)&&M) (av (rr06_gen_stmts ((Sx.body x.1),D)) λd=>(bo (aw (ah D.2) (ah D.2)&&M) (bf (Sx.op x.1) 3 (av (cB ((5,(aY x.2.2),0,0,0,0),(d.1.1,d.1.2.1,d.1.p2,d.1.p3,d.1.p4,d.1.p5,d.1.p6,x.2.1.p7,d.1.q8),d.2)) λz=>(bo (aw (ah d.2) (ah d.2)&&M) (ck (e9 (aY q.2) (ah z.2)) (Z (z.1,(cj z.2 (aY q.2) ((aG (T:=qH) z.2 (aY q.2)).1,((aG (T:=qH) z.2 (aY q.2)).2).1,(aY z.2),(((aG (T:=qH) z.2 (aY q.2)).2).2).2))))))) (bf (aU (ah (Sx.els x.1))) 0 (ck (e9 (aY q.2) (ah d.2)) (Z ((d.1.1,d.1.2.1,d.1.p2,d.1.p3,d.1.p4,d.1.p5,d.1.p6,x.2.1.p7,d.1.q8),(cj d.2 (aY q.2) ((aG (T:=qH) d.2 (aY q.2)).1,((aG (T:=qH) d.2 (aY q.2)).2).1,(aY d.2),(((aG (T:=qH) d.2 (aY q.2)).2).2).2))))) (av (cB ((5,0,0,0,0,0),(d.1.1,d.1.2.1,d.1.p2,d.1.p3,d.1.p4,d.1.p5,d.1.p6,x.2.1.p7,d.1.q8),d.2)) λs=>(bo (aw (ah d.2) (ah d.2)&&M) (ck (e9 (aY q.2) (ah s.2)) (av (rr06_gen_stmts ((Sx.els x.1),s.1,(cj s.2 (aY q.2) ((aG (T:=qH) s.2 (aY q.2)).1,((aG (T:=qH) s.2 (aY q.2)).2).1,(aY s.2),(((aG (T:=qH) s.2 (aY q.2)).2).2).2)))) λA=>(bo (aw (ah (cj s.2 (aY q.2) ((aG (T:=qH) s.2 (aY q.2)).1,((aG (T:=qH) s.2 (aY q.2)).2).1,(aY s.2),(((aG (T:=qH) s.2 (aY q.2)).2).2).2))) (ah (cj s.2 (aY q.2) ((aG (T:=qH) s.2 (aY q.2)).1,((aG (T:=qH) s.2 (aY q.2)).2).1,(aY s.2),(((aG (T:=qH) s.2 (aY q.2)).2).2).2)))&&M) (ck (e9 (aY d.2) (ah A.2)) (Z (A.1,(cj A.2 (aY d.2) ((aG (T:=qH) A.2 (aY d.2)).1,(aY A.2),((aG (T:=qH) A.2 (aY d.2)).2).2))))))))))))))))))
def oY (rr06_gen_stmts:Z_->J (rS×Y lj)) (rr06_gen_stmt:Lz->J (rS×Y lj)) (rr06_gen_branches:Lz->J (rS×Y lj)) (rr06_gen_around:Z'->J (rS×Y lj)) (x:(Sx×Int×Int×Int)×rS×Y lj):J (rS×Y lj):=
 (av (cB ((x.1.2.1,x.1.q3,0,0,0,0),x.2)) λq=>(bo (aw (ah x.2.2) (ah x.2.2)&&M) (av (rr06_gen_stmts ((Sx.body x.1.1),q)) λd=>(bo (aw (ah q.2) (ah q.2)&&M) (av (cB ((x.1.p2,x.1.q3,0,0,0,0),(d.1.1,d.1.2.1,d.1.p2,d.1.p3,d.1.p4,d.1.p5,d.1.p6,x.2.1.p7,d.1.q8),d.2)) λs=>(bo (aw (ah d.2) (ah d.2)&&M) (Z s)))))))
mutual
def dH:Nat->Z_->J (rS×Y lj)
 |0,_=>U
 |n+1,x=>qo (dH n) (eD n) (c8 n) (dC n) x
def eD:Nat->Lz->J (rS×Y lj)
 |0,_=>U
 |n+1,x=>rJ (dH n) (eD n) (c8 n) (dC n) x
def c8:Nat->Lz->J (rS×Y lj)
 |0,_=>U
 |n+1,x=>mE (dH n) (eD n) (c8 n) (dC n) x
def dC:Nat->Z'->J (rS×Y lj)
 |0,_=>U
 |n+1,x=>oY (dH n) (eD n) (c8 n) (dC n) x
end
def tD (x:(Y Sx)×rS×Y lj):J (rS×Y lj):=dH fuel x
def qh (x:vY×Y vX):J (Bt×Int×Int):=
 (av (kl x) λI=>(ir I.1 0 (Z (((([]:Y RJ),([]:Y (ζ×Bool)),([]:Y jC),([]:Y ζ),([]:Y ζ),([]:Y ν)),([]:Y (Int×Y lj))),I)) (av (tF x) λy2=>(iter (σ:=(Γ)×(vY×Y vX)×eP×Y (Int×Y lj)) (λq=>(bx q.1.2 (aY q.2.1.2) (bG sB q.2.1.2 q.1.2 λz4=>(bG sB q.2.1.2 q.1.2 λz5=>(av (tD (z5.2.2.2,(q.p2.1,q.p2.2.1,q.p2.p2,q.p2.p3,q.p2.p4,q.p2.q5,z4.2.2.1,0,q.1.1),([]:Y lj))) λz=>(bo (aw (ah ([]:Y lj)) (ah ([]:Y lj))&&M) (av (cB ((28,0,0,0,0,0),(z.1.1,z.1.2.1,z.1.p2,z.1.p3,z.1.p4,z.1.p5,z.1.p6,(-1),z.1.q8),z.2)) λF=>(bo (aw (ah z.2) (ah z.2)&&M) (iter (σ:=Int×(vY×Y vX)×eP×rS×Int×(Y (Int×Y lj))×Y lj) (λs=>(bx s.1 (aY s.q6) (j7 qH s.q6 s.1 λL=>(av (jG L) λA=>(iter (σ:=Int×(vY×Y vX)×eP×rS×Int×(Y (Int×Y lj))×Y lj) (λd=>(bx d.1 (aY A) (bG aM A d.1 λD=>(cI ((cu d.1),d.2.1,d.p2,d.p3,(lq d.p4 (cu D)),d.q5))) (aB (oL ((cu s.1),d.2))))) (0,s.2)))) (av (bo (bc (ah s.p5+ah ([(s.p4,s.q6)])) 32) (cI ((z.1.q8,(cu q.1.2)),s.2.1,s.p2,(s.p5++([(s.p4,s.q6)]))))) λr=>Z (bZ r)))) (0,q.2.1,q.p2,F.1,(aY F.1.p6),q.q3,F.2)))))))) (aB (q.2.2,0,0)))) ((0,0),x,y2,([]:Y (Int×Y lj)))))))
def ox (x:η×Int):J (Bool):=
 (iter (σ:=Int) (λx1=>(bx x1 (aY x.1) (bG aM x.1 x1 λd=>(bf d x.2 (aB M) (cI (cu x1)))) (aB aa))) 0)
def vu (x:η×Int):J η:=
 (iter (σ:=Int) (λx1=>(jn (bx x1 (aY x.1) (bG aM x.1 x1 λq=>(aB (fK q x.2))) (aB aa)) λx2=>(aF x2 (cI (cu x1)) (av (jn (bx x1 (aY x.1) (bG aM x.1 x1 λd=>(aB (decide ((d:Int)=x.2)))) (aB aa)) λs=>(aF s (Z x.1) (bo (cP 0 x1&&cP x1 (ah x.1)) (bo (bc (ah ([]:η)+ah (cM (aP x1) x.1)) 8) (bo (bc (ah (([]:η)++(cM (aP x1) x.1))+ah ([x.2])) 8) (bo (cP 0 x1&&cP x1 (ah x.1)) (bo (bc (ah ((([]:η)++(cM (aP x1) x.1))++([x.2]))+ah (List.drop (aP x1) x.1)) 8) (Z (((([]:η)++(cM (aP x1) x.1))++([x.2]))++(List.drop (aP x1) x.1)))))))))) λr=>Z (bZ r))))) 0)
def qT (x:η×η):J η:=
 (iter (σ:=(η)×Int) (λx1=>(bx x1.2 (aY x.1) (bG aM x.1 x1.2 λs=>(av (vu (x1.1,s)) λA=>(cI (A,(cu x1.2))))) (av (iter (σ:=(η)×Int) (λd=>(bx d.2 (aY x.2) (bG aM x.2 d.2 λq=>(av (vu (d.1,q)) λz=>(cI (z,(cu d.2))))) (aB d.1))) (x1.1,0)) λr=>Z (bZ r)))) (([]:η),0))
def mj (x:Int):J (Int):=
 (jn (bx x 1 (aB M) (aB (fK 100 x))) λx1=>(aF x1 (Z 0) (Z x)))
def ch (x:Int×(η)×(Y η)×Int):J (Γ×(η)×Y η):=
 (bo (bc (ah ([]:η)+ah x.2.1) 8) (iter (σ:=Int×uX×(Γ)×(Γ)×(η)×Y η) (λx1=>(bx x1.1 (aY x1.2.1.p2) (bG (.sl aM) x1.2.1.p2 x1.1 λd=>(bo (bc (ah ([]:η)+ah d) 8) (bo (bc (ah x1.q5+ah ([(([]:η)++d)])) 24) (cI ((cu x1.1),x1.2.1,x1.p2,x1.p3,x1.p4,(x1.q5++([(([]:η)++d)]))))))) (aB x1.q3))) (0,x,(0,0),(x.1,x.q3),(([]:η)++x.2.1),([]:Y η))))
def vr (x:(lj×Int×Int)×(η)×Y η):J ((Γ×Bool)×(η)×Y η):=
 (av (jG x.1.1) λy1=>(iter (σ:=Int×(η)×(Y η)×lj×(Γ)×Int×Int) (λx2=>(bx x2.1 (aY y1) (jn (bG aM y1 x2.1 λz4=>(bx z4 0 (aB (M,x2.2)) (bG aM y1 x2.1 λz5=>(aB ((cP (aY x2.2.1) z5),x2.2))))) λx3=>(aF x3.1 U (cI ((cu x2.1),x3.2)))) (av (jn (α:=(Int×Bool×η)×(η)×(Y η)×lj×(Γ)×Int×Int) (bf x2.p3.1 5 (cI (((x2.p3.2.1,x2.p4.2),M),x2.2.1,x2.p2)) (bf x2.p3.1 1 (aB ((x2.p3.p4,M,([]:η)),x2.2)) (bf x2.p3.1 2 (j7 aM x2.2.1 x2.p3.p2 λz7=>(j7 (.sl aM) x2.p2 x2.p3.p2 λz8=>(aB ((z7,M,z8),x2.2)))) (bf x2.p3.1 3 (av (mj x2.p3.p4) λy9=>(j7 aM x2.2.1 x2.p3.p2 λL=>(av (tG (y9,L)) λs=>(j7 (.sl aM) x2.p2 x2.p3.p2 λI=>(aB ((s.1,s.2,I),x2.2)))))) (av (mj x2.p3.p4) λy13=>(j7 aM x2.2.1 x2.p3.p2 λF=>(j7 aM x2.2.1 x2.p3.p3 λD=>(av (rX (y13,F,D)) λq=>(j7 (.sl aM) x2.p2 x2.p3.p2 λA=>(j7 (.sl aM) x2.p2 x2.p3.p3 λz=>(av (qT (A,z)) λy19=>(aB ((q.1,q.2,y19),x2.2))))))))))))) λd=>(bo (bc (ah ([]:η)+ah d.1.2.2) 8) (ck (e9 d.p3.2.1 (ah d.2.1)) (ck (e9 d.p3.2.1 (ah d.p2)) (Z ((((cu d.p4.1),d.p4.2),d.1.2.1),(cj d.2.1 d.p3.2.1 d.1.1),(cj d.p2 d.p3.2.1 (([]:η)++d.1.2.2)))))))) λr=>Z (bZ r)))) (0,x.2.1,x.2.2,x.1.1,x.1.2,0,0)))
def nl (x:(Int×Y lj)×Int×(η)×(Y η)×Int):J (uX×Bool):=
 (jn (α:=Bool×(Int×Y lj)×uX×Int×Int) (ir (aY x.p2) x.1.1 (aB (M,x.1,x.2,0,0)) (aB ((!decide (((aY x.p3):Int)=x.1.1)),x.1,x.2,0,0))) λx1=>(aF x1.1 (Z ((0,([]:η),([]:Y η),0),aa)) (av (ch x1.p2) λA=>(iter (σ:=Int×(Int×Y lj)×(Γ)×(Γ)×(η)×Y η) (λq=>(jk q.1 (aY q.2.1.2) (jn (bx q.p2.1 0 (aB (M,q.2)) (aB ((cP (aY q.2.1.2) q.p2.1),q.2))) λd=>(aF d.1 (aB ((0,([]:η),([]:Y η),0),aa)) (bG qH d.2.1.2 d.p2.1 λz=>(av (pG z.1) λD=>(aF (!D) (aB ((d.p2.1,d.p4,d.q5,d.p2.2),M)) (bf q.1 (aY d.2.1.2) (aB ((0,([]:η),([]:Y η),0),aa)) (av (vr ((z,d.p2),d.q4)) λs=>(bo (aw (ah d.q5) (ah s.2.2)&&(aw (ah d.p4) (ah s.2.1)&&M)) (aF (!s.1.2) (aB ((0,([]:η),([]:Y η),0),aa)) (cI ((cu q.1),d.2.1,s.1.1,d.p3,s.2))))))))))) (aB ((0,([]:η),([]:Y η),0),aa)))) (0,x1.2.1,A.1,x1.q3,A.2)))))
def pn (x:nz×mr×(Y jC)×dj×dj×Y ν):J pR:=
 (iter (σ:=Int×eP×Int×Int×Y (Int×η)) (λx1=>(bx x1.1 (aY x1.2.1.2.1) (bo (bc (ah x1.q4+ah ([((-1),([]:η))])) 32) (cI ((cu x1.1),x1.2.1,x1.p2,x1.p3,(x1.q4++([((-1),([]:η))]))))) (av (iter (σ:=Int×eP×Int×Int×iI×θ) (λx2=>(bx x2.1 (aY x2.2.1.p3) (bo (bc (ah x2.q5+ah ([aa])) 1) (cI ((cu x2.1),x2.2.1,x2.p2,x2.p3,x2.p4,(x2.q5++([aa]))))) (av (iter (σ:=Int×eP×Int×Int×iI×(θ)×Y dI) (λd=>(bx d.1 (aY d.2.1.p4) (jn (α:=eP×Int×Int×dI×iI×(θ)×Y dI) (bf d.1 0 (aB (d.2.1,d.p2,d.p3,(1,0,aa),d.q4)) (aB (d.2.1,d.p2,d.p3,(0,0,aa),d.q4))) λq=>(bo (bc (ah q.q6+ah ([q.p3])) 24) (cI ((cu d.1),q.1,q.2.1,q.p2,q.p4,q.p5,(q.q6++([q.p3])))))) (aB (d.p4,d.p3,d.q5)))) (0,x2.2.1,x2.p2,x2.p3,x2.p4,x2.q5,([]:Y dI))) λr=>Z (bZ r)))) (0,x1.2.1,x1.p2,x1.p3,x1.q4,([]:θ))) λr=>Z (bZ r)))) (0,x,0,(-1),([]:Y (Int×η))))
def nH (x:eP×iI×Int×(θ)×Y dI):J (Bool):=
 (iter (σ:=Int×eP×iI×Int×(θ)×Y dI) (λx1=>(bx x1.1 (aY x1.2.1.p2) (jn (bG lZ x1.2.1.p2 x1.1 λq=>(bx q.2 0 (aB (M,x1.2)) (bG lZ x1.2.1.p2 x1.1 λd=>(aB ((cP (aY x1.2.1.2.1) d.2),x1.2))))) λx2=>(aF x2.1 (aB aa) (cI ((cu x1.1),x2.2)))) (av (jn (bf (aY x1.p2) (aY x1.2.1.2.1) (bf (aY x1.p4) (aY x1.2.1.p3) (aB (decide (((aY x1.q5):Int)=(aY x1.2.1.p4)))) (aB aa)) (aB aa)) λs=>(Z s)) λr=>Z (bZ r)))) (0,x))
def qf (x:Γ):J (Bool):=
 (jn (jk 0 x.1 (aB (fK x.1 x.2)) (aB aa)) λx1=>(Z x1))
def pm (x:eP×Int×Int):J (Bool):=
 (jn (bf x.2.1 1 (aB ((decide ((x.2.1:Int)=1)),x.1)) (bf x.2.1 2 (aB ((decide ((x.2.1:Int)=2)),x.1)) (bf x.2.1 5 (aB ((decide ((x.2.1:Int)=5)),x.1)) (bf x.2.1 12 (aB ((decide ((x.2.1:Int)=12)),x.1)) (bf x.2.1 13 (aB ((decide ((x.2.1:Int)=13)),x.1)) (bf x.2.1 14 (aB ((decide ((x.2.1:Int)=14)),x.1)) (aB ((decide ((x.2.1:Int)=15)),x.1)))))))) λx1=>(aF x1.1 (Z (decide ((x.2.2:Int)=(-1)))) (jn (bf x.2.1 3 (aB ((decide ((x.2.1:Int)=3)),x1.2)) (aB ((decide ((x.2.1:Int)=4)),x1.2))) λx2=>(aF x2.1 (av (qf (x.2.2,(aY x2.2.1))) λy3=>(Z y3)) (jn (bf x.2.1 6 (aB ((decide ((x.2.1:Int)=6)),x2.2)) (aB ((decide ((x.2.1:Int)=7)),x2.2))) λz=>(aF z.1 (jn (av (qf (x.2.2,(aY z.p2))) λy6=>(aF y6 (bG qK z.p2 x.2.2 λz7=>(aB (!z7.2))) (aB aa))) λx5=>(Z x5)) (jn (bf x.2.1 8 (aB ((decide ((x.2.1:Int)=8)),z.2)) (bf x.2.1 9 (aB ((decide ((x.2.1:Int)=9)),z.2)) (bf x.2.1 10 (aB ((decide ((x.2.1:Int)=10)),z.2)) (aB ((decide ((x.2.1:Int)=11)),z.2))))) λs=>(aF s.1 (jn (av (qf (x.2.2,(aY s.p2))) λy10=>(aF y10 (bG qK s.p2 x.2.2 λD=>(aB D.2)) (aB aa))) λx9=>(Z x9)) (jn (bf x.2.1 16 (aB ((decide ((x.2.1:Int)=16)),s.2)) (bf x.2.1 17 (aB ((decide ((x.2.1:Int)=17)),s.2)) (bf x.2.1 18 (aB ((decide ((x.2.1:Int)=18)),s.2)) (aB ((decide ((x.2.1:Int)=19)),s.2))))) λq=>(aF q.1 (av (qf (x.2.2,(aY q.p3))) λL=>(Z L)) (jn (bf x.2.1 20 (aB ((decide ((x.2.1:Int)=20)),q.2)) (aB ((decide ((x.2.1:Int)=21)),q.2))) λd=>(aF d.1 (av (qf (x.2.2,(aY d.p5))) λI=>(Z I)) (jn (bf x.2.1 22 (aB ((decide ((x.2.1:Int)=22)),d.2)) (aB ((decide ((x.2.1:Int)=23)),d.2))) λA=>(aF A.1 (av (qf (x.2.2,(aY A.p4))) λF=>(Z F)) (Z aa)))))))))))))))
def iw (x:eP×pR×Int×Int×Int):J (Bool):=
 (jn (av (nH (x.1,x.2.1)) λy2=>(aF (!y2) (aB (M,x.1,x.2.1)) (av (qf (x.p2,(aY x.1.p4))) λy3=>(aF (!y3) (aB (M,x.1,x.2.1)) (av (pm (x.1,x.q3)) λy4=>(aB ((!y4),x.1,x.2.1))))))) λx1=>(aF x1.1 (Z aa) (bG gF x1.q5 x.p2 λs=>(bf x.p3 1 (Z (decide ((s.1:Int)=1))) (bf x.p3 17 (jn (α:=Bool) (bf s.1 4 (bf s.2.1 x.q4 (bG lZ x1.2.1.p2 x.q4 λz7=>(bG dt x1.p2 z7.2 λz8=>(aB (decide ((z8.1:Int)=(-1)))))) (aB aa)) (aB aa)) λx6=>(Z x6)) (ir s.1 2 (Z aa) (bf x.p3 6 (bG dt x1.p2 x.q4 λz9=>(Z (decide ((z9.1:Int)=(-1))))) (bf x.p3 10 (jn (α:=Bool) (bG dt x1.p2 x.q4 λz11=>(bf z11.1 (-1) (bG dt x1.p2 x.q4 λz12=>(aB (decide (((aY z12.2):Int)=0)))) (aB aa))) λx10=>(Z x10)) (bf x.p3 8 (jn (α:=Bool) (bG dt x1.p2 x.q4 λz14=>(bf z14.1 (-1) (bG dt x1.p2 x.q4 λz15=>(av (ox (z15.2,x.p2)) λy16=>(aB (!y16)))) (aB aa))) λx13=>(Z x13)) (jn (bf x.p3 7 (aB ((decide ((x.p3:Int)=7)),x1.2.1,x1.2.2,s)) (aB ((decide ((x.p3:Int)=11)),x1.2.1,x1.2.2,s))) λd=>(aF d.1 (bG dt d.p2.1 x.q4 λz18=>(Z (decide ((z18.1:Int)=x.p2)))) (bf x.p3 9 (bG dt d.p2.1 x.q4 λz19=>(av (ox (z19.2,x.p2)) λy20=>(Z y20))) (bf x.p3 12 (Z (decide ((d.p2.2.1:Int)=(-1)))) (bf x.p3 13 (Z (decide ((d.p2.2.1:Int)=x.p2))) (bf x.p3 14 (Z (!d.q5)) (bf x.p3 15 (Z d.q5) (jn (bf x.p3 16 (aB ((decide ((x.p3:Int)=16)),d.2.1,d.p2)) (bf x.p3 18 (aB ((decide ((x.p3:Int)=18)),d.2.1,d.p2)) (aB ((decide ((x.p3:Int)=19)),d.2.1,d.p2)))) λq=>(aF q.1 (bG lZ q.2.1.p2 x.q4 λL=>(bG dt q.p2 L.2 λI=>(Z (decide ((I.1:Int)=x.p2))))) (bf x.p3 20 (jn (ir x.q4 x.p2 (bG gF q.q5 x.q4 λF=>(aB (decide ((F.1:Int)=0)))) (aB aa)) λx24=>(Z x24)) (bf x.p3 21 (jn (ir x.q4 x.p2 (bG gF q.q5 x.q4 λD=>(aB (decide ((D.1:Int)=5)))) (aB aa)) λx26=>(Z x26)) (bf x.p3 22 (bG (.bool) q.p4 x.q4 λA=>(Z (!A))) (bf x.p3 23 (bG (.bool) q.p4 x.q4 λz=>(Z z)) (Z M)))))))))))))))))))))))
def nG (x:pR×Int):J η:=
 (iter (σ:=Int×pR×η) (λx1=>(bx x1.1 (aY x1.2.1.q3) (jn (α:=pR×η) (jn (bG gF x1.2.1.q3 x1.1 λs=>(bf s.1 3 (bG gF x1.2.1.q3 x1.1 λq=>(aB ((decide ((q.2.1:Int)=x.2)),x1.2))) (aB (aa,x1.2)))) λd=>(aF d.1 (bo (bc (ah d.2.2+ah ([x1.1])) 8) (aB (d.2.1,(d.2.2++([x1.1]))))) (aB d.2))) λx2=>(cI ((cu x1.1),x2))) (aB x1.2.2))) (0,x.1,([]:η)))
def qe (x:η×Int):J η:=
 (iter (σ:=Int×η) (λx1=>(bx x1.1 (aY x.1) (jn (α:=η) (bG aM x.1 x1.1 λq=>(ir q x.2 (bG aM x.1 x1.1 λd=>(bo (bc (ah x1.2+ah ([d])) 8) (aB (x1.2++([d]))))) (aB x1.2))) λx2=>(cI ((cu x1.1),x2))) (aB x1.2))) (0,([]:η)))
def ii (x:iI×Int×(θ)×Y dI):J (Int×iI×(θ)×Y dI):=
 (bo (bc (ah ([]:θ)+ah x.p2) 1) (bo (bc (ah ([]:Y dI)+ah x.q3) 24) (iter (σ:=Int×pR×Int×Int×iI×(θ)×Y dI) (λx1=>(bx x1.1 (aY x1.2.1.1) (bG dt x1.2.1.1 x1.1 λq=>(bG dt x1.2.1.1 x1.1 λd=>(bo (bc (ah ([]:η)+ah d.2) 8) (bo (bc (ah x1.p4+ah ([(q.1,(([]:η)++d.2))])) 32) (cI ((cu x1.1),x1.2.1,x1.p2,x1.p3,(x1.p4++([(q.1,(([]:η)++d.2))])),x1.q5)))))) (aB x1.q3))) (0,x,0,x.2.1,([]:Y (Int×η)),(([]:θ)++x.p2),(([]:Y dI)++x.q3)))))
def mi (x:Γ×iI×(θ)×Y dI):J (η×iI×(θ)×Y dI):=
 (iter (σ:=Int×iI×(θ)×(Y dI)×Int×η) (λx1=>(bx x1.1 (aY x1.p3) (jn (α:=iI×(θ)×(Y dI)×Int×η) (jn (j7 gF x1.p3 x1.1 λs=>(bf s.1 3 (j7 gF x1.p3 x1.1 λq=>(aB ((decide ((q.2.1:Int)=x.1.2)),x1.2))) (aB (aa,x1.2)))) λd=>(aF d.1 (bo (bc (ah d.q5+ah ([x1.1])) 8) (aB (d.2.1,d.p2,d.p3,d.p4,(d.q5++([x1.1]))))) (aB d.2))) λx2=>(cI ((cu x1.1),x2))) (aB (x1.q5,x1.2.1,x1.p2,x1.p3)))) (0,x.2.1,x.p2,x.q3,x.1.1,([]:η)))
def jF (x:Γ×iI×(θ)×Y dI):J η:=av (mi x) λy=>same y.2 x.2 (Z y.1)
def po (x:eP×pR×Int×Int×Int×Int):J (pR×Int×Bool):=
 (av (iw (x.1,x.2.1,x.p2,x.p3,x.p4)) λy1=>(aF (!y1) (Z ((([]:Y (Int×η)),0,([]:θ),([]:Y dI)),0,aa)) (av (ii x.2.1) λz=>(jn (α:=Int×Int×Int×iI×(θ)×Y dI) (bf x.p3 1 (ck (e9 x.p2 (ah z.q3)) (aB (0,z.1,0,z.2.1,z.p2,(cj z.q3 x.p2 (2,(aG (T:=gF) z.q3 x.p2).2))))) (bf x.p3 2 (ck (e9 x.p2 (ah z.q3)) (aB (0,z.1,0,z.2.1,z.p2,(cj z.q3 x.p2 (5,(aG (T:=gF) z.q3 x.p2).2))))) (jn (α:=Bool×eP×Int×Int×iI×(θ)×Y dI) (bf x.p3 6 (aB ((decide ((x.p3:Int)=6)),x.1,z.1,0,z.2)) (aB ((decide ((x.p3:Int)=10)),x.1,z.1,0,z.2))) λA=>(aF A.1 (ck (e9 x.p4 (ah A.p4)) (aB (0,A.p2,A.p3,(cj A.p4 x.p4 (x.p2,(aG (T:=dt) A.p4 x.p4).2)),A.q5))) (jn (bf x.p3 7 (aB ((decide ((x.p3:Int)=7)),A.2)) (aB ((decide ((x.p3:Int)=11)),A.2))) λd=>(aF d.1 (ck (e9 x.p4 (ah d.p4)) (aB (0,d.p2,d.p3,(cj d.p4 x.p4 ((-1),(aG (T:=dt) d.p4 x.p4).2)),d.q5))) (bf x.p3 8 (j7 dt d.p4 x.p4 λz6=>(av (qT (z6.2,[x.p2])) λy7=>(ck (e9 x.p4 (ah d.p4)) (aB (0,d.p2,d.p3,(cj d.p4 x.p4 ((aG (T:=dt) d.p4 x.p4).1,y7)),d.q5))))) (bf x.p3 9 (j7 dt d.p4 x.p4 λz8=>(av (qe (z8.2,x.p2)) λy9=>(ck (e9 x.p4 (ah d.p4)) (aB (0,d.p2,d.p3,(cj d.p4 x.p4 ((aG (T:=dt) d.p4 x.p4).1,y9)),d.q5))))) (bf x.p3 12 (aB (0,x.p2,d.q3)) (bf x.p3 13 (aB (0,(-1),d.q3)) (bf x.p3 14 (ck (e9 x.p2 (ah d.q6)) (aB (0,d.p2,d.p3,d.p4,d.p5,(cj d.q6 x.p2 ((aG (T:=gF) d.q6 x.p2).1,((aG (T:=gF) d.q6 x.p2).2).1,M))))) (bf x.p3 15 (ck (e9 x.p2 (ah d.q6)) (aB (0,d.p2,d.p3,d.p4,d.p5,(cj d.q6 x.p2 ((aG (T:=gF) d.q6 x.p2).1,((aG (T:=gF) d.q6 x.p2).2).1,aa))))) (bf x.p3 16 (bG lZ d.2.1.p2 x.p4 λI=>(ck (e9 I.2 (ah d.p4)) (ck (e9 x.p2 (ah d.q6)) (ck (e9 x.p2 (ah (cj d.q6 x.p2 (3,(aG (T:=gF) d.q6 x.p2).2)))) (aB (0,d.p2,d.p3,(cj d.p4 I.2 ((-1),(aG (T:=dt) d.p4 I.2).2)),d.p5,(cj (cj d.q6 x.p2 (3,(aG (T:=gF) d.q6 x.p2).2)) x.p2 ((aG (T:=gF) (cj d.q6 x.p2 (3,(aG (T:=gF) d.q6 x.p2).2)) x.p2).1,x.p4,((aG (T:=gF) (cj d.q6 x.p2 (3,(aG (T:=gF) d.q6 x.p2).2)) x.p2).2).2)))))))) (bf x.p3 17 (bG lZ d.2.1.p2 x.p4 λF=>(ck (e9 F.2 (ah d.p4)) (ck (e9 x.p2 (ah d.q6)) (ck (e9 x.p2 (ah (cj d.q6 x.p2 (2,(aG (T:=gF) d.q6 x.p2).2)))) (aB (0,d.p2,d.p3,(cj d.p4 F.2 (x.p2,(aG (T:=dt) d.p4 F.2).2)),d.p5,(cj (cj d.q6 x.p2 (2,(aG (T:=gF) d.q6 x.p2).2)) x.p2 ((aG (T:=gF) (cj d.q6 x.p2 (2,(aG (T:=gF) d.q6 x.p2).2)) x.p2).1,0,((aG (T:=gF) (cj d.q6 x.p2 (2,(aG (T:=gF) d.q6 x.p2).2)) x.p2).2).2)))))))) (bf x.p3 18 (av (jF ((d.p2,x.p4),d.q4)) λy12=>(bx 0 (aY y12) (bG aM y12 0 λz13=>(jn (av (ox (y12,x.q5)) λy15=>(aF y15 (aB (x.q5,d.2.2)) (aB (z13,d.2.2)))) λs=>(ck (e9 s.1 (ah s.q5)) (aB (s.1,s.2.1,s.p2,s.p3,s.p4,(cj s.q5 s.1 (4,(aG (T:=gF) s.q5 s.1).2))))))) (aB ((-1),d.2.2)))) (bf x.p3 19 (av (jF ((d.p2,x.p4),d.q4)) λL=>(iter (σ:=Int×Int×Int×iI×(θ)×Y dI) (λq=>(bx q.1 (aY L) (bG aM L q.1 λD=>(ck (e9 D (ah q.q5)) (cI ((cu q.1),q.2.1,q.p2,q.p3,q.p4,(cj q.q5 D (4,(aG (T:=gF) q.q5 D).2)))))) (aB (bZ ((aY L),q.2))))) (0,d.2.2))) (bf x.p3 20 (ck (e9 x.p4 (ah d.q6)) (aB (0,d.p2,d.p3,d.p4,d.p5,(cj d.q6 x.p4 (1,(aG (T:=gF) d.q6 x.p4).2))))) (bf x.p3 22 (ck (e9 x.p4 (ah d.p5)) (aB (0,d.p2,d.p3,d.p4,(cj d.p5 x.p4 M),d.q6))) (aB (0,d.2.2)))))))))))))))))))) λx3=>(Z ((x3.p3,x3.2.1,x3.q4),x3.1,M))))))
def tB (x:eP×Y (Int×Y lj)):J w7:=
 (av (pt x) λI=>(aF (!I) (Z ((([]:Y (Int×η)),0,([]:θ),([]:Y dI)),([]:η),([]:η),([]:Y uX))) (av (pn x.1) λF=>(iter (σ:=Int×Bt×Int×pR×η) (λs=>(bx s.1 (aY s.2.1.1.1) (bG kG s.2.1.1.1 s.1 λD=>(bo (bc (ah s.q4+ah ([D.2.2.2.2])) 8) (cI ((cu s.1),s.2.1,s.p2,s.p3,(s.q4++([D.2.2.2.2])))))) (av (iter (σ:=Int×Bt×Int×pR×(η)×η) (λq=>(bx q.1 (aY q.2.1.1.p3) (bo (bc (ah q.q5+ah ([0])) 8) (cI ((cu q.1),q.2.1,q.p2,q.p3,q.p4,(q.q5++([0]))))) (av (iter (σ:=Int×Bt×Int×pR×(η)×(η)×Y uX) (λd=>(bx d.1 (aY d.2.1.2) (l8 d.1 d.2.1.2 (lt ((aG (T:=v7) d.2.1.2 d.1).1) λA=>(bo (cP 0 A&&cP A A&&bc (aP A) 8) (l8 d.1 d.2.1.2 (lt ((aG (T:=v7) d.2.1.2 d.1).1) λz=>(bo (cP 0 z&&cP z z&&bc (aP z) 24) (bo (bc (ah d.q6+ah ([(0,(aA (aP A) (0:Int)),(aA (aP z) ([]:η)),0)])) 64) (cI ((cu d.1),d.2.1,d.p2,d.p3,d.p4,d.p5,(d.q6++([(0,(aA (aP A) (0:Int)),(aA (aP z) ([]:η)),0)]))))))))))) (aB d.q3))) (0,q.2.1,q.p2,q.p3,q.p4,q.q5,([]:Y uX))) λr=>Z (bZ r)))) (0,s.2.1,s.p2,s.p3,s.q4,([]:η))) λr=>Z (bZ r)))) (0,x,0,F,([]:η))))))
def vq (x:Bt×pR×(η)×(η)×Y uX):J (Bool):=
 (jn (av (pt x.1) λI=>(aF (!I) (aB (M,x)) (av (nH (x.1.1,x.2.1)) λF=>(aF (!F) (aB (M,x)) (ir (aY x.p2) (aY x.1.1.1) (aB (M,x)) (ir (aY x.p3) (aY x.1.1.p3) (aB (M,x)) (aB ((!decide (((aY x.q4):Int)=(aY x.1.2))),x)))))))) λx1=>(aF x1.1 (Z aa) (iter (σ:=Int×Bt×pR×(η)×(η)×Y uX) (λd=>(bx d.1 (aY d.2.1.2) (bG eI d.q5 d.1 λq=>(jn (bx q.1 0 (aB (M,d.2)) (bG v7 d.2.1.2 d.1 λD=>(jk (aY D.2) q.1 (aB (M,d.2)) (bG v7 d.2.1.2 d.1 λA=>(ir (aY q.2.1) A.1 (aB (M,d.2)) (bG v7 d.2.1.2 d.1 λz=>(aB ((!decide (((aY q.p2):Int)=z.1)),d.2)))))))) λs=>(aF s.1 (aB aa) (cI ((cu d.1),s.2))))) (aB M))) (0,x1.2))))
def vo (x:Int):J (Int):=
 (jn (α:=Bool×η) (bx x 6 (aB (M,[3,3,4,4,5,6,7,8,9,10,11,12,13,14,15,16,18,19,20,21,22,23,2])) (aB ((fK 28 x),[3,3,4,4,5,6,7,8,9,10,11,12,13,14,15,16,18,19,20,21,22,23,2]))) λx1=>(aF x1.1 (Z 0) (j7 aM x1.2 (a9 .i64 (x-6)) λd=>(Z d))))
def rW (x:lj×Int×(η)×(Y η)×Int):J (Int):=
 (jn (bf x.1.1 6 (aB ((decide ((x.1.1:Int)=6)),x)) (aB ((decide ((x.1.1:Int)=27)),x))) λx1=>(aF x1.1 (Z x1.2.1.p2) (bf x.1.1 7 (bG aM x1.p3 x1.2.1.p3 λs=>(av (qV (s,x1.2.1.p4)) λA=>(Z (a9 .i64 (x1.2.1.p2+A))))) (bf x.1.1 9 (bG aM x1.p3 x1.2.1.p3 λq=>(av (qV (q,x1.2.1.p4)) λz=>(Z (a9 .i64 (x1.2.1.2.1+z))))) (jn (bf x.1.1 10 (aB ((decide ((x.1.1:Int)=10)),x1.2.1)) (bf x.1.1 17 (aB ((decide ((x.1.1:Int)=17)),x1.2.1)) (bf x.1.1 18 (aB ((decide ((x.1.1:Int)=18)),x1.2.1)) (bf x.1.1 19 (aB ((decide ((x.1.1:Int)=19)),x1.2.1)) (bf x.1.1 20 (aB ((decide ((x.1.1:Int)=20)),x1.2.1)) (aB ((decide ((x.1.1:Int)=28)),x1.2.1))))))) λd=>(aF d.1 (Z (-1)) (Z d.p2)))))))
def nF (x:Bt×w7×Int):J (jD×Bool):=
 (jn (α:=Bool×Bt×w7×Int×Int×Int×Int×Int) (av (vq (x.1,x.2.1)) λy2=>(aF (!y2) (aB (M,x.1,x.2.1,0,0,0,0,0)) (bx x.2.2 0 (aB (M,x.1,x.2.1,0,0,0,0,0)) (aB ((cP (aY x.1.2) x.2.2),x.1,x.2.1,0,0,0,0,0))))) λx1=>(aF x1.1 (Z ((0,0,0,0,0,([]:η),([]:η)),aa)) (bG eI x1.p2.q3 x.2.2 λD=>(bG v7 x1.2.1.2 x.2.2 λz4=>(bG qH z4.2 D.1 λs=>(bG gF x1.p2.1.q3 x.2.2 λz6=>(bf z6.1 1 (Z ((x.2.2,1,(-1),0,(-1),([]:η),([]:η)),M)) (bf z6.1 4 (bG gF x1.p2.1.q3 x.2.2 λz7=>(Z ((x.2.2,17,z7.2.1,0,s.q5,([]:η),([]:η)),M))) (bf z6.1 2 (av (vo s.1) λy8=>(av (rW (s,D)) λy9=>(bf y8 0 (Z ((0,0,0,0,0,([]:η),([]:η)),aa)) (jn (α:=C7×uX×lj×C7×η) (bf s.1 10 (bG (.sl aM) D.p2 s.2.1 λL=>(bo (bc (ah (L:η)) 8) (aB (x1.q3,D,s,(x.2.2,y8,y9,0,s.q5),L)))) (jn (α:=Bool×C7×uX×lj×Int×Int×Int×Int×Int) (bf s.1 7 (aB ((decide ((s.1:Int)=7)),x1.q3,D,s,x.2.2,y8,y9,0,s.q5)) (aB ((decide ((s.1:Int)=9)),x1.q3,D,s,x.2.2,y8,y9,0,s.q5))) λd=>(aF d.1 (bG (.sl aM) d.p2.p2 d.p3.p3 λI=>(bo (bc (ah (I:η)) 8) (aB (d.2.1,d.p2,d.p3,d.q4,I)))) (aB (d.2.1,d.p2,d.p3,d.q4,([]:η)))))) λA=>(jn (α:=C7×C7×(η)×η) (jn (bf A.p2.1 8 (aB (M,A)) (bf A.p2.1 9 (aB (M,A)) (aB ((decide ((A.p2.1:Int)=26)),A)))) λq=>(aF q.1 (bG (.sl aM) q.p2.p2 q.p3.p2 λF=>(bo (bc (ah (F:η)) 8) (aB (q.2.1,q.p4,q.q5,F)))) (aB (q.2.1,q.p4,q.q5,([]:η))))) λz=>(Z ((z.2.1.1,z.2.1.2.1,z.2.1.p2,z.2.1.p3,z.2.1.q4,z.2.2),M))))))) (Z ((0,0,0,0,0,([]:η),([]:η)),aa)))))))))))
def mV (x:nz×mr×(Y jC)×dj×dj×Y ν):J fV:=
 (av (pn x) λq=>(bo (cP 0 (aY x.p3)&&cP (aY x.p3) (aY x.p3)&&bc (aP (aY x.p3)) 8) (bo (cP 0 (aY x.p4)&&cP (aY x.p4) (aY x.p4)&&bc (aP (aY x.p4)) 8) (iter (σ:=Int×eP×Int×pR×(η)×(η)×η) (λx2=>(bx x2.1 (aY x2.2.1.1) (bG kG x2.2.1.1 x2.1 λd=>(bo (bc (ah x2.p4+ah ([d.2.2.2.2])) 8) (cI ((cu x2.1),x2.2.1,x2.p2,x2.p3,(x2.p4++([d.2.2.2.2])),x2.q5)))) (aB x2.q3))) (0,x,0,q,([]:η),(aA (aP (aY x.p3)) (0:Int)),(aA (aP (aY x.p4)) (0:Int)))))))
def qS (x:eP×pR×(η)×(η)×η):J (Bool):=
 (jn (av (nH (x.1,x.2.1)) λd=>(aF d (bf (aY x.p2) (aY x.1.1) (bf (aY x.p3) (aY x.1.p3) (aB (decide (((aY x.q4):Int)=(aY x.1.p4)))) (aB aa)) (aB aa)) (aB aa))) λx1=>(Z x1))
def BV (x:Γ):J (Bool):=
 (jn (jk 0 x.1 (aB (fK x.1 x.2)) (aB aa)) λx1=>(Z x1))
def ki (x:η×Int):J (Bool):=
 (iter (σ:=Int) (λx1=>(bx x1 (aY x.1) (jn (bG aM x.1 x1 λz=>(bx z 1 (aB M) (bG aM x.1 x1 λs=>(jk x.2 s (aB M) (bx 0 x1 (bG aM x.1 x1 λq=>(bG aM x.1 (a9 .i64 (x1-1)) λd=>(aB (cP q d)))) (aB aa)))))) λx2=>(aF x2 (aB aa) (cI (cu x1)))) (aB M))) 0)
def pl (x:fV×Int×Int×Int×Int×Int×(η)×η):J (Bool):=
 (bf x.p2 3 (bG aM x.1.2.1 x.p3 λz=>(Z (decide ((x.p4:Int)=z)))) (bf x.p2 23 (bG aM x.1.p2 x.p3 λs=>(Z (decide ((x.p4:Int)=s)))) (bf x.p2 5 (jn (bf x.p4 0 (aB M) (aB (decide ((x.p4:Int)=1)))) λI=>(Z I)) (jn (bf x.p2 4 (aB ((decide ((x.p2:Int)=4)),x)) (aB ((decide ((x.p2:Int)=22)),x))) λd=>(aF d.1 (Z M) (bf x.p2 18 (av (nG (d.2.1.1,d.p4)) λq=>(bf (aY q) 0 (Z (decide ((d.p5:Int)=(-1)))) (jn (jk 0 d.p5 (bx d.p5 (aY d.2.1.1.q3) (av (ox (q,d.p5)) λD=>(aB D)) (aB aa)) (aB aa)) λF=>(Z F)))) (bf x.p2 19 (av (nG (d.2.1.1,d.p4)) λA=>(Z (decide ((d.p5:Int)=(aY A))))) (Z (decide ((d.p5:Int)=0))))))))))
def nE (x:eP×fV×Int×Int×Int×Int×Int×(η)×η):J (fV×Bool):=
 (jn (α:=Bool×eP×fV×jD×Int) (av (qS (x.1,x.2.1)) λy2=>(aF (!y2) (aB (M,x.1,x.2.1,x.2.2,0)) (av (BV (x.p2,(aY x.1.p4))) λy3=>(aF (!y3) (aB (M,x.1,x.2.1,x.2.2,0)) (bx x.p3 1 (aB (M,x.1,x.2.1,x.2.2,0)) (bx 23 x.p3 (aB (M,x.1,x.2.1,x.2.2,0)) (av (iw (x.1,x.2.1.1,x.p2,x.p3,x.p4)) λy4=>(aB ((!y4),x.1,x.2.1,x.2.2,0))))))))) λx1=>(aF x1.1 (Z (((([]:Y (Int×η)),0,([]:θ),([]:Y dI)),([]:η),([]:η),([]:η)),aa)) (jn (α:=eP×fV×jD×Int) (jn (bf x1.p3.2.1 1 (aB (M,x1.2)) (aB ((decide ((x1.p3.2.1:Int)=2)),x1.2))) λI=>(aF I.1 (ir I.p3.p4 (-1) (cI (((([]:Y (Int×η)),0,([]:θ),([]:Y dI)),([]:η),([]:η),([]:η)),aa)) (aB I.2)) (jn (av (BV (I.p3.p4,(aY I.2.1.q5))) λy8=>(aF (!y8) (aB (M,I.2)) (bG og I.2.1.q5 I.p3.p4 λz9=>(aB ((!decide ((z9.1:Int)=I.p3.1)),I.2))))) λx7=>(aF x7.1 (cI (((([]:Y (Int×η)),0,([]:θ),([]:Y dI)),([]:η),([]:η),([]:η)),aa)) (aB x7.2))))) λx5=>(jn (bf x5.p2.2.1 3 (aB (M,x5)) (aB ((decide ((x5.p2.2.1:Int)=4)),x5))) λD=>(jn (bx 0 (aY D.p3.p5) (ir D.p3.2.1 5 (aF D.1 (bG kG D.2.1.1 D.p3.p2 λz12=>(aB ((!(!decide ((z12.2.2.1:Int)=0))),D.2))) (aB (M,D.2))) (aB (aa,D.2))) (aB (aa,D.2))) λF=>(aF F.1 (Z (((([]:Y (Int×η)),0,([]:θ),([]:Y dI)),([]:η),([]:η),([]:η)),aa)) (jn (bx 0 (aY F.p3.q6) (ir F.p3.2.1 4 (aB ((!decide ((F.p3.2.1:Int)=22)),F.2)) (aB (aa,F.2))) (aB (aa,F.2))) λz=>(aF z.1 (Z (((([]:Y (Int×η)),0,([]:θ),([]:Y dI)),([]:η),([]:η),([]:η)),aa)) (jn (bG aM z.p2.q3 z.p3.1 λz15=>(av (ki (z.p3.p5,z15)) λy16=>(aF (!y16) (aB (M,z.2)) (bG aM z.p2.q3 z.p3.1 λz17=>(av (ki (z.p3.q6,z17)) λy18=>(aF (!y18) (aB (M,z.2)) (av (pl (z.p2,z.p3)) λy19=>(aB ((!y19),z.2))))))))) λd=>(aF d.1 (Z (((([]:Y (Int×η)),0,([]:θ),([]:Y dI)),([]:η),([]:η),([]:η)),aa)) (bo (bc (ah ([]:η)+ah d.p2.2.1) 8) (bo (bc (ah ([]:η)+ah d.p2.p2) 8) (bo (bc (ah ([]:η)+ah d.p2.q3) 8) (jn (α:=Int×eP×fV×jD×Int×Int×(η)×(η)×η) (bf d.p3.2.1 18 (aB (d.p3.p3,d.2.1,d.p2,d.p3,d.q4,0,(([]:η)++d.p2.2.1),(([]:η)++d.p2.p2),(([]:η)++d.p2.q3))) (aB ((-1),d.2.1,d.p2,d.p3,d.q4,0,(([]:η)++d.p2.2.1),(([]:η)++d.p2.p2),(([]:η)++d.p2.q3)))) λq=>(av (po (q.2.1,q.p2.1,q.p3.1,q.p3.2.1,q.p3.p2,q.1)) λL=>(jn (bf q.p3.2.1 4 (ck (e9 q.p3.p2 (ah q.p6)) (aB (q.p3,q.p4,L.1,(cj q.p6 q.p3.p2 q.p3.p3),q.q7))) (aB (q.p3,q.p4,L.1,q.q6))) λs=>(jn (bf s.1.2.1 22 (ck (e9 s.1.p2 (ah s.p4)) (aB (s.1,s.2.1,s.p2,s.p3,(cj s.p4 s.1.p2 s.1.p3),s.q5))) (aB s)) λA=>(j7 aM A.q5 A.1.1 λz24=>(ck (e9 A.1.1 (ah A.q5)) (Z ((A.p2,A.p3,A.p4,(cj A.q5 A.1.1 (cu z24))),M)))))))))))))))))))))
def mU (x:(Y jD)×Int×Int×η):J (Bool):=
 (iter (σ:=Int) (λx1=>(bx x1 (aY x.q3) (iter (σ:=Int×Bool×Int) (λx2=>(bx x2.2.2 x.2.1 (jn (bG gG x.1 x2.2.2 λA=>(ir A.1 x.p2 (aB (x2.1,x2.2.1)) (jn (aF x2.2.1 (aB M) (bG aM x.q3 x1 λz=>(bf x2.1 z (bG gG x.1 x2.2.2 λs=>(bf s.2.1 3 (aB M) (bG gG x.1 x2.2.2 λq=>(aB (decide ((q.2.1:Int)=23)))))) (aB aa)))) λD=>(aB ((cu x2.1),D))))) λd=>(cI (d.1,d.2,(cu x2.2.2)))) (av (aF (!x2.2.1) (aB aa) (cI (cu x1))) λr=>Z (bZ r)))) (0,aa,0)) (aB M))) 0)
def mW (x:eP×Y jD):J Γ:=
 (bx 400 (aY x.2) (Z (0,2)) (av (gV x.1) λI=>(aF (!I) (Z (0,1)) (av (mV x.1) λF=>(iter (σ:=Int×(eP×Y jD)×pR×(η)×(η)×η) (λd=>(bx d.1 (aY d.2.1.2) (bG gG d.2.1.2 d.1 λq=>(av (nE (d.2.1.1,d.2.2,q)) λs=>(jn (aF (!s.2) (aB (M,d.2.1,d.2.2,s.1)) (av (mU (d.2.1.2,d.1,q.1,q.p5)) λD=>(aF (!D) (aB (M,d.2.1,d.2.2,s.1)) (av (mU (d.2.1.2,d.1,q.1,q.q6)) λA=>(aB ((!A),d.2.1,d.2.2,s.1)))))) λz=>(aF z.1 (aB (d.1,12)) (cI ((cu d.1),z.2.1,z.q3)))))) (aB (0,0)))) (0,x,F))))))
def KG {g W V:Type} (i:Int) (t1:g->(η)->(Y η)->W) (F:W->V) (I:V->uX->Y uX) (D:Int) (d:Bt×pR×(Γ)×Int×C7×jD×(Γ)×(η)×(η)×g×(η)×Y η):J C6:=
 (jn (jn (ir d.p5.2.1 16 (aB ((!decide ((d.p5.2.1:Int)=2)),d.1,d.2.1,d.p2,d.p3,d.p4,d.p5,(D,d.p10,d.q11,(cu d.p6.2)),d.p7,d.p8,(t1 d.p9 d.p10 d.q11))) (aB (aa,d.1,d.2.1,d.p2,d.p3,d.p4,d.p5,(D,d.p10,d.q11,(cu d.p6.2)),d.p7,d.p8,(t1 d.p9 d.p10 d.q11)))) λq=>(aF q.1 (bG v7 q.2.1.2 q.p3.1 λz=>(av (nl (z,q.p7)) λA=>(aB (q.p2,q.p3,q.p4,q.p5,q.p6,A.1,q.p8,q.p9,(F q.q10))))) (aB (q.p2,q.p3,q.p4,q.p5,q.p6,q.p7,q.p8,q.p9,(F q.q10))))) λs=>(bf s.2.1.1 i (Z ((s.1,s.p6,s.p7,(I s.q8 s.p5)),s.p4,M)) U))
def SG {g:Type} (i:Int) (cp:(pR×(η)×(η)×Y uX)->J (Int×iI×(θ)×(Y dI)×(η)×(η)×g×(η)×Y η)) (A ev:g->Int) (k:Int->(Bt×pR×(Γ)×Int×C7×jD×(Γ)×(η)×(η)×g×(η)×Y η)->J C6) (x:Bt×w7×Int×Int):J C6:=
 (av (nF (x.1,x.2.1,x.p2)) λs=>(aF (!s.2) (Z (((([]:Y (Int×η)),0,([]:θ),([]:Y dI)),([]:η),([]:η),([]:Y uX)),(0,0,0,0,0,([]:η),([]:η)),aa)) (av (po (x.1.1,x.2.1.1,x.p2,s.1.2.1,s.1.p2,x.q3)) λD=>(aF (!D.2.2) (Z (((([]:Y (Int×η)),0,([]:θ),([]:Y dI)),([]:η),([]:η),([]:Y uX)),(0,0,0,0,0,([]:η),([]:η)),aa)) (av (cp x.2.1) λz=>(bf x.p2 i (bG v7 x.1.2 i λz4=>(bG qH z4.2 (A z.p6) λz5=>(jn (α:=Int×Bt×pR×(Γ)×Int×C7×jD×(Γ)×lj×(η)×(η)×g×(η)×Y η) (jn (α:=Bool×Bt×pR×(Γ)×Int×C7×jD×(Γ)×lj×(η)×(η)×g×(η)×Y η) (bf s.1.2.1 1 (aB ((decide ((s.1.2.1:Int)=1)),x.1,D.1,(i,x.q3),0,(0,0,0,0,0),(s.1.1,s.1.2.1,s.1.p2,D.2.1,s.1.q4),((A z.p6),(ev z.p6)),z5,z.q4)) (bf s.1.2.1 16 (aB ((decide ((s.1.2.1:Int)=16)),x.1,D.1,(i,x.q3),0,(0,0,0,0,0),(s.1.1,s.1.2.1,s.1.p2,D.2.1,s.1.q4),((A z.p6),(ev z.p6)),z5,z.q4)) (aB ((decide ((s.1.2.1:Int)=2)),x.1,D.1,(i,x.q3),0,(0,0,0,0,0),(s.1.1,s.1.2.1,s.1.p2,D.2.1,s.1.q4),((A z.p6),(ev z.p6)),z5,z.q4)))) λd=>(aF d.1 (aB (d.p7.1,d.2)) (bf s.1.2.1 3 (j7 aM d.p9 d.p6.p2 λz8=>(aB ((a9 .i64 ((A z.p6)+1)),d.2.1,d.p2,d.p3,d.p4,d.p5,(d.p6.1,d.p6.2.1,d.p6.p2,z8,d.p6.q4),d.q7))) (bf s.1.2.1 23 (j7 aM d.p10 d.p6.p2 λz9=>(aB ((a9 .i64 ((A z.p6)+1)),d.2.1,d.p2,d.p3,d.p4,d.p5,(d.p6.1,d.p6.2.1,d.p6.p2,z9,d.p6.q4),d.q7))) (bf s.1.2.1 4 (j7 aM d.p12 d.p8.p2 λI=>(ck (e9 d.p6.p2 (ah d.p9)) (aB ((a9 .i64 ((A z.p6)+1)),d.2.1,d.p2,d.p3,d.p4,d.p5,(d.p6.1,d.p6.2.1,d.p6.p2,I,d.p6.q4),d.p7,d.p8,(cj d.p9 d.p6.p2 I),d.q10)))) (bf s.1.2.1 22 (j7 aM d.p12 d.p8.p2 λF=>(ck (e9 d.p6.p2 (ah d.p10)) (aB ((a9 .i64 ((A z.p6)+1)),d.2.1,d.p2,d.p3,d.p4,d.p5,(d.p6.1,d.p6.2.1,d.p6.p2,F,d.p6.q4),d.p7,d.p8,d.p9,(cj d.p10 d.p6.p2 F),d.q11)))) (bf s.1.2.1 5 (j7 aM d.p12 d.p8.2.1 λz12=>(bf z12 0 (aB (d.p8.p2,d.2.1,d.p2,d.p3,d.p4,d.p5,(d.p6.1,d.p6.2.1,d.p6.p2,0,d.p6.q4),d.q7)) (aB ((a9 .i64 ((A z.p6)+1)),d.2.1,d.p2,d.p3,d.p4,d.p5,(d.p6.1,d.p6.2.1,d.p6.p2,1,d.p6.q4),d.q7)))) (aB ((a9 .i64 ((A z.p6)+1)),d.2))))))))) λL=>(jn (α:=Bt×pR×(Γ)×Int×C7×jD×(Γ)×(η)×(η)×g×(η)×Y η) (jn (bf L.p6.2.1 3 (aB (M,L.2)) (aB ((decide ((L.p6.2.1:Int)=23)),L.2))) λq=>(aF q.1 (ck (e9 q.p8.2.1 (ah q.p12)) (ck (e9 q.p8.2.1 (ah q.q13)) (aB (q.2.1,q.p2,q.p3,q.p4,q.p5,q.p6,q.p7,q.p9,q.p10,q.p11,(cj q.p12 q.p8.2.1 q.p6.p3),(cj q.q13 q.p8.2.1 ([q.p7.2])))))) (aB (q.2.1,q.p2,q.p3,q.p4,q.p5,q.p6,q.p7,q.q9)))) λx13=>(k L.1 x13))))) U))))))
def nk (x:pR×(η)×(η)×Y uX):J (Int×iI×(θ)×(Y dI)×(η)×(η)×(Γ)×(η)×Y η):=
 (av (ii x.1) λd=>(bo (bc (ah ([]:η)+ah x.2.1) 8) (bo (bc (ah ([]:η)+ah x.p2) 8) (bx 0 (aY x.q3) (bG eI x.q3 0 λs=>(av (ch s) λz=>(bx 1 (aY x.q3) (bG eI x.q3 1 λq=>(av (ch q) λA=>U)) (Z (d.1,d.2.1,d.p2,d.q3,(([]:η)++x.2.1),(([]:η)++x.p2),z))))) U))))
def fQ (x:Bt×w7×Int×Int):J C6:=
 SG 0 nk (λz=>z.1) (λz=>z.2) (KG 0 (λz R T=>(z.1,R,T,z.2)) (λw=>((w.1,w.2.1,w.2.2.1,w.2.2.2))) (λv t=>[t])) x
def nj (x:pR×(η)×(η)×Y uX):J (Int×iI×(θ)×(Y dI)×(η)×(η)×Ya29×(η)×Y η):=
 (av (ii x.1) λq=>(bo (bc (ah ([]:η)+ah x.2.1) 8) (bo (bc (ah ([]:η)+ah x.p2) 8) (bx 0 (aY x.q3) (bG eI x.q3 0 λD=>(av (ch D) λs=>(bx 1 (aY x.q3) (bG eI x.q3 1 λA=>(av (ch A) λd=>(bx 2 (aY x.q3) (bG eI x.q3 2 λz=>(av (ch z) λF=>U)) (Z (q.1,q.2.1,q.p2,q.q3,(([]:η)++x.2.1),(([]:η)++x.p2),(s.1.1,s.1.2,d.1.1,d.2.1,d.2.2,d.1.2),s.2))))) U))) U))))
def gy (x:Bt×w7×Int×Int):J C6:=
 SG 0 nj (λz=>z.1) (λz=>z.2.1) (KG 0 (λz R T=>(z.1,R,T,z.2.1,z.2.2)) (λw=>((w.1,w.2.1,w.2.2.1,w.2.2.2.1),w.2.2.2.2)) (λv t=>[t,v.2])) x
def nh (x:pR×(η)×(η)×Y uX):J (Int×iI×(θ)×(Y dI)×(η)×(η)×(uX×Int×Int)×(η)×Y η):=
 (av (ii x.1) λq=>(bo (bc (ah ([]:η)+ah x.2.1) 8) (bo (bc (ah ([]:η)+ah x.p2) 8) (bx 0 (aY x.q3) (bG eI x.q3 0 λD=>(av (ch D) λd=>(bx 1 (aY x.q3) (bG eI x.q3 1 λA=>(av (ch A) λs=>(bx 2 (aY x.q3) (bG eI x.q3 2 λz=>(av (ch z) λF=>U)) (Z (q.1,q.2.1,q.p2,q.q3,(([]:η)++x.2.1),(([]:η)++x.p2),((d.1.1,d.2.1,d.2.2,d.1.2),s.1),s.2))))) U))) U))))
def fP (x:Bt×w7×Int×Int):J C6:=
 SG 1 nh (λz=>z.2.1) (λz=>z.2.2) (KG 1 (λz R T=>(z.1,z.2.1,R,T,z.2.2)) (λw=>(w.1,(w.2.1,w.2.2.1,w.2.2.2.1,w.2.2.2.2))) (λv t=>[v.1,t])) x
def ng (x:pR×(η)×(η)×Y uX):J (Int×iI×(θ)×(Y dI)×(η)×(η)×Ya27×(η)×Y η):=
 (av (ii x.1) λs=>(bo (bc (ah ([]:η)+ah x.2.1) 8) (bo (bc (ah ([]:η)+ah x.p2) 8) (bx 0 (aY x.q3) (bG eI x.q3 0 λI=>(av (ch I) λz=>(bx 1 (aY x.q3) (bG eI x.q3 1 λF=>(av (ch F) λq=>(bx 2 (aY x.q3) (bG eI x.q3 2 λD=>(av (ch D) λd=>(bx 3 (aY x.q3) (bG eI x.q3 3 λA=>(av (ch A) λL=>U)) (Z (s.1,s.2.1,s.p2,s.q3,(([]:η)++x.2.1),(([]:η)++x.p2),(z.1.1,z.1.2,(q.1.1,q.2.1,q.2.2,q.1.2),d.1.1,d.2.1,d.2.2,d.1.2),z.2))))) U))) U))) U))))
def jt (x:Bt×w7×Int×Int):J C6:=
 SG 0 ng (λz=>z.1) (λz=>z.2.1) (KG 0 (λz R T=>(z.1,R,T,z.2.1,z.p2,z.q3)) (λw=>((w.1,w.2.1,w.2.2.1,w.2.2.2.1),w.2.2.2.2.1,w.2.2.2.2.2)) (λv t=>[t,v.2.1,v.2.2])) x
def ne (x:pR×(η)×(η)×Y uX):J (Int×iI×(θ)×(Y dI)×(η)×(η)×Ya28×(η)×Y η):=
 (av (ii x.1) λs=>(bo (bc (ah ([]:η)+ah x.2.1) 8) (bo (bc (ah ([]:η)+ah x.p2) 8) (bx 0 (aY x.q3) (bG eI x.q3 0 λI=>(av (ch I) λq=>(bx 1 (aY x.q3) (bG eI x.q3 1 λF=>(av (ch F) λz=>(bx 2 (aY x.q3) (bG eI x.q3 2 λD=>(av (ch D) λd=>(bx 3 (aY x.q3) (bG eI x.q3 3 λA=>(av (ch A) λL=>U)) (Z (s.1,s.2.1,s.p2,s.q3,(([]:η)++x.2.1),(([]:η)++x.p2),((q.1.1,q.2.1,q.2.2,q.1.2),z.1.1,z.1.2,d.1.1,d.2.1,d.2.2,d.1.2),z.2))))) U))) U))) U))))
def iD (x:Bt×w7×Int×Int):J C6:=
 SG 1 ne (λz=>z.2.1) (λz=>z.p2) (KG 1 (λz R T=>(z.1,z.2.1,R,T,z.p2,z.q3)) (λw=>(w.1,(w.2.1,w.2.2.1,w.2.2.2.1,w.2.2.2.2.1),w.2.2.2.2.2)) (λv t=>[v.1,t,v.2.2])) x
def m_ (x:pR×(η)×(η)×Y uX):J (Int×iI×(θ)×(Y dI)×(η)×(η)×(uX×uX×Int×Int)×(η)×Y η):=
 (av (ii x.1) λs=>(bo (bc (ah ([]:η)+ah x.2.1) 8) (bo (bc (ah ([]:η)+ah x.p2) 8) (bx 0 (aY x.q3) (bG eI x.q3 0 λI=>(av (ch I) λq=>(bx 1 (aY x.q3) (bG eI x.q3 1 λF=>(av (ch F) λd=>(bx 2 (aY x.q3) (bG eI x.q3 2 λD=>(av (ch D) λz=>(bx 3 (aY x.q3) (bG eI x.q3 3 λA=>(av (ch A) λL=>U)) (Z (s.1,s.2.1,s.p2,s.q3,(([]:η)++x.2.1),(([]:η)++x.p2),((q.1.1,q.2.1,q.2.2,q.1.2),(d.1.1,d.2.1,d.2.2,d.1.2),z.1),z.2))))) U))) U))) U))))
def gU (x:Bt×w7×Int×Int):J C6:=
 SG 2 m_ (λz=>z.p2) (λz=>z.q3) (KG 2 (λz R T=>(z.1,z.2.1,z.p2,R,T,z.q3)) (λw=>(w.1,w.2.1,(w.2.2.1,w.2.2.2.1,w.2.2.2.2.1,w.2.2.2.2.2))) (λv t=>[v.1,v.2.1,t])) x
def m8 (x:pR×(η)×(η)×Y uX):J (Int×iI×(θ)×(Y dI)×(η)×(η)×Ya23×(η)×Y η):=
 (av (ii x.1) λz=>(bo (bc (ah ([]:η)+ah x.2.1) 8) (bo (bc (ah ([]:η)+ah x.p2) 8) (bx 0 (aY x.q3) (bG eI x.q3 0 λz2=>(av (ch z2) λD=>(bx 1 (aY x.q3) (bG eI x.q3 1 λL=>(av (ch L) λs=>(bx 2 (aY x.q3) (bG eI x.q3 2 λI=>(av (ch I) λq=>(bx 3 (aY x.q3) (bG eI x.q3 3 λF=>(av (ch F) λd=>(bx 4 (aY x.q3) (bG eI x.q3 4 λA=>(av (ch A) λy11=>U)) (Z (z.1,z.2.1,z.p2,z.q3,(([]:η)++x.2.1),(([]:η)++x.p2),(D.1.1,D.1.2,(s.1.1,s.2.1,s.2.2,s.1.2),(q.1.1,q.2.1,q.2.2,q.1.2),d.1.1,d.2.1,d.2.2,d.1.2),D.2))))) U))) U))) U))) U))))
def mY (x:Bt×w7×Int×Int):J C6:=
 SG 0 m8 (λz=>z.1) (λz=>z.2.1) (KG 0 (λz R T=>(z.1,R,T,z.2.1,z.p2,z.p3,z.q4)) (λw=>((w.1,w.2.1,w.2.2.1,w.2.2.2.1),w.2.2.2.2.1,w.2.2.2.2.2.1,w.2.2.2.2.2.2)) (λv t=>[t,v.2.1,v.2.2.1,v.2.2.2])) x
def m7 (x:pR×(η)×(η)×Y uX):J (Int×iI×(θ)×(Y dI)×(η)×(η)×Ya24×(η)×Y η):=
 (av (ii x.1) λz=>(bo (bc (ah ([]:η)+ah x.2.1) 8) (bo (bc (ah ([]:η)+ah x.p2) 8) (bx 0 (aY x.q3) (bG eI x.q3 0 λz2=>(av (ch z2) λs=>(bx 1 (aY x.q3) (bG eI x.q3 1 λL=>(av (ch L) λD=>(bx 2 (aY x.q3) (bG eI x.q3 2 λI=>(av (ch I) λq=>(bx 3 (aY x.q3) (bG eI x.q3 3 λF=>(av (ch F) λd=>(bx 4 (aY x.q3) (bG eI x.q3 4 λA=>(av (ch A) λy11=>U)) (Z (z.1,z.2.1,z.p2,z.q3,(([]:η)++x.2.1),(([]:η)++x.p2),((s.1.1,s.2.1,s.2.2,s.1.2),D.1.1,D.1.2,(q.1.1,q.2.1,q.2.2,q.1.2),d.1.1,d.2.1,d.2.2,d.1.2),D.2))))) U))) U))) U))) U))))
def mX (x:Bt×w7×Int×Int):J C6:=
 SG 1 m7 (λz=>z.2.1) (λz=>z.p2) (KG 1 (λz R T=>(z.1,z.2.1,R,T,z.p2,z.p3,z.q4)) (λw=>(w.1,(w.2.1,w.2.2.1,w.2.2.2.1,w.2.2.2.2.1),w.2.2.2.2.2.1,w.2.2.2.2.2.2)) (λv t=>[v.1,t,v.2.2.1,v.2.2.2])) x
def m6 (x:pR×(η)×(η)×Y uX):J (Int×iI×(θ)×(Y dI)×(η)×(η)×Ya25×(η)×Y η):=
 (av (ii x.1) λz=>(bo (bc (ah ([]:η)+ah x.2.1) 8) (bo (bc (ah ([]:η)+ah x.p2) 8) (bx 0 (aY x.q3) (bG eI x.q3 0 λz2=>(av (ch z2) λs=>(bx 1 (aY x.q3) (bG eI x.q3 1 λL=>(av (ch L) λq=>(bx 2 (aY x.q3) (bG eI x.q3 2 λI=>(av (ch I) λD=>(bx 3 (aY x.q3) (bG eI x.q3 3 λF=>(av (ch F) λd=>(bx 4 (aY x.q3) (bG eI x.q3 4 λA=>(av (ch A) λy11=>U)) (Z (z.1,z.2.1,z.p2,z.q3,(([]:η)++x.2.1),(([]:η)++x.p2),((s.1.1,s.2.1,s.2.2,s.1.2),(q.1.1,q.2.1,q.2.2,q.1.2),D.1.1,D.1.2,d.1.1,d.2.1,d.2.2,d.1.2),D.2))))) U))) U))) U))) U))))
def lx (x:Bt×w7×Int×Int):J C6:=
 SG 2 m6 (λz=>z.p2) (λz=>z.p3) (KG 2 (λz R T=>(z.1,z.2.1,z.p2,R,T,z.p3,z.q4)) (λw=>(w.1,w.2.1,(w.2.2.1,w.2.2.2.1,w.2.2.2.2.1,w.2.2.2.2.2.1),w.2.2.2.2.2.2)) (λv t=>[v.1,v.2.1,t,v.2.2.2])) x
def mZ (x:pR×(η)×(η)×Y uX):J (Int×iI×(θ)×(Y dI)×(η)×(η)×Ya42×(η)×Y η):=
 (av (ii x.1) λz=>(bo (bc (ah ([]:η)+ah x.2.1) 8) (bo (bc (ah ([]:η)+ah x.p2) 8) (bx 0 (aY x.q3) (bG eI x.q3 0 λz2=>(av (ch z2) λs=>(bx 1 (aY x.q3) (bG eI x.q3 1 λL=>(av (ch L) λq=>(bx 2 (aY x.q3) (bG eI x.q3 2 λI=>(av (ch I) λd=>(bx 3 (aY x.q3) (bG eI x.q3 3 λF=>(av (ch F) λD=>(bx 4 (aY x.q3) (bG eI x.q3 4 λA=>(av (ch A) λy11=>U)) (Z (z.1,z.2.1,z.p2,z.q3,(([]:η)++x.2.1),(([]:η)++x.p2),((s.1.1,s.2.1,s.2.2,s.1.2),(q.1.1,q.2.1,q.2.2,q.1.2),(d.1.1,d.2.1,d.2.2,d.1.2),D.1),D.2))))) U))) U))) U))) U))))
def kj (x:Bt×w7×Int×Int):J C6:=
 SG 3 mZ (λz=>z.p3) (λz=>z.q4) (KG 3 (λz R T=>(z.1,z.2.1,z.p2,z.p3,R,T,z.q4)) (λw=>(w.1,w.2.1,w.2.2.1,(w.2.2.2.1,w.2.2.2.2.1,w.2.2.2.2.2.1,w.2.2.2.2.2.2))) (λv t=>[v.1,v.2.1,v.2.2.1,t])) x
def zm (x:Bt×w7×Int×Int):J C6:=orE (mY x) (orE (mX x) (orE (lx x) (orE (kj x) (orE (jt x) (orE (iD x) (orE (gU x) (orE (gy x) (orE (fP x) (fQ x)))))))))
def vp (x:Bt×w7×Y Γ):J ((Y jD)×pR×(η)×(η)×Y uX):=
 (iter (σ:=Int×(Y jD)×Bt×w7×Int) (λx1=>(jn (bx x1.1 (aY x.2.2) (aB ((fK (aY x1.2.1) 400),x1.2)) (aB (aa,x1.2))) λx2=>(aF x2.1 (jn (α:=(Y jD)×Bt×w7×Int) (bG im x.2.2 x1.1 λq=>(av (zm (x2.p2,x2.p3,q)) λd=>(aF d.2.2 (bo (bc (ah x2.2.1+ah ([d.2.1])) 88) (aB ((x2.2.1++([d.2.1])),x2.p2,d.1,x2.q4))) (aB x2.2)))) λs=>(cI ((cu x1.1),s))) (aB (x2.2.1,x2.p3))))) (0,([]:Y jD),x.1,x.2.1,0))
def yh (x:Bt×Y Γ):J ((eP×Y jD)×pR×(η)×(η)×Y uX):=
 (av (pt x.1) λs=>(aF (!s) (Z (((([]:Y RJ),([]:Y (ζ×Bool)),([]:Y jC),([]:Y ζ),([]:Y ζ),([]:Y ν)),([]:Y jD)),(([]:Y (Int×η)),0,([]:θ),([]:Y dI)),([]:η),([]:η),([]:Y uX))) (av (tB x.1) λq=>(av (vp (x.1,q,x.2)) λd=>(Z ((x.1.1,d.1),d.2))))))
def bC (x:Int×(η)×Int):J (Int×(η)×Int):=
 (jn (jk (aY x.2.1) x.2.2 (aB (M,x.2)) (aB ((fK x.1 1),x.2))) λx1=>(aF x1.1 (Z (0,x1.2)) (lt (cu x1.2.2) λq=>(bG (.int .u8) x1.2.1 (a9 .i64 (q-1)) λd=>(bo (!decide ((x.1:Int)=0)) (Z ((bp (a9 .i64 d) x.1),x1.2.1,(cu x1.2.2))))))))
def qZ (x:Int):J (Xp):=
 (Z (d8 (1,x,[],([]:Y Xp))))
def pw (x:ζ):J (Xp):=
 (Z (d8 (2,0,x,([]:Y Xp))))
def nJ (x:Int×Xp×Xp):J (Xp):=
 (Z (d8 (x.1,0,[],[d8 ((Xp.op x.2.1),(Xp.n x.2.1),(Xp.name x.2.1),(Xp.l x.2.1)),d8 ((Xp.op x.2.2),(Xp.n x.2.2),(Xp.name x.2.2),(Xp.l x.2.2))])))
def jq (x:ζ×Xp):J (Sx):=
 (Z (oD (1,0,x.1,[],([]:Y Xp),d8 ((Xp.op x.2),(Xp.n x.2),(Xp.name x.2),(Xp.l x.2)),([]:Y Sx),([]:Y Sx))))
def r4 (x:Unit):J vY:=
 (Z ([(1,0,[120],0,0,[]),(1,0,[121],0,1,[]),(2,0,[118],0,0,[]),(1,0,[113],2,0,[]),(3,0,[109],0,0,[]),(3,0,[110],0,0,[]),(4,0,[114],0,0,[]),(5,0,[99],0,0,[109]),(6,0,[102],0,0,[])]))
def oC (x:η):J (Y Γ):=
 (iter (σ:=Int×Y Γ) (λx1=>(bx x1.1 (aY x) (bG (.int .u8) x x1.1 λq=>(bG (.int .u8) x x1.1 λd=>(bo (bc (ah x1.2+ah ([((bp (a9 .i64 q) 4),(a9 .i64 ((bp (a9 .i64 (Int.tdiv (a9 .i64 d) 4)) 5)-1)))])) 16) (cI ((cu x1.1),(x1.2++([((bp (a9 .i64 q) 4),(a9 .i64 ((bp (a9 .i64 (Int.tdiv (a9 .i64 d) 4)) 5)-1)))]))))))) (aB x1.2))) (0,([]:Y Γ)))
def nS (rmade_maker_expr:Xx->J ad9) (x:Int×Bu×gS×Bool×Y ζ):J ad9:=
 (av (bC (10,x.p2)) λA=>(jn (α:=Bool×Bu×gS×RK×(Int×Int×ζ)×Y ζ) (bx A.1 2 (aB (M,x.2.1,A.2,x.q3,(0,0,[]),[[97],[98],[120],[121],[118],[120],[121]])) (bf x.1 0 (aB ((cP 7 A.1),x.2.1,A.2,x.q3,(0,0,[]),[[97],[98],[120],[121],[118],[120],[121]])) (aB (aa,x.2.1,A.2,x.q3,(0,0,[]),[[97],[98],[120],[121],[118],[120],[121]])))) λx2=>(aF x2.1 (av (bC (4,x2.p2)) λy3=>(av (qZ y3.1) λF=>(Z (d8 ((Xp.op F),(Xp.n F),(Xp.name F),(Xp.l F)),x2.2.1,y3.2,x2.p3)))) (bx A.1 7 (av (bC ((aY x2.q5),x2.p2)) λy5=>(j7 (.str) x2.q5 y5.1 λz6=>(av (pw z6) λD=>(Z (d8 ((Xp.op D),(Xp.n D),(Xp.name D),(Xp.l D)),x2.2.1,y5.2,x2.p3))))) (bf A.1 7 (av (rmade_maker_expr (0,x2.2.1,x2.p2,x2.p3)) λz=>(bo (((x2.p3.1==z.p3)&&M)&&aw (ah x2.p3.2) (ah z.q4)&&M) (Z (d8 (3,0,[113],[d8 ((Xp.op z.1),(Xp.n z.1),(Xp.name z.1),(Xp.l z.1))]),z.2)))) (av (bC ((aU (ah ([6,7,8,11,13,17]))),x2.p2)) λL=>(j7 aM ([6,7,8,11,13,17]) L.1 λI=>(av (rmade_maker_expr ((a9 .i64 (x.1-1)),x2.2.1,L.2,x2.p3)) λd=>(bo (((x2.p3.1==d.p3)&&M)&&aw (ah x2.p3.2) (ah d.q4)&&M) (av (rmade_maker_expr ((a9 .i64 (x.1-1)),d.2)) λs=>(bo (((d.p3==s.p3)&&M)&&aw (ah d.q4) (ah s.q4)&&M) (av (nJ (I,d.1,s.1)) λq=>(Z (d8 ((Xp.op q),(Xp.n q),(Xp.name q),(Xp.l q)),s.2))))))))))))))
def ik:Nat->Xx->J ad9
 |0,_=>U
 |n+1,x=>nS (ik n) x
theorem xO (n:Nat) (x:Int×Bu×gS×Bool×Y ζ):ik (n+1) x=nS (ik n) x:=rfl
def eZ (x:Int×Bu×gS×Bool×Y ζ):J ad9:=ik fuel x
def eC (x:ζ×Bu×gS×Bool×Y ζ):J (Bool×Bu×gS×Bool×Y ζ):=
 (av (jU (x.q4,x.1)) λd=>(Z ((cP 0 d),x.2)))
def mG (rmade_maker_stmts:adb->J Xw) (rmade_maker_stmt:Xx->J aa0) (rmade_maker_block:ada->J aa1) (x:Γ×Bu×gS×Bool×Y ζ):J Xw:=
 (iter (σ:=Int×Bu×gS×(Y Sx)×Bool×Y ζ) (λx1=>(jn (bx x1.1 x.1.2 (bf x1.1 0 (aB (M,x1.2)) (aB ((fK 0 x1.2.1.2.1),x1.2))) (aB (aa,x1.2))) λx2=>(aF x2.1 (av (rmade_maker_stmt (x.1.1,x2.2.1,x2.p2,x2.q4)) λd=>(bo (((x2.p4==x2.p4)&&M)&&aw (ah x2.q5) (ah x2.q5)&&M) (bo (bc (ah x2.p3+ah ([dW d.1])) 176) (cI ((cu x1.1),d.2.1,d.p2,(x2.p3++([dW d.1])),d.q3))))) (aB (x2.2.1,x2.p2,x2.q4,x2.p3))))) (0,x.2.1,x.p2,([]:Y Sx),x.q3))
def nR (rmade_maker_stmts:adb->J Xw) (rmade_maker_stmt:Xx->J aa0) (rmade_maker_block:ada->J aa1) (x:Int×Bu×gS×Bool×Y ζ):J aa0:=
 (av (bC (18,x.p2)) λL=>(jn (α:=Bool×Bu×gS×UH×Bool×Y ζ) (bx 0 x.1 (lt (a9 .i64 (x.2.1.2.1-1)) λz3=>(bx 0 z3 (aB ((!x.2.1.p3),(x.2.1.1,(a9 .i64 (x.2.1.2.1-1)),x.2.1.2.2),L.2,(0,0,[],[],0,0,[]),x.q3)) (aB (aa,(x.2.1.1,(a9 .i64 (x.2.1.2.1-1)),x.2.1.2.2),L.2,(0,0,[],[],0,0,[]),x.q3)))) (aB (aa,(x.2.1.1,(a9 .i64 (x.2.1.2.1-1)),x.2.1.2.2),L.2,(0,0,[],[],0,0,[]),x.q3))) λx2=>(bx L.1 4 (j7 (.str) ([[120],[121],[120],[118]]) L.1 λz4=>(av (eZ (1,x2.2.1,x2.p2,x2.q4)) λy5=>(bo (((x2.p4==y5.p3)&&M)&&aw (ah x2.q5) (ah y5.q4)&&M) (av (jq (z4,y5.1)) λy6=>(Z (dW y6,y5.2)))))) (bf L.1 4 (av (bC (2,x2.p2)) λy7=>(j7 (.str) ([[97],[98]]) y7.1 λz8=>(av (eZ (1,x2.2.1,y7.2,x2.q4)) λy9=>(bo (((x2.p4==y9.p3)&&M)&&aw (ah x2.q5) (ah y9.q4)&&M) (av (jq (z8,y9.1)) λy10=>(Z (dW y10,y9.2))))))) (bf L.1 5 (av (eZ (0,x2.2.1,x2.p2,x2.q4)) λy11=>(bo (((x2.p4==y11.p3)&&M)&&aw (ah x2.q5) (ah y11.q4)&&M) (av (eZ (1,y11.2)) λy12=>(bo (((y11.p3==y12.p3)&&M)&&aw (ah y11.q4) (ah y12.q4)&&M) (Z (oD (1,0,[113],[],[d8 ((Xp.op y11.1),(Xp.n y11.1),(Xp.name y11.1),(Xp.l y11.1))],d8 ((Xp.op y12.1),(Xp.n y12.1),(Xp.name y12.1),(Xp.l y12.1)),([]:Y Sx),([]:Y Sx)),y12.2)))))) (jn (bf L.1 6 (aB ((fK 0 x.1),x2.2)) (aB (aa,x2.2))) λx13=>(aF x13.1 (av (eZ (1,x13.2.1,x13.p2,x13.q4)) λz=>(bo (((x13.p4==z.p3)&&M)&&aw (ah x13.q5) (ah z.q4)&&M) (av (rmade_maker_stmts (((a9 .i64 (x.1-1)),1),z.2)) λI=>(bo (((z.p3==z.p3)&&M)&&aw (ah z.q4) (ah z.q4)&&M) (jn (α:=Bu×gS×UH×(Int×Int×(ζ)×(ζ)×Int×Int×(ζ)×Y Xp)×RK×(Y Sx)×Y Sx) (av (bC (2,I.2.1)) λy17=>(bf y17.1 1 (av (rmade_maker_stmts (((a9 .i64 (x.1-1)),1),I.1,y17.2,I.p2)) λy18=>(bo (((I.p2.1==I.p2.1)&&M)&&aw (ah I.p2.2) (ah I.p2.2)&&M) (aB (y18.1,y18.2.1,x13.p3,(2,0,[],[],(Xp.op z.1),(Xp.n z.1),(Xp.name z.1),(Xp.l z.1)),y18.p2,I.q3,y18.q3)))) (aB (I.1,y17.2,x13.p3,(2,0,[],[],(Xp.op z.1),(Xp.n z.1),(Xp.name z.1),(Xp.l z.1)),I.p2,I.q3,([]:Y Sx))))) λx16=>(Z (oD (x16.p3.1,x16.p3.2.1,x16.p3.p2,x16.p3.p3,([]:Y Xp),d8 x16.p3.q4,x16.q5),x16.1,x16.2.1,x16.p4))))))) (jn (bf L.1 7 (aB ((fK 0 x.1),x13.2)) (aB (aa,x13.2))) λd=>(aF d.1 (av (pw ([98])) λy20=>(av (qZ 2) λy21=>(av (nJ (13,y20,y21)) λy22=>(av (rmade_maker_stmts (((a9 .i64 (x.1-1)),1),(d.2.1.1,d.2.1.2.1,d.2.1.p2,d.2.1.p3,d.2.1.p4,M),d.p2,d.q4)) λy23=>(bo (((d.p4==d.p4)&&M)&&aw (ah d.q5) (ah d.q5)&&M) (av (pw ([98])) λy24=>(av (qZ 1) λy25=>(av (nJ (6,y24,y25)) λy26=>(av (jq ([98],y26)) λy27=>(bo (bc (ah y23.q3+ah ([dW y27])) 176) (Z (oD (3,0,[],[],([]:Y Xp),d8 ((Xp.op y22),(Xp.n y22),(Xp.name y22),(Xp.l y22)),(y23.q3++([dW y27])),([]:Y Sx)),(y23.1.1,y23.1.2.1,y23.1.p2,y23.1.p3,y23.1.p4,d.2.1.q5),y23.2.1,y23.p2)))))))))))) (jn (α:=Bool×Bu×gS×UH×Bool×Y ζ) (bf L.1 8 (aF x2.1 (j7 (.str) ([[109],[110]]) (a9 .i64 (L.1-8)) λz29=>(av (eC (z29,d.2.1,d.p2,d.q4)) λy30=>(bo (((d.p4==y30.p3)&&M)&&aw (ah d.q5) (ah y30.q4)&&M) (aB ((!y30.1),y30.2.1,y30.p2,d.p3,y30.q3))))) (aB (aa,d.2))) (bf L.1 9 (aF x2.1 (j7 (.str) ([[109],[110]]) (a9 .i64 (L.1-8)) λz31=>(av (eC (z31,d.2.1,d.p2,d.q4)) λy32=>(bo (((d.p4==y32.p3)&&M)&&aw (ah d.q5) (ah y32.q4)&&M) (aB ((!y32.1),y32.2.1,y32.p2,d.p3,y32.q3))))) (aB (aa,d.2))) (aB (aa,d.2)))) λq=>(aF q.1 (j7 (.str) ([[109],[110]]) (a9 .i64 (L.1-8)) λz33=>(av (rmade_maker_block ((z33,(a9 .i64 (x.1-1))),q.2.1,q.p2,q.q4)) λy34=>(bo (((q.p4==q.p4)&&M)&&aw (ah q.q5) (ah q.q5)&&M) (Z (oD (4,0,z33,[],([]:Y Xp),d8 (0,0,[],([]:Y Xp)),y34.1,([]:Y Sx)),y34.2))))) (jn (α:=Bool×Bu×gS×UH×Bool×Y ζ) (bf L.1 10 (aF x2.1 (av (eC ([114],q.2.1,q.p2,q.q4)) λy36=>(bo (((q.p4==y36.p3)&&M)&&aw (ah q.q5) (ah y36.q4)&&M) (aB ((!y36.1),y36.2.1,y36.p2,q.p3,y36.q3)))) (aB (aa,q.2))) (bf L.1 11 (aF x2.1 (av (eC ([114],q.2.1,q.p2,q.q4)) λy37=>(bo (((q.p4==y37.p3)&&M)&&aw (ah q.q5) (ah y37.q4)&&M) (aB ((!y37.1),y37.2.1,y37.p2,q.p3,y37.q3)))) (aB (aa,q.2))) (aB (aa,q.2)))) λx35=>(aF x35.1 (av (rmade_maker_block (([114],(a9 .i64 (x.1-1))),x35.2.1,x35.p2,x35.q4)) λy38=>(bo (((x35.p4==x35.p4)&&M)&&aw (ah x35.q5) (ah x35.q5)&&M) (Z (oD ((a9 .i64 ((a9 .i64 (L.1-10))+5)),0,[114],[],([]:Y Xp),d8 (0,0,[],([]:Y Xp)),y38.1,([]:Y Sx)),y38.2)))) (jn (bf L.1 12 (aB (x2.1,x35.2)) (aB (aa,x35.2))) λA=>(aF A.1 (av (bC (2,A.p2)) λy40=>(av (rmade_maker_stmts ((0,(a9 .i64 (1+y40.1))),(A.2.1.1,A.2.1.2.1,A.2.1.p2,M,A.2.1.q4),y40.2,A.q4)) λy41=>(bo (((A.p4==A.p4)&&M)&&aw (ah A.q5) (ah A.q5)&&M) (Z (oD (7,0,[],[],([]:Y Xp),d8 (0,0,[],([]:Y Xp)),y41.q3,([]:Y Sx)),(y41.1.1,y41.1.2.1,y41.1.p2,aa,y41.1.q4),y41.2.1,y41.p2))))) (jn (bf L.1 13 (aF x2.1 (aB ((!A.2.1.p4),A.2)) (aB (aa,A.2))) (aB (aa,A.2))) λs=>(aF s.1 (av (rmade_maker_stmts (((a9 .i64 (x.1-1)),2),(s.2.1.1,s.2.1.2.1,s.2.1.p2,s.2.1.p3,M,s.2.1.q5),s.p2,s.q4)) λy43=>(bo (((s.p4==s.p4)&&M)&&aw (ah s.q5) (ah s.q5)&&M) (Z (oD (8,0,[],[],([]:Y Xp),d8 (0,0,[],([]:Y Xp)),y43.q3,([]:Y Sx)),(y43.1.1,y43.1.2.1,y43.1.p2,y43.1.p3,aa,y43.1.q5),y43.2.1,y43.p2)))) (jn (α:=Bool×Bu×gS×UH×Bool×Y ζ) (bf L.1 14 (aF x2.1 (aF (!s.2.1.p4) (av (eC ([109],s.2.1,s.p2,s.q4)) λy45=>(bo (((s.p4==y45.p3)&&M)&&aw (ah s.q5) (ah y45.q4)&&M) (aB ((!y45.1),y45.2.1,y45.p2,s.p3,y45.q3)))) (aB (aa,s.2))) (aB (aa,s.2))) (aB (aa,s.2))) λF=>(aF F.1 (av (pw ([120])) λy46=>(av (jq ([97],y46)) λy47=>(Z (oD (4,0,[109],[],([]:Y Xp),d8 (0,0,[],([]:Y Xp)),[oD (9,0,[99],[],([]:Y Xp),d8 (0,0,[],([]:Y Xp)),([]:Y Sx),([]:Y Sx)),dW y47],([]:Y Sx)),F.2.1,F.p2,F.q4)))) (jn (α:=Bool×Bu×gS×UH×Bool×Y ζ) (bf L.1 15 (aF x2.1 (av (eC ([109],F.2.1,F.p2,F.q4)) λy49=>(bo (((F.p4==y49.p3)&&M)&&aw (ah F.q5) (ah y49.q4)&&M) (aB ((!y49.1),y49.2.1,y49.p2,F.p3,y49.q3)))) (aB (aa,F.2))) (aB (aa,F.2))) λx48=>(aF x48.1 (av (bC (2,x48.p2)) λy50=>(Z (oD (4,0,[109],[],([]:Y Xp),d8 (0,0,[],([]:Y Xp)),[oD ((a9 .i64 (10+y50.1)),0,[99],[],([]:Y Xp),d8 (0,0,[],([]:Y Xp)),([]:Y Sx),([]:Y Sx))],([]:Y Sx)),x48.2.1,y50.2,x48.q4))) (jn (bf L.1 16 (aF (!x48.2.1.p3) (aF (!x48.2.1.q5) (aB ((!x48.2.1.p2),x48.2)) (aB (aa,x48.2))) (aB (aa,x48.2))) (aB (aa,x48.2))) λD=>(aF D.1 (av (eZ (1,(D.2.1.1,D.2.1.2.1,M,D.2.1.q3),D.p2,D.q4)) λy52=>(bo (((D.p4==y52.p3)&&M)&&aw (ah D.q5) (ah y52.q4)&&M) (Z (oD (14,0,[102],[],([]:Y Xp),d8 ((Xp.op y52.1),(Xp.n y52.1),(Xp.name y52.1),(Xp.l y52.1)),([]:Y Sx),([]:Y Sx)),y52.2)))) (jn (α:=Bool×Bu×gS×UH×Bool×Y ζ) (bf L.1 17 (aF (!D.2.1.p3) (av (bC (2,D.p2)) λy54=>(aB ((decide ((y54.1:Int)=1)),D.2.1,y54.2,D.q3))) (aB (aa,D.2))) (aB (aa,D.2))) λx53=>(aF x53.1 (Z (oD (15,0,[97],[102],([]:Y Xp),d8 (0,0,[],([]:Y Xp)),([]:Y Sx),([]:Y Sx)),x53.2.1,x53.p2,x53.q4)) (av (eZ (1,x53.2.1,x53.p2,x53.q4)) λy55=>(bo (((x53.p4==y55.p3)&&M)&&aw (ah x53.q5) (ah y55.q4)&&M) (av (jq ([120],y55.1)) λy56=>(Z (dW y56,y55.2))))))))))))))))))))))))))))))
def mH (rmade_maker_stmts:adb->J Xw) (rmade_maker_stmt:Xx->J aa0) (rmade_maker_block:ada->J aa1) (x:jC×Bu×gS×Bool×Y ζ):J aa1:=
 (bo (bc (ah x.q4+ah ([x.1.1])) 16) (av (bC (2,x.p2)) λq=>(av (rmade_maker_stmts ((x.1.2,(a9 .i64 (1+q.1))),x.2.1,q.2,x.p3,(x.q4++([x.1.1])))) λd=>(bo (((x.p3==x.p3)&&M)&&aw (ah (x.q4++([x.1.1]))) (ah (x.q4++([x.1.1])))&&M) (bo (cP 0 (a9 .i64 ((aY d.p2.2)-1))&&fK (a9 .i64 ((aY d.p2.2)-1)) (ah d.p2.2)) (Z (d.q3,d.1,d.2.1,aa,(cM (aP (a9 .i64 ((aY d.p2.2)-1))) d.p2.2))))))))
mutual
def dD:Nat->adb->J Xw
 |0,_=>U
 |n+1,x=>mG (dD n) (em n) (dT n) x
def em:Nat->Xx->J aa0
 |0,_=>U
 |n+1,x=>nR (dD n) (em n) (dT n) x
def dT:Nat->ada->J aa1
 |0,_=>U
 |n+1,x=>mH (dD n) (em n) (dT n) x
end
def qj (x:Γ×Bu×gS×Bool×Y ζ):J Xw:=dD fuel x
def oB (x:η):J (vY×Y vX):=
 (av (r4 ()) λy1=>(av (bC (3,x,0)) λL=>(iter (σ:=Int×Bu×vY×dj×gS×RK×Y vX) (λs=>(bx s.1 (a9 .i64 (2+L.1)) (j7 (.str) s.p3 s.1 λz4=>(jn (α:=Bu×vY×dj×jC×gS×RK×(Y vX)×dj×Y Sx) (bf s.1 0 (iter (σ:=Int×Bu×vY×dj×jC×gS×RK×(Y vX)×dj×Y Sx) (λA=>(bx A.1 (a9 .i64 (2+L.1)) (j7 (.str) A.p3 A.1 λz7=>(bo (bc (ah A.q9+ah ([oD (12,0,z7,[],([]:Y Xp),d8 (0,0,[],([]:Y Xp)),([]:Y Sx),([]:Y Sx))])) 176) (cI ((cu A.1),A.2.1,A.p2,A.p3,A.p4,A.p5,A.p6,A.p7,A.p8,(A.q9++([oD (12,0,z7,[],([]:Y Xp),d8 (0,0,[],([]:Y Xp)),([]:Y Sx),([]:Y Sx))])))))) (aB (bZ A.2)))) (1,(s.1,s.2.1.2),s.p2,s.p3,(z4,0),s.p4,s.p5,s.q6,[[97],[98]],([]:Y Sx))) (aB ((s.1,s.2.1.2),s.p2,s.p3,(z4,0),s.p4,s.p5,s.q6,[[97],[98]],([]:Y Sx)))) λz=>(av (bC (3,z.p4)) λy8=>(av (qj ((2,(a9 .i64 (1+y8.1))),z.1,y8.2,z.p5)) λD=>(bo (((z.p5.1==z.p5.1)&&M)&&aw (ah z.p5.2) (ah z.p5.2)&&M) (bo (bc (ah z.q8+ah D.q3) 176) (jn (α:=Bu×vY×dj×jC×gS×RK×(Y vX)×dj×Y Sx) (jn (α:=Bool×Bu×vY×dj×jC×gS×RK×(Y vX)×dj×Y Sx) (bf s.1 0 (av (bC (3,D.2.1)) λI=>(aB ((decide ((I.1:Int)=2)),D.1,z.2.1,z.p2,z.p3,I.2,D.p2,z.p6,z.p7,(z.q8++D.q3)))) (aB (aa,D.1,z.2.1,z.p2,z.p3,D.2.1,D.p2,z.p6,z.p7,(z.q8++D.q3)))) λd=>(aF d.1 (j7 (.str) d.p3 1 λF=>(bo (bc (ah d.q9+ah ([oD (13,0,F,[],([]:Y Xp),d8 (0,0,[],([]:Y Xp)),([]:Y Sx),([]:Y Sx))])) 176) (aB (d.2.1,d.p2,d.p3,d.p4,d.p5,d.p6,d.p7,d.p8,(d.q9++([oD (13,0,F,[],([]:Y Xp),d8 (0,0,[],([]:Y Xp)),([]:Y Sx),([]:Y Sx))])))))) (aB d.2))) λq=>(bo (bc (ah q.p6+ah ([(q.p3.1,q.p3.2,q.q7)])) 72) (cI ((cu s.1),q.1,q.2.1,q.p2,q.p4,q.p5,(q.p6++([(q.p3.1,q.p3.2,q.q7)])))))))))))) (av (av (kl (s.p2,s.q6)) λy14=>(ir y14.1 0 (av (r4 ()) λy15=>(av (qZ 1) λy16=>(av (jq ([120],y16)) λy17=>(Z (y15,[([109,97,105,110],0,[[97],[98]],[dW y17])]))))) (Z (s.p2,s.q6)))) λr=>Z (bZ r)))) (0,(0,20,aa,aa,aa,aa),y1,[[109,97,105,110],[116,49],[116,50],[116,51]],L.2,(M,([]:Y ζ)),([]:Y vX)))))
def wx (x:η):J Bt:=
 (av (oB x) λq=>(av (qh q) λd=>(Z d.1)))
def r7 (x:η×η):J (eP×Y jD):=
 (av (wx x.1) λs=>(av (oC x.2) λq=>(av (yh (s,q)) λd=>(Z d.1))))
def nD (x:Unit):J eP:=
 (iter (σ:=Int×nz×mr×(Y jC)×dj×dj×Y ν) (λx1=>(bx x1.1 (aU (ah ([[109,97,105,110],[116,49],[116,50],[116,51]]))) (iter (σ:=Int×nz×mr×(Y jC)×dj×dj×Y ν) (λx2=>(bx x2.1 6 (bo (bc (ah x2.q6+ah ([(x1.1,x2.1,(a9 .i64 ((a9 .i64 ((a9 .i64 (10*x1.1))+x2.1))+1)))])) 24) (cI ((cu x2.1),x2.2.1,x2.p2,x2.p3,x2.p4,x2.p5,(x2.q6++([(x1.1,x2.1,(a9 .i64 ((a9 .i64 ((a9 .i64 (10*x1.1))+x2.1))+1)))]))))) (aB (oL ((cu x1.1),x2.2))))) (0,x1.2)) (aB x1.2))) (0,[([120],0,0,aa,0),([121],0,0,aa,1),([118],0,0,M,0),([113],0,2,aa,0),([113],1,2,aa,0)],[([109],aa),([110],aa),([114],M)],[([99],0)],[[102]],[[109,97,105,110],[116,49],[116,50],[116,51]],([]:Y ν)))
def kW (x:pR×(η)×(η)×η):J η:=
 (iter (σ:=Int×η) (λx1=>(bx x1.1 (aY x.1.q3) (jn (α:=η) (bG gF x.1.q3 x1.1 λd=>(bf d.1 3 (bo (bc (ah x1.2+ah ([x1.1])) 8) (aB (x1.2++([x1.1])))) (aB x1.2))) λx2=>(cI ((cu x1.1),x2))) (aB x1.2))) (0,([]:η)))
def sS (x:Unit):J η:=
 (Z ([3,3,3,3,3,4,4,4,4,4,5,5,5,6,6,6,7,7,7,8,9,10,11,12,13,14,14,15,16,16,17,17,18,18,19,20,1,1,2,21,22,23,23]))
def ov (x:Γ×(η)×Int):J (Int×(η)×Int):=
 (jn (bf x.1.1 3 (aB ((decide ((x.1.1:Int)=3)),x.2)) (aB ((decide ((x.1.1:Int)=4)),x.2))) λx1=>(aF x1.1 (av (bC (8,x1.2)) λD=>(j7 aM ([0,0,0,1,1,2,3,4]) D.1 λF=>(Z (F,D.2)))) (jn (bf x.1.1 6 (aB ((decide ((x.1.1:Int)=6)),x1.2)) (aB ((decide ((x.1.1:Int)=7)),x1.2))) λq=>(aF q.1 (av (bC (2,q.2)) λI=>(Z I)) (jn (bf x.1.1 8 (aB ((decide ((x.1.1:Int)=8)),q.2)) (bf x.1.1 9 (aB ((decide ((x.1.1:Int)=9)),q.2)) (bf x.1.1 10 (aB ((decide ((x.1.1:Int)=10)),q.2)) (aB ((decide ((x.1.1:Int)=11)),q.2))))) λd=>(aF d.1 (Z (2,d.2)) (jn (bf x.1.1 16 (aB ((decide ((x.1.1:Int)=16)),d.2)) (bf x.1.1 17 (aB ((decide ((x.1.1:Int)=17)),d.2)) (bf x.1.1 18 (aB ((decide ((x.1.1:Int)=18)),d.2)) (bf x.1.1 19 (aB ((decide ((x.1.1:Int)=19)),d.2)) (bf x.1.1 22 (aB ((decide ((x.1.1:Int)=22)),d.2)) (aB ((decide ((x.1.1:Int)=23)),d.2))))))) λs=>(aF s.1 (Z (0,s.2)) (jn (bf x.1.1 20 (aB ((decide ((x.1.1:Int)=20)),s.2)) (aB ((decide ((x.1.1:Int)=21)),s.2))) λz=>(aF z.1 (av (bC (3,z.2)) λA=>(Z ((bp (a9 .i64 ((cu x.1.2)+A.1)) 4),A.2))) (Z ((-1),z.2))))))))))))
def qb (x:(fV×Int×Int)×(η)×Int):J (Int×(η)×Int):=
 (bf x.1.2.1 3 (bG aM x.1.1.2.1 x.1.2.2 λD=>(Z (D,x.2))) (bf x.1.2.1 23 (bG aM x.1.1.p2 0 λA=>(Z (A,x.2))) (jn (bf x.1.2.1 4 (aB ((decide ((x.1.2.1:Int)=4)),x.2,x.1.1)) (aB ((decide ((x.1.2.1:Int)=22)),x.2,x.1.1))) λd=>(aF d.1 (av (bC (3,d.2.1)) λL=>(Z L)) (bf x.1.2.1 5 (av (bC (2,d.2.1)) λI=>(Z I)) (bf x.1.2.1 18 (av (kW d.2.2) λq=>(bx 0 (aY q) (av (bC ((aY q),d.2.1)) λs=>(bG aM q s.1 λz=>(Z (z,s.2)))) (Z ((-1),d.2.1)))) (bf x.1.2.1 19 (av (kW d.2.2) λF=>(Z ((aY F),d.2.1))) (Z (0,d.2.1)))))))))
def gx (x:gS×η):J (η×gS×η):=
 (iter (σ:=Int×gS×(η)×η) (λx1=>(bx x1.1 (aY x.2) (jn (α:=gS×(η)×η) (j7 aM x1.p2 x1.1 λq=>(jn (α:=Bool×gS×(η)×η) (jk (aY x1.p2) (a9 .i64 (x1.1+3)) (av (bC (2,x1.2.1)) λs=>(aB ((decide ((s.1:Int)=1)),s.2,x1.2.2))) (aB (aa,x1.2))) λd=>(aF d.1 (bo (bc (ah d.q3+ah ([q])) 8) (aB (d.2.1,d.p2,(d.q3++([q]))))) (aB d.2)))) λx2=>(cI ((cu x1.1),x2))) (aB (x1.q3,x1.2.1,x1.p2)))) (0,x.1,x.2,([]:η)))
def qc (x:(fV×nz×mr×(Y jC)×dj×dj×Y ν)×gS×(η)×(η)×(η)×η):J (jD×gS×(η)×(η)×(η)×η):=
 (av (bC (4,x.2.1)) λz=>(av (sS ()) λy2=>(av (bC ((aY y2),z.2)) λy3=>(bG aM y2 y3.1 λz4=>(av (bC (6,y3.2)) λy5=>(jn (α:=gS×(η)×(η)×(η)×(η)×fV×eP×C7×Int×Int×Int×Int×Int) (jn (α:=Bool×gS×(η)×(η)×(η)×(η)×fV×eP×C7×Int×Int×Int×Int×Int) (bf z4 1 (aB (M,y5.2,x.p2,x.p3,x.p4,x.q5,x.1.1,x.1.2,(0,0,0,0,0),z.1,z4,0,0,(a9 .i64 ((a9 .i64 (z.1*6))+y5.1)))) (aB ((decide ((z4:Int)=2)),y5.2,x.p2,x.p3,x.p4,x.q5,x.1.1,x.1.2,(0,0,0,0,0),z.1,z4,0,0,(a9 .i64 ((a9 .i64 (z.1*6))+y5.1))))) λA=>(aF A.1 (aB (A.2.1,A.p2,A.p3,A.p4,A.p5,A.p6,A.p7,A.p8,A.p9,A.p10,A.p11,A.p12,(-1))) (aB A.2))) λs=>(av (ov ((s.p9,z.1),s.1)) λy8=>(av (qb ((s.p5,s.p9,y8.1),y8.2)) λy9=>(jn (α:=gS×(η)×(η)×(η)×(η)×C7×Int×Int×Int×Int×Int×η) (jn (bf s.p9 5 (aB (M,y9.2,s.2.1,s.p2,s.p3,s.p4,s.p7,s.p8,s.p9,y8.1,y9.1,s.q12)) (bf s.p9 3 (bG kG s.p6.1 y8.1 λz12=>(aB ((fK 0 z12.2.2.1),y9.2,s.2.1,s.p2,s.p3,s.p4,s.p7,s.p8,s.p9,y8.1,y9.1,s.q12))) (bf s.p9 4 (bG kG s.p6.1 y8.1 λz13=>(aB ((fK 0 z13.2.2.1),y9.2,s.2.1,s.p2,s.p3,s.p4,s.p7,s.p8,s.p9,y8.1,y9.1,s.q12))) (aB (aa,y9.2,s.2.1,s.p2,s.p3,s.p4,s.p7,s.p8,s.p9,y8.1,y9.1,s.q12))))) λq=>(aF q.1 (bf z.1 0 (av (gx (q.2.1,q.p2)) λy14=>(bo (aw (ah q.p2) (ah y14.2.2)&&M) (aB (y14.2.1,y14.2.2,q.p3,q.p4,q.p5,q.p6,q.p7,q.p8,q.p9,q.p10,q.q11,y14.1)))) (bf z.1 1 (av (gx (q.2.1,q.p3)) λy15=>(bo (aw (ah q.p3) (ah y15.2.2)&&M) (aB (y15.2.1,q.p2,y15.2.2,q.p4,q.p5,q.p6,q.p7,q.p8,q.p9,q.p10,q.q11,y15.1)))) (bf z.1 2 (av (gx (q.2.1,q.p4)) λy16=>(bo (aw (ah q.p4) (ah y16.2.2)&&M) (aB (y16.2.1,q.p2,q.p3,y16.2.2,q.p5,q.p6,q.p7,q.p8,q.p9,q.p10,q.q11,y16.1)))) (bf z.1 3 (av (gx (q.2.1,q.p5)) λy17=>(bo (aw (ah q.p5) (ah y17.2.2)&&M) (aB (y17.2.1,q.p2,q.p3,q.p4,y17.2.2,q.p6,q.p7,q.p8,q.p9,q.p10,q.q11,y17.1)))) U)))) (aB (q.2.1,q.p2,q.p3,q.p4,q.p5,q.p6,q.p7,q.p8,q.p9,q.p10,q.q11,([]:η))))) λx10=>(jn (α:=gS×(η)×(η)×(η)×(η)×C7×Int×Int×Int×Int×Int×(η)×η) (jn (bf x10.p7 4 (aB (M,x10)) (aB ((decide ((x10.p7:Int)=22)),x10))) λd=>(aF d.1 (bf z.1 0 (av (gx (d.2.1,d.p2)) λy20=>(bo (aw (ah d.p2) (ah y20.2.2)&&M) (aB (y20.2.1,y20.2.2,d.p3,d.p4,d.p5,d.p6,d.p7,d.p8,d.p9,d.p10,d.p11,d.q12,y20.1)))) (bf z.1 1 (av (gx (d.2.1,d.p3)) λL=>(bo (aw (ah d.p3) (ah L.2.2)&&M) (aB (L.2.1,d.p2,L.2.2,d.p4,d.p5,d.p6,d.p7,d.p8,d.p9,d.p10,d.p11,d.q12,L.1)))) (bf z.1 2 (av (gx (d.2.1,d.p4)) λI=>(bo (aw (ah d.p4) (ah I.2.2)&&M) (aB (I.2.1,d.p2,d.p3,I.2.2,d.p5,d.p6,d.p7,d.p8,d.p9,d.p10,d.p11,d.q12,I.1)))) (bf z.1 3 (av (gx (d.2.1,d.p5)) λF=>(bo (aw (ah d.p5) (ah F.2.2)&&M) (aB (F.2.1,d.p2,d.p3,d.p4,F.2.2,d.p6,d.p7,d.p8,d.p9,d.p10,d.p11,d.q12,F.1)))) U)))) (aB (d.2.1,d.p2,d.p3,d.p4,d.p5,d.p6,d.p7,d.p8,d.p9,d.p10,d.p11,d.q12,([]:η))))) λD=>(Z (D.q6,D.1,D.2.1,D.p2,D.p3,D.p4))))))))))))
def rV (x:(fV×eP×Int×Bool)×(η)×Int):J ((Y jD)×(η)×Int):=
 (bo (cP 0 (aY x.1.2.1.p4)&&cP (aY x.1.2.1.p4) (aY x.1.2.1.p4)&&bc (aP (aY x.1.2.1.p4)) 24&&decide (((aY x.1.2.1.p4):Int)=4)) (jn (α:=gS×fV×eP×(η)×(η)×(η)×η) (bx 0 (aU 4) (jn (α:=gS×fV×eP×(η)×(η)×(η)×η) (jn (α:=Bool×gS×fV×eP×(η)×(η)×(η)×η) (aF x.1.q3 (bG aM x.1.1.q3 0 λz4=>(bx 1 z4 (av (bC (3,x.2)) λy5=>(aB ((decide ((y5.1:Int)=2)),y5.2,x.1.1,x.1.2.1,([]:η),([]:η),([]:η),([]:η)))) (aB (aa,x.2,x.1.1,x.1.2.1,([]:η),([]:η),([]:η),([]:η))))) (aB (aa,x.2,x.1.1,x.1.2.1,([]:η),([]:η),([]:η),([]:η)))) λx3=>(aF x3.1 (bo (bc (ah x3.p4+ah ([1])) 8) (aB (x3.2.1,x3.p2,x3.p3,(x3.p4++([1])),x3.q5))) (aB x3.2))) λx2=>(bx 1 (aU 4) (jn (α:=gS×fV×eP×(η)×(η)×(η)×η) (jn (α:=Bool×gS×fV×eP×(η)×(η)×(η)×η) (aF x.1.q3 (bG aM x2.2.1.q3 1 λz8=>(bx 1 z8 (av (bC (3,x2.1)) λy9=>(aB ((decide ((y9.1:Int)=2)),y9.2,x2.2))) (aB (aa,x2)))) (aB (aa,x2))) λx7=>(aF x7.1 (bo (bc (ah x7.p5+ah ([1])) 8) (aB (x7.2.1,x7.p2,x7.p3,x7.p4,(x7.p5++([1])),x7.q6))) (aB x7.2))) λx6=>(bx 2 (aU 4) (jn (α:=gS×fV×eP×(η)×(η)×(η)×η) (jn (α:=Bool×gS×fV×eP×(η)×(η)×(η)×η) (aF x.1.q3 (bG aM x6.2.1.q3 2 λz12=>(bx 1 z12 (av (bC (3,x6.1)) λy13=>(aB ((decide ((y13.1:Int)=2)),y13.2,x6.2))) (aB (aa,x6)))) (aB (aa,x6))) λA=>(aF A.1 (bo (bc (ah A.p6+ah ([1])) 8) (aB (A.2.1,A.p2,A.p3,A.p4,A.p5,(A.p6++([1])),A.q7))) (aB A.2))) λI=>(bx 3 (aU 4) (jn (α:=gS×fV×eP×(η)×(η)×(η)×η) (jn (α:=Bool×gS×fV×eP×(η)×(η)×(η)×η) (aF x.1.q3 (bG aM I.2.1.q3 3 λz16=>(bx 1 z16 (av (bC (3,I.1)) λy17=>(aB ((decide ((y17.1:Int)=2)),y17.2,I.2))) (aB (aa,I)))) (aB (aa,I))) λz=>(aF z.1 (bo (bc (ah z.q7+ah ([1])) 8) (aB (z.2.1,z.p2,z.p3,z.p4,z.p5,z.p6,(z.q7++([1]))))) (aB z.2))) λF=>(bx 4 (aU 4) (jn (α:=gS×fV×eP×(η)×(η)×(η)×η) (jn (α:=Bool×gS×fV×eP×(η)×(η)×(η)×η) (aF x.1.q3 (bG aM F.2.1.q3 4 λz20=>(bx 1 z20 (av (bC (3,F.1)) λy21=>(aB ((decide ((y21.1:Int)=2)),y21.2,F.2))) (aB (aa,F)))) (aB (aa,F))) λx19=>(aF x19.1 U (aB x19.2))) λx18=>U) (aB F))) (aB I))) (aB x6))) (aB x2))) (aB (x.2,x.1.1,x.1.2.1,([]:η),([]:η),([]:η),([]:η)))) λx1=>(iter (σ:=gS×fV×eP×(Y jD)×(η)×(η)×(η)×η) (λL=>(jn (bx (aY L.p3) x.1.p2 (aB ((fK L.1.2 (aY L.1.1)),L)) (aB (aa,L))) λq=>(aF q.1 (jn (α:=gS×fV×eP×(Y jD)×(η)×(η)×(η)×η) (av (qc ((q.p2,q.p3),q.2.1,q.q5)) λs=>(bo (aw (ah q.q8) (ah s.q5)&&(aw (ah q.p7) (ah s.p4)&&(aw (ah q.p6) (ah s.p3)&&(aw (ah q.p5) (ah s.p2)&&M)))) (av (nE (q.p3,q.p2,s.1)) λy26=>(aF (!y26.2) (aB (s.2.1,q.p2,q.p3,q.p4,s.2.2)) (jn (α:=gS×fV×eP×(Y jD)×jD×fV×(η)×(η)×(η)×η) (jn (bf s.1.2.1 3 (aB (M,s.2.1,q.p2,q.p3,q.p4,s.1,y26.1,s.2.2)) (aB ((decide ((s.1.2.1:Int)=23)),s.2.1,q.p2,q.p3,q.p4,s.1,y26.1,s.2.2))) λd=>(aF d.1 (bf d.p5.1 0 (bG aM d.p2.q3 0 λz29=>(bo (bc (ah d.p7+ah ([z29])) 8) (aB (d.2.1,d.p2,d.p3,d.p4,(0,d.p5.2),d.p6,(d.p7++([z29])),d.q8)))) (bf d.p5.1 1 (bG aM d.p2.q3 1 λz30=>(bo (bc (ah d.p8+ah ([z30])) 8) (aB (d.2.1,d.p2,d.p3,d.p4,(1,d.p5.2),d.p6,d.p7,(d.p8++([z30])),d.q9)))) (bf d.p5.1 2 (bG aM d.p2.q3 2 λz31=>(bo (bc (ah d.p9+ah ([z31])) 8) (aB (d.2.1,d.p2,d.p3,d.p4,(2,d.p5.2),d.p6,d.p7,d.p8,(d.p9++([z31])),d.q10)))) (bf d.p5.1 3 (bG aM d.p2.q3 3 λz32=>(bo (bc (ah d.q10+ah ([z32])) 8) (aB (d.2.1,d.p2,d.p3,d.p4,(3,d.p5.2),d.p6,d.p7,d.p8,d.p9,(d.q10++([z32])))))) U)))) (aB d.2))) λD=>(bo (bc (ah D.p3+ah ([D.p4])) 88) (aB (D.1,D.p5,D.p2,(D.p3++([D.p4])),D.q6)))))))) λx24=>(cI x24)) (aB (q.p4,q.2.1))))) (x1.1,x1.2.1,x1.p2,([]:Y jD),x1.q3))))
def qd (x:η×Int):J (eP×Y jD):=
 (jn (bx 600 (aY x.1) (bo (cP 0 600&&cP 600 (ah x.1)) (aB (cM (aP 600) x.1))) (aB x.1)) λx1=>(av (nD ()) λL=>(av (mV L) λy3=>(av (bC (3,x1,0)) λI=>(iter (σ:=Int×gS×eP×fV×Y jD) (λq=>(jk q.1 (a9 .i64 (1+I.1)) (bo (bc (ah q.q4+ah ([(0,20,q.1,0,0,([]:η),([]:η)),(q.1,1,(-1),0,(-1),([]:η),([]:η))])) 88) (cI ((cu q.1),q.2.1,q.p2,q.p3,(q.q4++([(0,20,q.1,0,0,([]:η),([]:η)),(q.1,1,(-1),0,(-1),([]:η),([]:η))]))))) (av (iter (σ:=Int×gS×eP×fV×(Y jD)×Y jD) (λd=>(bx d.1 (aY q.q4) (jn (α:=gS×eP×fV×(Y jD)×Y jD) (j7 gG d.p4 d.1 λz=>(av (nE (d.p2,d.p3,z)) λF=>(aF F.2 (bo (bc (ah d.q5+ah ([z])) 88) (aB (d.2.1,d.p2,F.1,d.p4,(d.q5++([z]))))) (aB d.2)))) λx7=>(cI ((cu d.1),x7))) (av (av (rV ((d.p3,d.p2,(F4 (lq x.2 0) 60),aa),d.2.1)) λs=>(bo (bc (ah d.q5+ah s.1) 88) (av (mW (d.p2,(d.q5++s.1))) λD=>(ir D.2 0 (av (nD ()) λA=>(Z (A,([]:Y jD)))) (Z (d.p2,(d.q5++s.1))))))) λr=>Z (bZ r)))) (0,q.2.1,q.p2,q.p3,q.q4,([]:Y jD))) λr=>Z (bZ r)))) (1,I.2,L,y3,[(0,1,(-1),0,(-1),([]:η),([]:η))]))))))
def kX (x:(η×(η)×η)×Int):J (eP×Y jD):=
 (bx 0 (aY x.1.2.2) (av (qd (x.1.2.2,x.2)) λq=>(Z q)) (bo (cP 0 (F4 (aY x.1.2.1) x.2)&&cP (F4 (aY x.1.2.1) x.2) (ah x.1.2.1)) (av (r7 (x.1.1,(cM (aP (F4 (aY x.1.2.1) x.2)) x.1.2.1))) λd=>(Z d))))
end
end Go.Proofs.YtiaemgcbndhkfaaGreatDoor.AI
